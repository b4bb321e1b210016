/- Woven by wip/weave/weave.py of this repo (own tool) out of the translation: the contracts of some functions. Lean checks it. -/
import Derived.Test.YtechgjbhgeddjaaDoorQsD
import Derived.Test.YtechgjbhgeddjaaDoorQsDR13
import Derived.Test.YtechgjbhgeddjaaDoorQsDR14
import Derived.Test.YtechgjbhgeddjaaDoorQsSp
namespace Go.Proofs.YtechgjbhgeddjaaDoor.F
open Go.RowKit Go.Proofs.YtechgjbhgeddjaaDoorW.PrintWords Go.Proofs.YtechgjbhgeddjaaDoorW.PrintLast Go.Proofs.YtechgjbhgeddjaaDoorW.PrintMore
attribute [local go_sem] max2_int min2_int max_two min_two max_three min_three max_four min_four   -- for this text's walks alone
set_option linter.unusedVariables false
set_option linter.unusedSimpArgs false
/-! ### pelicanref14_Has: function 60 -/
set_option maxHeartbeats 8000000 in
set_option maxRecDepth 100000 in
theorem pelicanref14_Has.calls (k : Nat) (A0_0 : Option Addr) (c0_0 : Nat) (l0_0 : List Int) (A0_1 : Option Addr) (c0_1 : Nat) (l0_1 : List (S41)) (a0_2 : Int) (a0_3 : Int) (a0_4 : Int) (a1 : Int) (a2 : Int) (r : Bool) (w : World) (hr0_0 : Kd.C (Kd.int .i64) w A0_0 l0_0.length l0_0) (hc0_0 : l0_0.length ≤ c0_0) (hr0_1 : Kd.C k41 w A0_1 l0_1.length l0_1) (hc0_1 : l0_1.length ≤ c0_1) (h : pelicanref14_Has.f k l0_0 l0_1 a0_2 a0_3 a0_4 a1 a2 = some r) :
    Calls Tryd.prog 60 #[.agg #[.slice A0_0 l0_0.length c0_0, .slice A0_1 l0_1.length c0_1, .int .i64 a0_2, .int .i64 a0_3, .int .i64 a0_4], .int .i64 a1, .int .i64 a2] w fun e w' => e = .returned (.bool r) ∧ Below w.heap.size w w' := by
  have hu39 := Tryd.underlying39
  have HR0_0 := Aside0.mk hr0_0
  have HC0_0 := Aside0.mk hc0_0
  clear hr0_0 hc0_0
  have HR0_1 := Aside0.mk hr0_1
  have HC0_1 := Aside0.mk hc0_1
  clear hr0_1 hc0_1
  have HB := Aside0.mk (Below.refl w.heap.size w)
  have H : (if 0 ≤ a1 then (if a1 < (l0_1.length : Int) then ((pelicanref13_In.f k ((rd_T41 l0_1 a1).f0) a2).bind fun t224 => (some t224)) else (none)) else (none)) = some r := h
  clear h
  by_cases c4 : 0 ≤ a1
  · rw [if_pos c4] at H
    have c4b0 : decide (0 ≤ a1) = true := decide_eq_true c4
    clear c4
    by_cases c5 : a1 < (l0_1.length : Int)
    · rw [if_pos c5] at H
      have c5b0 : decide (a1 < (l0_1.length : Int)) = true := decide_eq_true c5
      clear c5
      replace H := Option.bind_eq_some_iff.mp H
      obtain ⟨t224, A60, H⟩ := H
      replace H : (some t224) = some r := H
      have A6 := Aside0.mk A60
      clear A60
      obtain rfl := Option.some.inj H
      go_enter Tryd.func60, Tryd.ntmps60
      go_wp2_with (first | ((with_reducible refine gate_dst (N := 3) rfl ?_); refine box_event ?hg (N := 3) ?hd (cs := #[.slice A0_0 l0_0.length c0_0, .slice A0_1 l0_1.length c0_1, .int .i64 a0_2, .int .i64 a0_3, .int .i64 a0_4]) (t := 39) ?hr ?_; (case hd => rfl); (case hg => rfl); (case hr => first | (go_simp; done) | (go_simp; rfl)); intro gb222 hg w7 hbox hb; have n0_ := Aside0.mk (below_step (by repeat (first | (with_reducible first | exact HB.out | apply below_alloc | apply pw_below_drewN | apply below_drew1) | exact HB.out)) hb); have n1_ := Aside0.mk (hbox); have n2_ := Aside0.mk ((by rw [hg]; exact (below_size (by repeat (first | (with_reducible first | exact HB.out | apply below_alloc | apply pw_below_drewN | apply below_drew1) | exact HB.out))) : w.heap.size ≤ gb222)); have n3_ := Aside0.mk ((by rw [hg]; exact (below_size (by repeat (first | (with_reducible first | exact HB.out | apply below_alloc | apply pw_below_drewN | apply below_drew1) | exact HB.out))) : w.heap.size ≤ gb222)); clear HB; have HB := n0_; have BK222 := n1_; have GW222 := n2_; have GE222 := n3_; clear n0_ n1_ n2_ n3_; clear hb hbox hg; have hcz8_0 : w7.cell? ⟨gb222, 0, none⟩ = some (.slice A0_0 l0_0.length c0_0) := (blk_cell BK222.out 0).trans rfl; have hcz8_1 : w7.cell? ⟨gb222, 1, none⟩ = some (.slice A0_1 l0_1.length c0_1) := (blk_cell BK222.out 1).trans rfl; have hcz8_2 : w7.cell? ⟨gb222, 2, none⟩ = some (.int .i64 a0_2) := (blk_cell BK222.out 2).trans rfl; have hcz8_3 : w7.cell? ⟨gb222, 3, none⟩ = some (.int .i64 a0_3) := (blk_cell BK222.out 3).trans rfl; have hcz8_4 : w7.cell? ⟨gb222, 4, none⟩ = some (.int .i64 a0_4) := (blk_cell BK222.out 4).trans rfl; have hfz8_0 := blk_frozen BK222.out 0; have hfz8_1 := blk_frozen BK222.out 1; have hfz8_2 := blk_frozen BK222.out 2; have hfz8_3 := blk_frozen BK222.out 3; have hfz8_4 := blk_frozen BK222.out 4; have p223 : 0 ≤ (a1 : Int) := of_decide_eq_true (by first | (with_reducible assumption) | assumption); have q223 : a1 < (l0_1.length : Int) := of_decide_eq_true (by first | (with_reducible assumption) | assumption); obtain ⟨ad223, e223, hx223_0, hx223_1, hx223_2⟩ := at_T41 HR0_1.out a1 p223 q223; cases e223; replace hx223_0 := (HB.out.cell (World.block_lt_of_cell? w _ hx223_0)).trans hx223_0; replace hx223_1 := (HB.out.cell (World.block_lt_of_cell? w _ hx223_1)).trans hx223_1; replace hx223_2 := (HB.out.cell (World.block_lt_of_cell? w _ hx223_2)).trans hx223_2; replace p223 := eq_true p223; replace q223 := eq_true q223) | ((with_reducible refine gate_callee (f := 61) rfl ?_); refine goesL_ (some 15) rfl rfl Tryd.func61 (by kernel_rfl) rfl #[.int .i64 ((rd_T41 l0_1 a1).f0), .int .i64 a2] rfl (by (try simp only [List.map_toArray, List.map_cons, List.map_nil]); first | done | rfl | (simp only [List.length_drop, List.length_take]; rfl)) ?_; (with_reducible refine (pelicanref13_In.calls k ((rd_T41 l0_1 a1).f0) a2 t224 _ A6.out).mono ?_); rintro e w' ⟨rfl, ⟨nd, rfl⟩⟩; refine ⟨_, rfl, ?_⟩))
      go_ret
      exact ⟨by first | rfl | (simp [errW_none, errW_some] <;> rfl) | (simp [*, errW_none, errW_some] <;> rfl), by repeat (first | (with_reducible first | exact HB.out | apply below_alloc | apply pw_below_drewN | apply below_drew1 | refine below_set ?_ GE222.out) | exact HB.out)⟩
    · rw [if_neg c5] at H
      exact absurd H (by simp)
  · rw [if_neg c4] at H
    exact absurd H (by simp)
end Go.Proofs.YtechgjbhgeddjaaDoor.F
