/- Woven by wip/weave/weave.py of this repo (own tool) out of the translation: the contracts of some functions. Lean checks it. -/
import Derived.Test.YtechgjbhgeddjaaDoorD
import Derived.Test.YtechgjbhgeddjaaDoorDLampBack
import Derived.Test.YtechgjbhgeddjaaDoorF0
import Derived.Test.YtechgjbhgeddjaaDoorF17
import Derived.Test.YtechgjbhgeddjaaDoorF19
import Derived.Test.YtechgjbhgeddjaaDoorF45
import Derived.Test.YtechgjbhgeddjaaDoorF46
import Derived.Test.YtechgjbhgeddjaaDoorF49
namespace Go.Proofs.YtechgjbhgeddjaaDoor.F
open Go.RowKit Go.Proofs.YtechgjbhgeddjaaDoorW.PrintWords Go.Proofs.YtechgjbhgeddjaaDoorW.PrintLast Go.Proofs.YtechgjbhgeddjaaDoorW.PrintMore
attribute [local go_sem] max2_int min2_int max_two min_two max_three min_three max_four min_four   -- for this text's walks alone
set_option linter.unusedVariables false
set_option linter.unusedSimpArgs false

/-! ### pelicanlaw15_LampBack: function 10 -/
set_option maxHeartbeats 8000000 in
set_option maxRecDepth 100000 in
theorem pelicanlaw15_LampBack.calls (k : Nat) (A0 : Option Addr) (c0 : Nat) (l0 : List Int) (A1 : Option Addr) (c1 : Nat) (l1 : List Int) (a2 : ByteArray) (r : Bool) (HRR0 : r = true) (w : World) (hr0 : Kd.C (Kd.int .i64) w A0 l0.length l0) (hc0 : l0.length ≤ c0) (hr1 : Kd.C (Kd.int .i64) w A1 l1.length l1) (hc1 : l1.length ≤ c1) (hG : GlobOk w) (h : pelicanlaw15_LampBack.f k l0 l1 a2 = some r) :
    Calls Tryd.prog 10 #[.slice A0 l0.length c0, .slice A1 l1.length c1, .string a2] w fun e w' => e = .returned (.bool r) ∧ Below w.heap.size w w' := by
  have HR0 := Aside0.mk hr0
  have HC0 := Aside0.mk hc0
  clear hr0 hc0
  have HR1 := Aside0.mk hr1
  have HC1 := Aside0.mk hc1
  clear hr1 hc1
  have HG := Aside0.mk hG
  clear hG
  have HB := Aside0.mk (Below.refl w.heap.size w)
  have H : ((pelicanlaw15_awake.f k).bind fun t717 => (if t717 = true then (if (l0.length : Int) > 20 then (pelicanlaw15_LampBack.j0 k l0 l1 a2 t717 true) else (if (l1.length : Int) > 20 then (pelicanlaw15_LampBack.j0 k l0 l1 a2 t717 true) else (pelicanlaw15_LampBack.j0 k l0 l1 a2 t717 (decide ((a2.size : Int) > 40))))) else (pelicanlaw15_LampBack.j0 k l0 l1 a2 t717 true))) = some r := h
  clear h
  have HRR := Aside0.mk HRR0
  clear HRR0
  replace H := Option.bind_eq_some_iff.mp H
  obtain ⟨t717, A40, H⟩ := H
  replace H : (if t717 = true then (if (l0.length : Int) > 20 then (pelicanlaw15_LampBack.j0 k l0 l1 a2 t717 true) else (if (l1.length : Int) > 20 then (pelicanlaw15_LampBack.j0 k l0 l1 a2 t717 true) else (pelicanlaw15_LampBack.j0 k l0 l1 a2 t717 (decide ((a2.size : Int) > 40))))) else (pelicanlaw15_LampBack.j0 k l0 l1 a2 t717 true)) = some r := H
  have A4 := Aside0.mk A40
  clear A40
  have HC5 := Aside0.mk H
  clear H
  go_enter Tryd.func10, Tryd.ntmps10
  go_upto_region 2 with (first | ((with_reducible refine gate_callee (f := 30) rfl ?_); refine goesL_ (some 15) rfl rfl Tryd.func30 (by kernel_rfl) rfl #[] rfl (by (try simp only [List.map_toArray, List.map_cons, List.map_nil]); first | done | rfl | (simp only [List.length_drop, List.length_take]; rfl)) ?_; (with_reducible refine (pelicanlaw15_awake.calls k  t717 _ ?side1 A4.out).mono ?_); (case side1 => first | (with_reducible exact HG.out) | (refine GlobOk.below HG.out ?_; repeat (first | (with_reducible first | exact HB.out | apply below_alloc | apply pw_below_drewN | apply below_drew1) | exact HB.out))); rintro e w6 ⟨rfl, hb⟩; refine ⟨_, rfl, ?_⟩; have n0_ := Aside0.mk (below_step (by repeat (first | (with_reducible first | exact HB.out | apply below_alloc | apply pw_below_drewN | apply below_drew1) | exact HB.out)) hb); clear HB; have HB := n0_; clear n0_; (try clear hb); (try clear hb2); (try clear hk); (try clear hi)))
  (try simp only [Act.put, List.setIfInBounds_toArray, List.set_cons_zero, List.set_cons_succ])
  go_cut [32] (fun v32 wc => ∃ (kq : Nat) (x32_4 : Bool), v32 = .bool x32_4 ∧ Aside0 (pelicanlaw15_LampBack.j0 kq l0 l1 a2 t717 x32_4 = some r) ∧ Aside0 (kq ≤ k) ∧ Aside0 (Below w.heap.size w wc))
  case first =>
    have H := HC5.out
    clear HC5
    by_cases c7 : t717 = true
    · subst c7
      have H1 : (if (l0.length : Int) > 20 then (pelicanlaw15_LampBack.j0 k l0 l1 a2 true true) else (if (l1.length : Int) > 20 then (pelicanlaw15_LampBack.j0 k l0 l1 a2 true true) else (pelicanlaw15_LampBack.j0 k l0 l1 a2 true (decide ((a2.size : Int) > 40))))) = some r := by rw [if_pos rfl] at H; exact H
      clear H
      have H := H1
      clear H1
      by_cases c8 : (l0.length : Int) > 20
      · rw [if_pos c8] at H
        have c8b0 : decide (20 < (l0.length : Int)) = true := decide_eq_true c8
        have c8b1 : decide (20 < l0.length) = true := decide_eq_true (by omega)
        clear c8
        (first | rw [c8b0] | (simp only [i64_w, i32_w]; rw [c8b0]) | skip)
        have H' := Aside0.mk H
        clear H
        go_wp2
        go_meet
        case rel => exact ⟨_, (true), (by first | rfl | (simp; done) | (simp [*]; done)), H', ⟨by first | omega | exact Nat.le_refl _⟩, ⟨by repeat (first | (with_reducible first | exact HB.out | apply below_alloc | apply pw_below_drewN | apply below_drew1) | exact HB.out)⟩⟩
      · rw [if_neg c8] at H
        have c8b0 : decide (20 < (l0.length : Int)) = false := decide_eq_false c8
        have c8b1 : decide (20 < l0.length) = false := decide_eq_false (by omega)
        clear c8
        (first | rw [c8b0] | (simp only [i64_w, i32_w]; rw [c8b0]) | skip)
        by_cases c9 : (l1.length : Int) > 20
        · rw [if_pos c9] at H
          have c9b0 : decide (20 < (l1.length : Int)) = true := decide_eq_true c9
          have c9b1 : decide (20 < l1.length) = true := decide_eq_true (by omega)
          clear c9
          have H' := Aside0.mk H
          clear H
          go_wp2
          go_meet
          case rel => exact ⟨_, (true), (by first | rfl | (simp; done) | (simp [*]; done)), H', ⟨by first | omega | exact Nat.le_refl _⟩, ⟨by repeat (first | (with_reducible first | exact HB.out | apply below_alloc | apply pw_below_drewN | apply below_drew1) | exact HB.out)⟩⟩
        · rw [if_neg c9] at H
          have c9b0 : decide (20 < (l1.length : Int)) = false := decide_eq_false c9
          have c9b1 : decide (20 < l1.length) = false := decide_eq_false (by omega)
          clear c9
          have H' := Aside0.mk H
          clear H
          go_wp2
          go_meet
          case rel => exact ⟨_, (decide ((a2.size : Int) > 40)), (by first | rfl | (simp; done) | (simp [*]; done)), H', ⟨by first | omega | exact Nat.le_refl _⟩, ⟨by repeat (first | (with_reducible first | exact HB.out | apply below_alloc | apply pw_below_drewN | apply below_drew1) | exact HB.out)⟩⟩
    · replace c7 := Bool.eq_false_iff.mpr c7
      subst c7
      have H1 : (pelicanlaw15_LampBack.j0 k l0 l1 a2 false true) = some r := by rw [if_neg (show ¬ (false = true) by decide)] at H; exact H
      clear H
      have H := H1
      clear H1
      have H' := Aside0.mk H
      clear H
      go_wp2
      go_meet
      case rel => exact ⟨_, (true), (by first | rfl | (simp; done) | (simp [*]; done)), H', ⟨by first | omega | exact Nat.le_refl _⟩, ⟨by repeat (first | (with_reducible first | exact HB.out | apply below_alloc | apply pw_below_drewN | apply below_drew1) | exact HB.out)⟩⟩
  case rest =>
    clear HC5
    try clear c1
    try clear p2
    try clear c3
    try clear c7
    try clear c8
    try clear c8b0
    try clear c8b1
    try clear c9
    try clear c9b0
    try clear c9b1
    obtain ⟨kq, x32_4, rfl, HA, HJ4, HB⟩ := hcut
    cases kq with
    | zero => exact absurd HA.out (by simp [pelicanlaw15_LampBack.j0])
    | succ kj4 =>
      have H := HA.out
      clear HA
      simp only [pelicanlaw15_LampBack.j0] at H
      by_cases c10 : x32_4 = true
      · subst c10
        have H1 : (some t717) = some r := by rw [if_pos rfl] at H; exact H
        clear H
        have H := H1
        clear H1
        obtain rfl := Option.some.inj H
        go_wp2
        go_ret
        exact ⟨by first | rfl | (simp [errW_none, errW_some] <;> rfl) | (simp [*, errW_none, errW_some] <;> rfl), by repeat (first | (with_reducible first | exact HB.out | apply below_alloc | apply pw_below_drewN | apply below_drew1) | exact HB.out)⟩
      · replace c10 := Bool.eq_false_iff.mpr c10
        subst c10
        have H1 : ((lamp_Text.f l0).bind fun t718 => ((lamp_Read.f t718).bind fun bt719 => ((pelicanref05_Ints.f kj4 bt719.1 l0).bind fun t723 => ((pelicanref05_Ints.f kj4 l0 l1).bind fun t724 => ((lamp_May.f l0).bind fun t725 => (if (t725 != (t718.toList != ([] : List UInt8))) = true then (pelicanlaw15_LampBack.j1 kj4 a2 true) else ((lamp_May.f l0).bind fun t726 => (if t726 = true then (if bt719.2 = true then (if t723 = true then (if (t718.size : Int) = (l0.length : Int) then ((lamp_May.f l0).bind fun t727 => (if t727 = true then ((lamp_May.f l1).bind fun t728 => (if t728 = true then ((lamp_Text.f l1).bind fun t729 => (pelicanlaw15_LampBack.j1 kj4 a2 ((t729.toList == t718.toList) != t724))) else (pelicanlaw15_LampBack.j1 kj4 a2 false))) else (pelicanlaw15_LampBack.j1 kj4 a2 false))) else (pelicanlaw15_LampBack.j1 kj4 a2 true)) else (pelicanlaw15_LampBack.j1 kj4 a2 true)) else (pelicanlaw15_LampBack.j1 kj4 a2 true)) else ((lamp_May.f l0).bind fun t730 => (if t730 = true then ((lamp_May.f l1).bind fun t731 => (if t731 = true then ((lamp_Text.f l1).bind fun t732 => (pelicanlaw15_LampBack.j1 kj4 a2 ((t732.toList == t718.toList) != t724))) else (pelicanlaw15_LampBack.j1 kj4 a2 false))) else (pelicanlaw15_LampBack.j1 kj4 a2 false))))))))))) = some r := by rw [if_neg (show ¬ (false = true) by decide)] at H; exact H
        clear H
        have H := H1
        clear H1
        replace H := Option.bind_eq_some_iff.mp H
        obtain ⟨t718, A110, H⟩ := H
        replace H : ((lamp_Read.f t718).bind fun bt719 => ((pelicanref05_Ints.f kj4 bt719.1 l0).bind fun t723 => ((pelicanref05_Ints.f kj4 l0 l1).bind fun t724 => ((lamp_May.f l0).bind fun t725 => (if (t725 != (t718.toList != ([] : List UInt8))) = true then (pelicanlaw15_LampBack.j1 kj4 a2 true) else ((lamp_May.f l0).bind fun t726 => (if t726 = true then (if bt719.2 = true then (if t723 = true then (if (t718.size : Int) = (l0.length : Int) then ((lamp_May.f l0).bind fun t727 => (if t727 = true then ((lamp_May.f l1).bind fun t728 => (if t728 = true then ((lamp_Text.f l1).bind fun t729 => (pelicanlaw15_LampBack.j1 kj4 a2 ((t729.toList == t718.toList) != t724))) else (pelicanlaw15_LampBack.j1 kj4 a2 false))) else (pelicanlaw15_LampBack.j1 kj4 a2 false))) else (pelicanlaw15_LampBack.j1 kj4 a2 true)) else (pelicanlaw15_LampBack.j1 kj4 a2 true)) else (pelicanlaw15_LampBack.j1 kj4 a2 true)) else ((lamp_May.f l0).bind fun t730 => (if t730 = true then ((lamp_May.f l1).bind fun t731 => (if t731 = true then ((lamp_Text.f l1).bind fun t732 => (pelicanlaw15_LampBack.j1 kj4 a2 ((t732.toList == t718.toList) != t724))) else (pelicanlaw15_LampBack.j1 kj4 a2 false))) else (pelicanlaw15_LampBack.j1 kj4 a2 false)))))))))) = some r := H
        have A11 := Aside0.mk A110
        clear A110
        replace H := Option.bind_eq_some_iff.mp H
        obtain ⟨⟨t719, t720⟩, A120, H⟩ := H
        replace H : ((pelicanref05_Ints.f kj4 t719 l0).bind fun t723 => ((pelicanref05_Ints.f kj4 l0 l1).bind fun t724 => ((lamp_May.f l0).bind fun t725 => (if (t725 != (t718.toList != ([] : List UInt8))) = true then (pelicanlaw15_LampBack.j1 kj4 a2 true) else ((lamp_May.f l0).bind fun t726 => (if t726 = true then (if t720 = true then (if t723 = true then (if (t718.size : Int) = (l0.length : Int) then ((lamp_May.f l0).bind fun t727 => (if t727 = true then ((lamp_May.f l1).bind fun t728 => (if t728 = true then ((lamp_Text.f l1).bind fun t729 => (pelicanlaw15_LampBack.j1 kj4 a2 ((t729.toList == t718.toList) != t724))) else (pelicanlaw15_LampBack.j1 kj4 a2 false))) else (pelicanlaw15_LampBack.j1 kj4 a2 false))) else (pelicanlaw15_LampBack.j1 kj4 a2 true)) else (pelicanlaw15_LampBack.j1 kj4 a2 true)) else (pelicanlaw15_LampBack.j1 kj4 a2 true)) else ((lamp_May.f l0).bind fun t730 => (if t730 = true then ((lamp_May.f l1).bind fun t731 => (if t731 = true then ((lamp_Text.f l1).bind fun t732 => (pelicanlaw15_LampBack.j1 kj4 a2 ((t732.toList == t718.toList) != t724))) else (pelicanlaw15_LampBack.j1 kj4 a2 false))) else (pelicanlaw15_LampBack.j1 kj4 a2 false))))))))) = some r := H
        have A12 := Aside0.mk A120
        clear A120
        replace H := Option.bind_eq_some_iff.mp H
        obtain ⟨t723, A130, H⟩ := H
        replace H : ((pelicanref05_Ints.f kj4 l0 l1).bind fun t724 => ((lamp_May.f l0).bind fun t725 => (if (t725 != (t718.toList != ([] : List UInt8))) = true then (pelicanlaw15_LampBack.j1 kj4 a2 true) else ((lamp_May.f l0).bind fun t726 => (if t726 = true then (if t720 = true then (if t723 = true then (if (t718.size : Int) = (l0.length : Int) then ((lamp_May.f l0).bind fun t727 => (if t727 = true then ((lamp_May.f l1).bind fun t728 => (if t728 = true then ((lamp_Text.f l1).bind fun t729 => (pelicanlaw15_LampBack.j1 kj4 a2 ((t729.toList == t718.toList) != t724))) else (pelicanlaw15_LampBack.j1 kj4 a2 false))) else (pelicanlaw15_LampBack.j1 kj4 a2 false))) else (pelicanlaw15_LampBack.j1 kj4 a2 true)) else (pelicanlaw15_LampBack.j1 kj4 a2 true)) else (pelicanlaw15_LampBack.j1 kj4 a2 true)) else ((lamp_May.f l0).bind fun t730 => (if t730 = true then ((lamp_May.f l1).bind fun t731 => (if t731 = true then ((lamp_Text.f l1).bind fun t732 => (pelicanlaw15_LampBack.j1 kj4 a2 ((t732.toList == t718.toList) != t724))) else (pelicanlaw15_LampBack.j1 kj4 a2 false))) else (pelicanlaw15_LampBack.j1 kj4 a2 false)))))))) = some r := H
        have A13 := Aside0.mk A130
        clear A130
        replace H := Option.bind_eq_some_iff.mp H
        obtain ⟨t724, A140, H⟩ := H
        replace H : ((lamp_May.f l0).bind fun t725 => (if (t725 != (t718.toList != ([] : List UInt8))) = true then (pelicanlaw15_LampBack.j1 kj4 a2 true) else ((lamp_May.f l0).bind fun t726 => (if t726 = true then (if t720 = true then (if t723 = true then (if (t718.size : Int) = (l0.length : Int) then ((lamp_May.f l0).bind fun t727 => (if t727 = true then ((lamp_May.f l1).bind fun t728 => (if t728 = true then ((lamp_Text.f l1).bind fun t729 => (pelicanlaw15_LampBack.j1 kj4 a2 ((t729.toList == t718.toList) != t724))) else (pelicanlaw15_LampBack.j1 kj4 a2 false))) else (pelicanlaw15_LampBack.j1 kj4 a2 false))) else (pelicanlaw15_LampBack.j1 kj4 a2 true)) else (pelicanlaw15_LampBack.j1 kj4 a2 true)) else (pelicanlaw15_LampBack.j1 kj4 a2 true)) else ((lamp_May.f l0).bind fun t730 => (if t730 = true then ((lamp_May.f l1).bind fun t731 => (if t731 = true then ((lamp_Text.f l1).bind fun t732 => (pelicanlaw15_LampBack.j1 kj4 a2 ((t732.toList == t718.toList) != t724))) else (pelicanlaw15_LampBack.j1 kj4 a2 false))) else (pelicanlaw15_LampBack.j1 kj4 a2 false))))))) = some r := H
        have A14 := Aside0.mk A140
        clear A140
        have HC15 := Aside0.mk H
        clear H
        go_upto_region 8 with (first | ((with_reducible refine gate_callee (f := 39) rfl ?_); refine goesL_ (some 35) rfl rfl Tryd.func39 (by kernel_rfl) rfl #[.slice A0 l0.length c0] rfl (by (try simp only [List.map_toArray, List.map_cons, List.map_nil]); first | done | rfl | (simp only [List.length_drop, List.length_take]; rfl)) ?_; (with_reducible refine (lamp_Text.calls _ _ l0 t718 _ ?side1 ?side2 A11.out).mono ?_); (case side1 => repeat (first | exact (Kd.C_below HR0.out HB.out) | (with_reducible refine Kd.C_alloc ?_ _) | (with_reducible refine Kd.C_drewN ?_ _) | (with_reducible refine Kd.C_drew ?_))); (case side2 => exact HC0.out); rintro e w16 ⟨rfl, hb⟩; refine ⟨_, rfl, ?_⟩; have n0_ := Aside0.mk (below_step (by repeat (first | (with_reducible first | exact HB.out | apply below_alloc | apply pw_below_drewN | apply below_drew1) | exact HB.out)) hb); clear HB; have HB := n0_; clear n0_; (try clear hb); (try clear hb2); (try clear hk); (try clear hi)) | ((with_reducible refine gate_callee (f := 32) rfl ?_); refine goesL_ (some 38) rfl rfl Tryd.func32 (by kernel_rfl) rfl #[.string t718] rfl (by (try simp only [List.map_toArray, List.map_cons, List.map_nil]); first | done | rfl | (simp only [List.length_drop, List.length_take]; rfl)) ?_; (with_reducible refine (lamp_Read.calls t718 t719 t720 _ A12.out).mono ?_); rintro e w17 ⟨v721, rfl, ho0, hb⟩; refine ⟨_, rfl, ?_⟩; have n0_ := Aside0.mk (Kd.R_lower ho0 (below_size (by repeat (first | (with_reducible first | exact HB.out | apply below_alloc | apply pw_below_drewN | apply below_drew1) | exact HB.out)))); have n1_ := Aside0.mk (below_step (by repeat (first | (with_reducible first | exact HB.out | apply below_alloc | apply pw_below_drewN | apply below_drew1) | exact HB.out)) hb); clear HB; have HO722 := n0_; have HB := n1_; clear n0_ n1_; (try clear hb); (try clear hb2); (try clear hk); (try clear hi); (try clear ho0); obtain ⟨Ao18, co18, eo18⟩ := Kd.R_slice HO722.out; subst eo18) | ((with_reducible refine gate_callee (f := 34) rfl ?_); refine goesL_ (some 43) rfl rfl Tryd.func34 (by kernel_rfl) rfl #[.slice Ao18 t719.length co18, .slice A0 l0.length c0] rfl (by (try simp only [List.map_toArray, List.map_cons, List.map_nil]); first | done | rfl | (simp only [List.length_drop, List.length_take]; rfl)) ?_; (with_reducible refine (pelicanref05_Ints.calls kj4 _ _ t719 _ _ l0 t723 _ ?side1 ?side2 ?side3 ?side4 A13.out).mono ?_); (case side1 => repeat (first | exact (Kd.R_reads' HO722.out).2.2 | (with_reducible refine Kd.C_alloc ?_ _) | (with_reducible refine Kd.C_drewN ?_ _) | (with_reducible refine Kd.C_drew ?_))); (case side2 => exact (Kd.R_reads' HO722.out).2.1); (case side3 => repeat (first | exact (Kd.C_below HR0.out HB.out) | (with_reducible refine Kd.C_alloc ?_ _) | (with_reducible refine Kd.C_drewN ?_ _) | (with_reducible refine Kd.C_drew ?_))); (case side4 => exact HC0.out); rintro e w' ⟨rfl, ⟨nd, rfl⟩⟩; refine ⟨_, rfl, ?_⟩) | ((with_reducible refine gate_callee (f := 34) rfl ?_); refine goesL_ (some 46) rfl rfl Tryd.func34 (by kernel_rfl) rfl #[.slice A0 l0.length c0, .slice A1 l1.length c1] rfl (by (try simp only [List.map_toArray, List.map_cons, List.map_nil]); first | done | rfl | (simp only [List.length_drop, List.length_take]; rfl)) ?_; (with_reducible refine (pelicanref05_Ints.calls kj4 _ _ l0 _ _ l1 t724 _ ?side1 ?side2 ?side3 ?side4 A14.out).mono ?_); (case side1 => repeat (first | exact (Kd.C_below HR0.out (by repeat (first | (with_reducible first | exact HB.out | apply below_alloc | apply pw_below_drewN | apply below_drew1) | exact HB.out))) | (with_reducible refine Kd.C_alloc ?_ _) | (with_reducible refine Kd.C_drewN ?_ _) | (with_reducible refine Kd.C_drew ?_))); (case side2 => exact HC0.out); (case side3 => repeat (first | exact (Kd.C_below HR1.out (by repeat (first | (with_reducible first | exact HB.out | apply below_alloc | apply pw_below_drewN | apply below_drew1) | exact HB.out))) | (with_reducible refine Kd.C_alloc ?_ _) | (with_reducible refine Kd.C_drewN ?_ _) | (with_reducible refine Kd.C_drew ?_))); (case side4 => exact HC1.out); rintro e w' ⟨rfl, ⟨nd, rfl⟩⟩; refine ⟨_, rfl, ?_⟩))
        (try simp only [Act.put, List.setIfInBounds_toArray, List.set_cons_zero, List.set_cons_succ])
        go_cut [86] (fun v86 wc => ∃ (kq : Nat) (x86_14 : Bool), v86 = .bool x86_14 ∧ Aside0 (pelicanlaw15_LampBack.j1 kq a2 x86_14 = some r) ∧ Aside0 (kq ≤ kj4) ∧ Aside0 (Below w.heap.size w wc))
        case first =>
          have H := HC15.out
          clear HC15
          replace H := Option.bind_eq_some_iff.mp H
          obtain ⟨t725, A190, H⟩ := H
          replace H : (if (t725 != (t718.toList != ([] : List UInt8))) = true then (pelicanlaw15_LampBack.j1 kj4 a2 true) else ((lamp_May.f l0).bind fun t726 => (if t726 = true then (if t720 = true then (if t723 = true then (if (t718.size : Int) = (l0.length : Int) then ((lamp_May.f l0).bind fun t727 => (if t727 = true then ((lamp_May.f l1).bind fun t728 => (if t728 = true then ((lamp_Text.f l1).bind fun t729 => (pelicanlaw15_LampBack.j1 kj4 a2 ((t729.toList == t718.toList) != t724))) else (pelicanlaw15_LampBack.j1 kj4 a2 false))) else (pelicanlaw15_LampBack.j1 kj4 a2 false))) else (pelicanlaw15_LampBack.j1 kj4 a2 true)) else (pelicanlaw15_LampBack.j1 kj4 a2 true)) else (pelicanlaw15_LampBack.j1 kj4 a2 true)) else ((lamp_May.f l0).bind fun t730 => (if t730 = true then ((lamp_May.f l1).bind fun t731 => (if t731 = true then ((lamp_Text.f l1).bind fun t732 => (pelicanlaw15_LampBack.j1 kj4 a2 ((t732.toList == t718.toList) != t724))) else (pelicanlaw15_LampBack.j1 kj4 a2 false))) else (pelicanlaw15_LampBack.j1 kj4 a2 false)))))) = some r := H
          have A19 := Aside0.mk A190
          clear A190
          by_cases c20 : (t725 != (t718.toList != ([] : List UInt8))) = true
          · rw [if_pos c20] at H
            have c20b0 : (t725 != (t718.toList != ([] : List UInt8))) = true := c20
            have c20b8 : ¬ (t725 = !t718.toList.isEmpty) := by have h_ := c20b0; have e_ : (t718.toList != ([] : List UInt8)) = !t718.toList.isEmpty := (by cases t718.toList <;> rfl); rw [e_] at h_; exact bne_iff_ne.mp h_
            (try (have c20b1 : decide (t725 = (t718.toList != ([] : List UInt8))) = false := by simpa using c20))
            (try (have c20b2 : (t725 == (t718.toList != ([] : List UInt8))) = false := by simpa using c20))
            (try (have c20b3 : ¬ (t725 = (t718.toList != ([] : List UInt8))) := by simpa using c20))
            clear c20
            (first | rw [c20b0] | (simp only [i64_w, i32_w]; rw [c20b0]) | skip)
            have H' := Aside0.mk H
            clear H
            go_wp2_with (first | ((with_reducible refine gate_callee (f := 28) rfl ?_); refine goesL_ (some 48) rfl rfl Tryd.func28 (by kernel_rfl) rfl #[.slice A0 l0.length c0] rfl (by (try simp only [List.map_toArray, List.map_cons, List.map_nil]); first | done | rfl | (simp only [List.length_drop, List.length_take]; rfl)) ?_; (with_reducible refine (lamp_May.calls _ _ l0 t725 _ ?side1 ?side2 A19.out).mono ?_); (case side1 => repeat (first | exact (Kd.C_below HR0.out HB.out) | (with_reducible refine Kd.C_alloc ?_ _) | (with_reducible refine Kd.C_drewN ?_ _) | (with_reducible refine Kd.C_drew ?_))); (case side2 => exact HC0.out); rintro e w21 ⟨rfl, hb⟩; refine ⟨_, rfl, ?_⟩; have n0_ := Aside0.mk (Kd.R_below (by (with_reducible repeat (first | apply Kd.R_alloc | apply Kd.R_drewN | apply Kd.R_drew)); exact HO722.out) hb); have n1_ := Aside0.mk (below_step (by repeat (first | (with_reducible first | exact HB.out | apply below_alloc | apply pw_below_drewN | apply below_drew1) | exact HB.out)) hb); clear HO722; clear HB; have HO722 := n0_; have HB := n1_; clear n0_ n1_; (try clear hb); (try clear hb2); (try clear hk); (try clear hi)))
            go_meet
            case rel => exact ⟨_, (true), (by first | rfl | (simp; done) | (simp [*]; done)), H', ⟨by have := HJ4.out; first | omega | exact Nat.le_refl _⟩, ⟨by repeat (first | (with_reducible first | exact HB.out | apply below_alloc | apply pw_below_drewN | apply below_drew1) | exact HB.out)⟩⟩
          · rw [if_neg c20] at H
            have c20b0 : (t725 != (t718.toList != ([] : List UInt8))) = false := by simpa using c20
            have c20b8 : t725 = !t718.toList.isEmpty := by have h_ := c20b0; have e_ : (t718.toList != ([] : List UInt8)) = !t718.toList.isEmpty := (by cases t718.toList <;> rfl); rw [e_] at h_; exact bne_eq_false_iff_eq.mp h_
            (try (have c20b1 : decide (t725 = (t718.toList != ([] : List UInt8))) = true := by simpa using c20))
            (try (have c20b2 : (t725 == (t718.toList != ([] : List UInt8))) = true := by simpa using c20))
            clear c20
            (first | rw [c20b0] | (simp only [i64_w, i32_w]; rw [c20b0]) | skip)
            replace H := Option.bind_eq_some_iff.mp H
            obtain ⟨t726, A220, H⟩ := H
            replace H : (if t726 = true then (if t720 = true then (if t723 = true then (if (t718.size : Int) = (l0.length : Int) then ((lamp_May.f l0).bind fun t727 => (if t727 = true then ((lamp_May.f l1).bind fun t728 => (if t728 = true then ((lamp_Text.f l1).bind fun t729 => (pelicanlaw15_LampBack.j1 kj4 a2 ((t729.toList == t718.toList) != t724))) else (pelicanlaw15_LampBack.j1 kj4 a2 false))) else (pelicanlaw15_LampBack.j1 kj4 a2 false))) else (pelicanlaw15_LampBack.j1 kj4 a2 true)) else (pelicanlaw15_LampBack.j1 kj4 a2 true)) else (pelicanlaw15_LampBack.j1 kj4 a2 true)) else ((lamp_May.f l0).bind fun t730 => (if t730 = true then ((lamp_May.f l1).bind fun t731 => (if t731 = true then ((lamp_Text.f l1).bind fun t732 => (pelicanlaw15_LampBack.j1 kj4 a2 ((t732.toList == t718.toList) != t724))) else (pelicanlaw15_LampBack.j1 kj4 a2 false))) else (pelicanlaw15_LampBack.j1 kj4 a2 false)))) = some r := H
            have A22 := Aside0.mk A220
            clear A220
            by_cases c23 : t726 = true
            · subst c23
              have H1 : (if t720 = true then (if t723 = true then (if (t718.size : Int) = (l0.length : Int) then ((lamp_May.f l0).bind fun t727 => (if t727 = true then ((lamp_May.f l1).bind fun t728 => (if t728 = true then ((lamp_Text.f l1).bind fun t729 => (pelicanlaw15_LampBack.j1 kj4 a2 ((t729.toList == t718.toList) != t724))) else (pelicanlaw15_LampBack.j1 kj4 a2 false))) else (pelicanlaw15_LampBack.j1 kj4 a2 false))) else (pelicanlaw15_LampBack.j1 kj4 a2 true)) else (pelicanlaw15_LampBack.j1 kj4 a2 true)) else (pelicanlaw15_LampBack.j1 kj4 a2 true)) = some r := by rw [if_pos rfl] at H; exact H
              clear H
              have H := H1
              clear H1
              by_cases c24 : t720 = true
              · subst c24
                have H1 : (if t723 = true then (if (t718.size : Int) = (l0.length : Int) then ((lamp_May.f l0).bind fun t727 => (if t727 = true then ((lamp_May.f l1).bind fun t728 => (if t728 = true then ((lamp_Text.f l1).bind fun t729 => (pelicanlaw15_LampBack.j1 kj4 a2 ((t729.toList == t718.toList) != t724))) else (pelicanlaw15_LampBack.j1 kj4 a2 false))) else (pelicanlaw15_LampBack.j1 kj4 a2 false))) else (pelicanlaw15_LampBack.j1 kj4 a2 true)) else (pelicanlaw15_LampBack.j1 kj4 a2 true)) = some r := by rw [if_pos rfl] at H; exact H
                clear H
                have H := H1
                clear H1
                by_cases c25 : t723 = true
                · subst c25
                  have H1 : (if (t718.size : Int) = (l0.length : Int) then ((lamp_May.f l0).bind fun t727 => (if t727 = true then ((lamp_May.f l1).bind fun t728 => (if t728 = true then ((lamp_Text.f l1).bind fun t729 => (pelicanlaw15_LampBack.j1 kj4 a2 ((t729.toList == t718.toList) != t724))) else (pelicanlaw15_LampBack.j1 kj4 a2 false))) else (pelicanlaw15_LampBack.j1 kj4 a2 false))) else (pelicanlaw15_LampBack.j1 kj4 a2 true)) = some r := by rw [if_pos rfl] at H; exact H
                  clear H
                  have H := H1
                  clear H1
                  by_cases c26 : (t718.size : Int) = (l0.length : Int)
                  · rw [if_pos c26] at H
                    have c26b0 : ((t718.size : Int) == (l0.length : Int)) = true := beq_iff_eq.mpr c26
                    have c26b1 : ((t718.size : Int) != (l0.length : Int)) = false := bne_eq_false_iff_eq.mpr c26
                    have c26b2 : (t718.size == l0.length) = true := by first | simpa using c26 | (simp at c26 ⊢; omega)
                    clear c26
                    replace H := Option.bind_eq_some_iff.mp H
                    obtain ⟨t727, A270, H⟩ := H
                    replace H : (if t727 = true then ((lamp_May.f l1).bind fun t728 => (if t728 = true then ((lamp_Text.f l1).bind fun t729 => (pelicanlaw15_LampBack.j1 kj4 a2 ((t729.toList == t718.toList) != t724))) else (pelicanlaw15_LampBack.j1 kj4 a2 false))) else (pelicanlaw15_LampBack.j1 kj4 a2 false)) = some r := H
                    have A27 := Aside0.mk A270
                    clear A270
                    by_cases c28 : t727 = true
                    · subst c28
                      have H1 : ((lamp_May.f l1).bind fun t728 => (if t728 = true then ((lamp_Text.f l1).bind fun t729 => (pelicanlaw15_LampBack.j1 kj4 a2 ((t729.toList == t718.toList) != t724))) else (pelicanlaw15_LampBack.j1 kj4 a2 false))) = some r := by rw [if_pos rfl] at H; exact H
                      clear H
                      have H := H1
                      clear H1
                      replace H := Option.bind_eq_some_iff.mp H
                      obtain ⟨t728, A290, H⟩ := H
                      replace H : (if t728 = true then ((lamp_Text.f l1).bind fun t729 => (pelicanlaw15_LampBack.j1 kj4 a2 ((t729.toList == t718.toList) != t724))) else (pelicanlaw15_LampBack.j1 kj4 a2 false)) = some r := H
                      have A29 := Aside0.mk A290
                      clear A290
                      by_cases c30 : t728 = true
                      · subst c30
                        have H1 : ((lamp_Text.f l1).bind fun t729 => (pelicanlaw15_LampBack.j1 kj4 a2 ((t729.toList == t718.toList) != t724))) = some r := by rw [if_pos rfl] at H; exact H
                        clear H
                        have H := H1
                        clear H1
                        replace H := Option.bind_eq_some_iff.mp H
                        obtain ⟨t729, A310, H⟩ := H
                        replace H : (pelicanlaw15_LampBack.j1 kj4 a2 ((t729.toList == t718.toList) != t724)) = some r := H
                        have A31 := Aside0.mk A310
                        clear A310
                        have H' := Aside0.mk H
                        clear H
                        go_wp2_with (first | ((with_reducible refine gate_callee (f := 28) rfl ?_); refine goesL_ (some 48) rfl rfl Tryd.func28 (by kernel_rfl) rfl #[.slice A0 l0.length c0] rfl (by (try simp only [List.map_toArray, List.map_cons, List.map_nil]); first | done | rfl | (simp only [List.length_drop, List.length_take]; rfl)) ?_; (with_reducible refine (lamp_May.calls _ _ l0 t725 _ ?side1 ?side2 A19.out).mono ?_); (case side1 => repeat (first | exact (Kd.C_below HR0.out HB.out) | (with_reducible refine Kd.C_alloc ?_ _) | (with_reducible refine Kd.C_drewN ?_ _) | (with_reducible refine Kd.C_drew ?_))); (case side2 => exact HC0.out); rintro e w32 ⟨rfl, hb⟩; refine ⟨_, rfl, ?_⟩; have n0_ := Aside0.mk (Kd.R_below (by (with_reducible repeat (first | apply Kd.R_alloc | apply Kd.R_drewN | apply Kd.R_drew)); exact HO722.out) hb); have n1_ := Aside0.mk (below_step (by repeat (first | (with_reducible first | exact HB.out | apply below_alloc | apply pw_below_drewN | apply below_drew1) | exact HB.out)) hb); clear HO722; clear HB; have HO722 := n0_; have HB := n1_; clear n0_ n1_; (try clear hb); (try clear hb2); (try clear hk); (try clear hi)) | (go_at_call 28; (with_reducible refine (lamp_May.calls _ _ l0 true _ ?side1 ?side2 A22.out).mono ?_); (case side1 => repeat (first | exact (Kd.C_below HR0.out HB.out) | (with_reducible refine Kd.C_alloc ?_ _) | (with_reducible refine Kd.C_drewN ?_ _) | (with_reducible refine Kd.C_drew ?_))); (case side2 => exact HC0.out); rintro e w33 ⟨rfl, hb⟩; have n0_ := Aside0.mk (Kd.R_below (by (with_reducible repeat (first | apply Kd.R_alloc | apply Kd.R_drewN | apply Kd.R_drew)); exact HO722.out) hb); have n1_ := Aside0.mk (below_step (by repeat (first | (with_reducible first | exact HB.out | apply below_alloc | apply pw_below_drewN | apply below_drew1) | exact HB.out)) hb); clear HO722; clear HB; have HO722 := n0_; have HB := n1_; clear n0_ n1_; (try clear hb); (try clear hb2); (try clear hk); (try clear hi)) | (go_at_call 28; (with_reducible refine (lamp_May.calls _ _ l0 true _ ?side1 ?side2 A27.out).mono ?_); (case side1 => repeat (first | exact (Kd.C_below HR0.out HB.out) | (with_reducible refine Kd.C_alloc ?_ _) | (with_reducible refine Kd.C_drewN ?_ _) | (with_reducible refine Kd.C_drew ?_))); (case side2 => exact HC0.out); rintro e w34 ⟨rfl, hb⟩; have n0_ := Aside0.mk (Kd.R_below (by (with_reducible repeat (first | apply Kd.R_alloc | apply Kd.R_drewN | apply Kd.R_drew)); exact HO722.out) hb); have n1_ := Aside0.mk (below_step (by repeat (first | (with_reducible first | exact HB.out | apply below_alloc | apply pw_below_drewN | apply below_drew1) | exact HB.out)) hb); clear HO722; clear HB; have HO722 := n0_; have HB := n1_; clear n0_ n1_; (try clear hb); (try clear hb2); (try clear hk); (try clear hi)) | (go_at_call 28; (with_reducible refine (lamp_May.calls _ _ l1 true _ ?side1 ?side2 A29.out).mono ?_); (case side1 => repeat (first | exact (Kd.C_below HR1.out HB.out) | (with_reducible refine Kd.C_alloc ?_ _) | (with_reducible refine Kd.C_drewN ?_ _) | (with_reducible refine Kd.C_drew ?_))); (case side2 => exact HC1.out); rintro e w35 ⟨rfl, hb⟩; have n0_ := Aside0.mk (Kd.R_below (by (with_reducible repeat (first | apply Kd.R_alloc | apply Kd.R_drewN | apply Kd.R_drew)); exact HO722.out) hb); have n1_ := Aside0.mk (below_step (by repeat (first | (with_reducible first | exact HB.out | apply below_alloc | apply pw_below_drewN | apply below_drew1) | exact HB.out)) hb); clear HO722; clear HB; have HO722 := n0_; have HB := n1_; clear n0_ n1_; (try clear hb); (try clear hb2); (try clear hk); (try clear hi)) | (go_at_call 39; (with_reducible refine (lamp_Text.calls _ _ l1 t729 _ ?side1 ?side2 A31.out).mono ?_); (case side1 => repeat (first | exact (Kd.C_below HR1.out HB.out) | (with_reducible refine Kd.C_alloc ?_ _) | (with_reducible refine Kd.C_drewN ?_ _) | (with_reducible refine Kd.C_drew ?_))); (case side2 => exact HC1.out); rintro e w36 ⟨rfl, hb⟩; have n0_ := Aside0.mk (Kd.R_below (by (with_reducible repeat (first | apply Kd.R_alloc | apply Kd.R_drewN | apply Kd.R_drew)); exact HO722.out) hb); have n1_ := Aside0.mk (below_step (by repeat (first | (with_reducible first | exact HB.out | apply below_alloc | apply pw_below_drewN | apply below_drew1) | exact HB.out)) hb); clear HO722; clear HB; have HO722 := n0_; have HB := n1_; clear n0_ n1_; (try clear hb); (try clear hb2); (try clear hk); (try clear hi)))
                        go_meet
                        case rel => exact ⟨_, (((t729.toList == t718.toList) != t724)), (by first | rfl | (simp; done) | (simp [*]; done)), H', ⟨by have := HJ4.out; first | omega | exact Nat.le_refl _⟩, ⟨by repeat (first | (with_reducible first | exact HB.out | apply below_alloc | apply pw_below_drewN | apply below_drew1) | exact HB.out)⟩⟩
                      · replace c30 := Bool.eq_false_iff.mpr c30
                        subst c30
                        have H1 : (pelicanlaw15_LampBack.j1 kj4 a2 false) = some r := by rw [if_neg (show ¬ (false = true) by decide)] at H; exact H
                        clear H
                        have H := H1
                        clear H1
                        have H' := Aside0.mk H
                        clear H
                        go_wp2_with (first | ((with_reducible refine gate_callee (f := 28) rfl ?_); refine goesL_ (some 48) rfl rfl Tryd.func28 (by kernel_rfl) rfl #[.slice A0 l0.length c0] rfl (by (try simp only [List.map_toArray, List.map_cons, List.map_nil]); first | done | rfl | (simp only [List.length_drop, List.length_take]; rfl)) ?_; (with_reducible refine (lamp_May.calls _ _ l0 t725 _ ?side1 ?side2 A19.out).mono ?_); (case side1 => repeat (first | exact (Kd.C_below HR0.out HB.out) | (with_reducible refine Kd.C_alloc ?_ _) | (with_reducible refine Kd.C_drewN ?_ _) | (with_reducible refine Kd.C_drew ?_))); (case side2 => exact HC0.out); rintro e w37 ⟨rfl, hb⟩; refine ⟨_, rfl, ?_⟩; have n0_ := Aside0.mk (Kd.R_below (by (with_reducible repeat (first | apply Kd.R_alloc | apply Kd.R_drewN | apply Kd.R_drew)); exact HO722.out) hb); have n1_ := Aside0.mk (below_step (by repeat (first | (with_reducible first | exact HB.out | apply below_alloc | apply pw_below_drewN | apply below_drew1) | exact HB.out)) hb); clear HO722; clear HB; have HO722 := n0_; have HB := n1_; clear n0_ n1_; (try clear hb); (try clear hb2); (try clear hk); (try clear hi)) | (go_at_call 28; (with_reducible refine (lamp_May.calls _ _ l0 true _ ?side1 ?side2 A22.out).mono ?_); (case side1 => repeat (first | exact (Kd.C_below HR0.out HB.out) | (with_reducible refine Kd.C_alloc ?_ _) | (with_reducible refine Kd.C_drewN ?_ _) | (with_reducible refine Kd.C_drew ?_))); (case side2 => exact HC0.out); rintro e w38 ⟨rfl, hb⟩; have n0_ := Aside0.mk (Kd.R_below (by (with_reducible repeat (first | apply Kd.R_alloc | apply Kd.R_drewN | apply Kd.R_drew)); exact HO722.out) hb); have n1_ := Aside0.mk (below_step (by repeat (first | (with_reducible first | exact HB.out | apply below_alloc | apply pw_below_drewN | apply below_drew1) | exact HB.out)) hb); clear HO722; clear HB; have HO722 := n0_; have HB := n1_; clear n0_ n1_; (try clear hb); (try clear hb2); (try clear hk); (try clear hi)) | (go_at_call 28; (with_reducible refine (lamp_May.calls _ _ l0 true _ ?side1 ?side2 A27.out).mono ?_); (case side1 => repeat (first | exact (Kd.C_below HR0.out HB.out) | (with_reducible refine Kd.C_alloc ?_ _) | (with_reducible refine Kd.C_drewN ?_ _) | (with_reducible refine Kd.C_drew ?_))); (case side2 => exact HC0.out); rintro e w39 ⟨rfl, hb⟩; have n0_ := Aside0.mk (Kd.R_below (by (with_reducible repeat (first | apply Kd.R_alloc | apply Kd.R_drewN | apply Kd.R_drew)); exact HO722.out) hb); have n1_ := Aside0.mk (below_step (by repeat (first | (with_reducible first | exact HB.out | apply below_alloc | apply pw_below_drewN | apply below_drew1) | exact HB.out)) hb); clear HO722; clear HB; have HO722 := n0_; have HB := n1_; clear n0_ n1_; (try clear hb); (try clear hb2); (try clear hk); (try clear hi)) | (go_at_call 28; (with_reducible refine (lamp_May.calls _ _ l1 false _ ?side1 ?side2 A29.out).mono ?_); (case side1 => repeat (first | exact (Kd.C_below HR1.out HB.out) | (with_reducible refine Kd.C_alloc ?_ _) | (with_reducible refine Kd.C_drewN ?_ _) | (with_reducible refine Kd.C_drew ?_))); (case side2 => exact HC1.out); rintro e w40 ⟨rfl, hb⟩; have n0_ := Aside0.mk (Kd.R_below (by (with_reducible repeat (first | apply Kd.R_alloc | apply Kd.R_drewN | apply Kd.R_drew)); exact HO722.out) hb); have n1_ := Aside0.mk (below_step (by repeat (first | (with_reducible first | exact HB.out | apply below_alloc | apply pw_below_drewN | apply below_drew1) | exact HB.out)) hb); clear HO722; clear HB; have HO722 := n0_; have HB := n1_; clear n0_ n1_; (try clear hb); (try clear hb2); (try clear hk); (try clear hi)))
                        go_meet
                        case rel => exact ⟨_, (false), (by first | rfl | (simp; done) | (simp [*]; done)), H', ⟨by have := HJ4.out; first | omega | exact Nat.le_refl _⟩, ⟨by repeat (first | (with_reducible first | exact HB.out | apply below_alloc | apply pw_below_drewN | apply below_drew1) | exact HB.out)⟩⟩
                    · replace c28 := Bool.eq_false_iff.mpr c28
                      subst c28
                      exact absurd (Option.some.inj (A22.out.symm.trans A27.out)) (by decide)
                  · rw [if_neg c26] at H
                    have c26b0 : ((t718.size : Int) == (l0.length : Int)) = false := beq_eq_false_iff_ne.mpr c26
                    have c26b1 : ((t718.size : Int) != (l0.length : Int)) = true := bne_iff_ne.mpr c26
                    have c26b2 : (t718.size == l0.length) = false := by first | simpa using c26 | (simp at c26 ⊢; omega)
                    have H' := Aside0.mk H
                    clear H
                    go_wp2_with (first | ((with_reducible refine gate_callee (f := 28) rfl ?_); refine goesL_ (some 48) rfl rfl Tryd.func28 (by kernel_rfl) rfl #[.slice A0 l0.length c0] rfl (by (try simp only [List.map_toArray, List.map_cons, List.map_nil]); first | done | rfl | (simp only [List.length_drop, List.length_take]; rfl)) ?_; (with_reducible refine (lamp_May.calls _ _ l0 t725 _ ?side1 ?side2 A19.out).mono ?_); (case side1 => repeat (first | exact (Kd.C_below HR0.out HB.out) | (with_reducible refine Kd.C_alloc ?_ _) | (with_reducible refine Kd.C_drewN ?_ _) | (with_reducible refine Kd.C_drew ?_))); (case side2 => exact HC0.out); rintro e w44 ⟨rfl, hb⟩; refine ⟨_, rfl, ?_⟩; have n0_ := Aside0.mk (Kd.R_below (by (with_reducible repeat (first | apply Kd.R_alloc | apply Kd.R_drewN | apply Kd.R_drew)); exact HO722.out) hb); have n1_ := Aside0.mk (below_step (by repeat (first | (with_reducible first | exact HB.out | apply below_alloc | apply pw_below_drewN | apply below_drew1) | exact HB.out)) hb); clear HO722; clear HB; have HO722 := n0_; have HB := n1_; clear n0_ n1_; (try clear hb); (try clear hb2); (try clear hk); (try clear hi)) | (go_at_call 28; (with_reducible refine (lamp_May.calls _ _ l0 true _ ?side1 ?side2 A22.out).mono ?_); (case side1 => repeat (first | exact (Kd.C_below HR0.out HB.out) | (with_reducible refine Kd.C_alloc ?_ _) | (with_reducible refine Kd.C_drewN ?_ _) | (with_reducible refine Kd.C_drew ?_))); (case side2 => exact HC0.out); rintro e w45 ⟨rfl, hb⟩; have n0_ := Aside0.mk (Kd.R_below (by (with_reducible repeat (first | apply Kd.R_alloc | apply Kd.R_drewN | apply Kd.R_drew)); exact HO722.out) hb); have n1_ := Aside0.mk (below_step (by repeat (first | (with_reducible first | exact HB.out | apply below_alloc | apply pw_below_drewN | apply below_drew1) | exact HB.out)) hb); clear HO722; clear HB; have HO722 := n0_; have HB := n1_; clear n0_ n1_; (try clear hb); (try clear hb2); (try clear hk); (try clear hi)))
                    go_meet
                    case rel => exact ⟨_, (true), (by first | rfl | (simp; done) | (simp [*]; done)), H', ⟨by have := HJ4.out; first | omega | exact Nat.le_refl _⟩, ⟨by repeat (first | (with_reducible first | exact HB.out | apply below_alloc | apply pw_below_drewN | apply below_drew1) | exact HB.out)⟩⟩
                · replace c25 := Bool.eq_false_iff.mpr c25
                  subst c25
                  have H1 : (pelicanlaw15_LampBack.j1 kj4 a2 true) = some r := by rw [if_neg (show ¬ (false = true) by decide)] at H; exact H
                  clear H
                  have H := H1
                  clear H1
                  have H' := Aside0.mk H
                  clear H
                  go_wp2_with (first | ((with_reducible refine gate_callee (f := 28) rfl ?_); refine goesL_ (some 48) rfl rfl Tryd.func28 (by kernel_rfl) rfl #[.slice A0 l0.length c0] rfl (by (try simp only [List.map_toArray, List.map_cons, List.map_nil]); first | done | rfl | (simp only [List.length_drop, List.length_take]; rfl)) ?_; (with_reducible refine (lamp_May.calls _ _ l0 t725 _ ?side1 ?side2 A19.out).mono ?_); (case side1 => repeat (first | exact (Kd.C_below HR0.out HB.out) | (with_reducible refine Kd.C_alloc ?_ _) | (with_reducible refine Kd.C_drewN ?_ _) | (with_reducible refine Kd.C_drew ?_))); (case side2 => exact HC0.out); rintro e w46 ⟨rfl, hb⟩; refine ⟨_, rfl, ?_⟩; have n0_ := Aside0.mk (Kd.R_below (by (with_reducible repeat (first | apply Kd.R_alloc | apply Kd.R_drewN | apply Kd.R_drew)); exact HO722.out) hb); have n1_ := Aside0.mk (below_step (by repeat (first | (with_reducible first | exact HB.out | apply below_alloc | apply pw_below_drewN | apply below_drew1) | exact HB.out)) hb); clear HO722; clear HB; have HO722 := n0_; have HB := n1_; clear n0_ n1_; (try clear hb); (try clear hb2); (try clear hk); (try clear hi)) | (go_at_call 28; (with_reducible refine (lamp_May.calls _ _ l0 true _ ?side1 ?side2 A22.out).mono ?_); (case side1 => repeat (first | exact (Kd.C_below HR0.out HB.out) | (with_reducible refine Kd.C_alloc ?_ _) | (with_reducible refine Kd.C_drewN ?_ _) | (with_reducible refine Kd.C_drew ?_))); (case side2 => exact HC0.out); rintro e w47 ⟨rfl, hb⟩; have n0_ := Aside0.mk (Kd.R_below (by (with_reducible repeat (first | apply Kd.R_alloc | apply Kd.R_drewN | apply Kd.R_drew)); exact HO722.out) hb); have n1_ := Aside0.mk (below_step (by repeat (first | (with_reducible first | exact HB.out | apply below_alloc | apply pw_below_drewN | apply below_drew1) | exact HB.out)) hb); clear HO722; clear HB; have HO722 := n0_; have HB := n1_; clear n0_ n1_; (try clear hb); (try clear hb2); (try clear hk); (try clear hi)))
                  go_meet
                  case rel => exact ⟨_, (true), (by first | rfl | (simp; done) | (simp [*]; done)), H', ⟨by have := HJ4.out; first | omega | exact Nat.le_refl _⟩, ⟨by repeat (first | (with_reducible first | exact HB.out | apply below_alloc | apply pw_below_drewN | apply below_drew1) | exact HB.out)⟩⟩
              · replace c24 := Bool.eq_false_iff.mpr c24
                subst c24
                have H1 : (pelicanlaw15_LampBack.j1 kj4 a2 true) = some r := by rw [if_neg (show ¬ (false = true) by decide)] at H; exact H
                clear H
                have H := H1
                clear H1
                have H' := Aside0.mk H
                clear H
                go_wp2_with (first | ((with_reducible refine gate_callee (f := 28) rfl ?_); refine goesL_ (some 48) rfl rfl Tryd.func28 (by kernel_rfl) rfl #[.slice A0 l0.length c0] rfl (by (try simp only [List.map_toArray, List.map_cons, List.map_nil]); first | done | rfl | (simp only [List.length_drop, List.length_take]; rfl)) ?_; (with_reducible refine (lamp_May.calls _ _ l0 t725 _ ?side1 ?side2 A19.out).mono ?_); (case side1 => repeat (first | exact (Kd.C_below HR0.out HB.out) | (with_reducible refine Kd.C_alloc ?_ _) | (with_reducible refine Kd.C_drewN ?_ _) | (with_reducible refine Kd.C_drew ?_))); (case side2 => exact HC0.out); rintro e w48 ⟨rfl, hb⟩; refine ⟨_, rfl, ?_⟩; have n0_ := Aside0.mk (Kd.R_below (by (with_reducible repeat (first | apply Kd.R_alloc | apply Kd.R_drewN | apply Kd.R_drew)); exact HO722.out) hb); have n1_ := Aside0.mk (below_step (by repeat (first | (with_reducible first | exact HB.out | apply below_alloc | apply pw_below_drewN | apply below_drew1) | exact HB.out)) hb); clear HO722; clear HB; have HO722 := n0_; have HB := n1_; clear n0_ n1_; (try clear hb); (try clear hb2); (try clear hk); (try clear hi)) | (go_at_call 28; (with_reducible refine (lamp_May.calls _ _ l0 true _ ?side1 ?side2 A22.out).mono ?_); (case side1 => repeat (first | exact (Kd.C_below HR0.out HB.out) | (with_reducible refine Kd.C_alloc ?_ _) | (with_reducible refine Kd.C_drewN ?_ _) | (with_reducible refine Kd.C_drew ?_))); (case side2 => exact HC0.out); rintro e w49 ⟨rfl, hb⟩; have n0_ := Aside0.mk (Kd.R_below (by (with_reducible repeat (first | apply Kd.R_alloc | apply Kd.R_drewN | apply Kd.R_drew)); exact HO722.out) hb); have n1_ := Aside0.mk (below_step (by repeat (first | (with_reducible first | exact HB.out | apply below_alloc | apply pw_below_drewN | apply below_drew1) | exact HB.out)) hb); clear HO722; clear HB; have HO722 := n0_; have HB := n1_; clear n0_ n1_; (try clear hb); (try clear hb2); (try clear hk); (try clear hi)))
                go_meet
                case rel => exact ⟨_, (true), (by first | rfl | (simp; done) | (simp [*]; done)), H', ⟨by have := HJ4.out; first | omega | exact Nat.le_refl _⟩, ⟨by repeat (first | (with_reducible first | exact HB.out | apply below_alloc | apply pw_below_drewN | apply below_drew1) | exact HB.out)⟩⟩
            · replace c23 := Bool.eq_false_iff.mpr c23
              subst c23
              have H1 : ((lamp_May.f l0).bind fun t730 => (if t730 = true then ((lamp_May.f l1).bind fun t731 => (if t731 = true then ((lamp_Text.f l1).bind fun t732 => (pelicanlaw15_LampBack.j1 kj4 a2 ((t732.toList == t718.toList) != t724))) else (pelicanlaw15_LampBack.j1 kj4 a2 false))) else (pelicanlaw15_LampBack.j1 kj4 a2 false))) = some r := by rw [if_neg (show ¬ (false = true) by decide)] at H; exact H
              clear H
              have H := H1
              clear H1
              replace H := Option.bind_eq_some_iff.mp H
              obtain ⟨t730, A500, H⟩ := H
              replace H : (if t730 = true then ((lamp_May.f l1).bind fun t731 => (if t731 = true then ((lamp_Text.f l1).bind fun t732 => (pelicanlaw15_LampBack.j1 kj4 a2 ((t732.toList == t718.toList) != t724))) else (pelicanlaw15_LampBack.j1 kj4 a2 false))) else (pelicanlaw15_LampBack.j1 kj4 a2 false)) = some r := H
              have A50 := Aside0.mk A500
              clear A500
              by_cases c51 : t730 = true
              · subst c51
                exact absurd (Option.some.inj (A22.out.symm.trans A50.out)) (by decide)
              · replace c51 := Bool.eq_false_iff.mpr c51
                subst c51
                have H1 : (pelicanlaw15_LampBack.j1 kj4 a2 false) = some r := by rw [if_neg (show ¬ (false = true) by decide)] at H; exact H
                clear H
                have H := H1
                clear H1
                have H' := Aside0.mk H
                clear H
                go_wp2_with (first | ((with_reducible refine gate_callee (f := 28) rfl ?_); refine goesL_ (some 48) rfl rfl Tryd.func28 (by kernel_rfl) rfl #[.slice A0 l0.length c0] rfl (by (try simp only [List.map_toArray, List.map_cons, List.map_nil]); first | done | rfl | (simp only [List.length_drop, List.length_take]; rfl)) ?_; (with_reducible refine (lamp_May.calls _ _ l0 t725 _ ?side1 ?side2 A19.out).mono ?_); (case side1 => repeat (first | exact (Kd.C_below HR0.out HB.out) | (with_reducible refine Kd.C_alloc ?_ _) | (with_reducible refine Kd.C_drewN ?_ _) | (with_reducible refine Kd.C_drew ?_))); (case side2 => exact HC0.out); rintro e w64 ⟨rfl, hb⟩; refine ⟨_, rfl, ?_⟩; have n0_ := Aside0.mk (Kd.R_below (by (with_reducible repeat (first | apply Kd.R_alloc | apply Kd.R_drewN | apply Kd.R_drew)); exact HO722.out) hb); have n1_ := Aside0.mk (below_step (by repeat (first | (with_reducible first | exact HB.out | apply below_alloc | apply pw_below_drewN | apply below_drew1) | exact HB.out)) hb); clear HO722; clear HB; have HO722 := n0_; have HB := n1_; clear n0_ n1_; (try clear hb); (try clear hb2); (try clear hk); (try clear hi)) | (go_at_call 28; (with_reducible refine (lamp_May.calls _ _ l0 false _ ?side1 ?side2 A22.out).mono ?_); (case side1 => repeat (first | exact (Kd.C_below HR0.out HB.out) | (with_reducible refine Kd.C_alloc ?_ _) | (with_reducible refine Kd.C_drewN ?_ _) | (with_reducible refine Kd.C_drew ?_))); (case side2 => exact HC0.out); rintro e w65 ⟨rfl, hb⟩; have n0_ := Aside0.mk (Kd.R_below (by (with_reducible repeat (first | apply Kd.R_alloc | apply Kd.R_drewN | apply Kd.R_drew)); exact HO722.out) hb); have n1_ := Aside0.mk (below_step (by repeat (first | (with_reducible first | exact HB.out | apply below_alloc | apply pw_below_drewN | apply below_drew1) | exact HB.out)) hb); clear HO722; clear HB; have HO722 := n0_; have HB := n1_; clear n0_ n1_; (try clear hb); (try clear hb2); (try clear hk); (try clear hi)) | (go_at_call 28; (with_reducible refine (lamp_May.calls _ _ l0 false _ ?side1 ?side2 A50.out).mono ?_); (case side1 => repeat (first | exact (Kd.C_below HR0.out HB.out) | (with_reducible refine Kd.C_alloc ?_ _) | (with_reducible refine Kd.C_drewN ?_ _) | (with_reducible refine Kd.C_drew ?_))); (case side2 => exact HC0.out); rintro e w66 ⟨rfl, hb⟩; have n0_ := Aside0.mk (Kd.R_below (by (with_reducible repeat (first | apply Kd.R_alloc | apply Kd.R_drewN | apply Kd.R_drew)); exact HO722.out) hb); have n1_ := Aside0.mk (below_step (by repeat (first | (with_reducible first | exact HB.out | apply below_alloc | apply pw_below_drewN | apply below_drew1) | exact HB.out)) hb); clear HO722; clear HB; have HO722 := n0_; have HB := n1_; clear n0_ n1_; (try clear hb); (try clear hb2); (try clear hk); (try clear hi)))
                go_meet
                case rel => exact ⟨_, (false), (by first | rfl | (simp; done) | (simp [*]; done)), H', ⟨by have := HJ4.out; first | omega | exact Nat.le_refl _⟩, ⟨by repeat (first | (with_reducible first | exact HB.out | apply below_alloc | apply pw_below_drewN | apply below_drew1) | exact HB.out)⟩⟩
        case rest =>
          clear HC15
          try clear c1
          try clear c2
          try clear p2
          try clear c3
          try clear c5
          try clear c7
          try clear c8
          try clear c8b0
          try clear c8b1
          try clear c9
          try clear c9b0
          try clear c9b1
          try clear c10
          try clear c20
          try clear c20b0
          try clear c20b1
          try clear c20b2
          try clear c23
          try clear c24
          try clear c25
          try clear c26
          try clear c26b0
          try clear c26b1
          try clear c26b2
          try clear c28
          try clear c30
          try clear c32
          try clear c34
          try clear c39
          try clear c51
          try clear c53
          try clear p2
          obtain ⟨kq, x86_14, rfl, HA, HJ14, HB⟩ := hcut
          cases kq with
          | zero => exact absurd HA.out (by simp [pelicanlaw15_LampBack.j1])
          | succ kj14 =>
            have H := HA.out
            clear HA
            simp only [pelicanlaw15_LampBack.j1] at H
            by_cases c67 : x86_14 = true
            · subst c67
              have H1 : (some false) = some r := by rw [if_pos rfl] at H; exact H
              clear H
              have H := H1
              clear H1
              exact absurd (Option.some.inj H) (by rw [HRR.out]; decide)
            · replace c67 := Bool.eq_false_iff.mpr c67
              subst c67
              have H1 : ((lamp_Read.f a2).bind fun bt733 => (if bt733.2 = true then ((lamp_May.f bt733.1).bind fun t737 => (if t737 = true then ((lamp_Text.f bt733.1).bind fun t738 => (some (t738.toList == a2.toList))) else (some false))) else (if (bt733.1.length : Int) = 0 then (some true) else (some false)))) = some r := by rw [if_neg (show ¬ (false = true) by decide)] at H; exact H
              clear H
              have H := H1
              clear H1
              replace H := Option.bind_eq_some_iff.mp H
              obtain ⟨⟨t733, t734⟩, A680, H⟩ := H
              replace H : (if t734 = true then ((lamp_May.f t733).bind fun t737 => (if t737 = true then ((lamp_Text.f t733).bind fun t738 => (some (t738.toList == a2.toList))) else (some false))) else (if (t733.length : Int) = 0 then (some true) else (some false))) = some r := H
              have A68 := Aside0.mk A680
              clear A680
              by_cases c69 : t734 = true
              · subst c69
                have H1 : ((lamp_May.f t733).bind fun t737 => (if t737 = true then ((lamp_Text.f t733).bind fun t738 => (some (t738.toList == a2.toList))) else (some false))) = some r := by rw [if_pos rfl] at H; exact H
                clear H
                have H := H1
                clear H1
                replace H := Option.bind_eq_some_iff.mp H
                obtain ⟨t737, A700, H⟩ := H
                replace H : (if t737 = true then ((lamp_Text.f t733).bind fun t738 => (some (t738.toList == a2.toList))) else (some false)) = some r := H
                have A70 := Aside0.mk A700
                clear A700
                by_cases c71 : t737 = true
                · subst c71
                  have H1 : ((lamp_Text.f t733).bind fun t738 => (some (t738.toList == a2.toList))) = some r := by rw [if_pos rfl] at H; exact H
                  clear H
                  have H := H1
                  clear H1
                  replace H := Option.bind_eq_some_iff.mp H
                  obtain ⟨t738, A720, H⟩ := H
                  replace H : (some (t738.toList == a2.toList)) = some r := H
                  have A72 := Aside0.mk A720
                  clear A720
                  obtain rfl := Option.some.inj H
                  go_wp2_with (first | ((with_reducible refine gate_callee (f := 32) rfl ?_); refine goesL_ (some 89) rfl rfl Tryd.func32 (by kernel_rfl) rfl #[.string a2] rfl (by (try simp only [List.map_toArray, List.map_cons, List.map_nil]); first | done | rfl | (simp only [List.length_drop, List.length_take]; rfl)) ?_; (with_reducible refine (lamp_Read.calls a2 t733 true _ A68.out).mono ?_); rintro e w73 ⟨v735, rfl, ho0, hb⟩; refine ⟨_, rfl, ?_⟩; have n0_ := Aside0.mk (Kd.R_lower ho0 (below_size (by repeat (first | (with_reducible first | exact HB.out | apply below_alloc | apply pw_below_drewN | apply below_drew1) | exact HB.out)))); have n1_ := Aside0.mk (below_step (by repeat (first | (with_reducible first | exact HB.out | apply below_alloc | apply pw_below_drewN | apply below_drew1) | exact HB.out)) hb); clear HB; have HO736 := n0_; have HB := n1_; clear n0_ n1_; (try clear hb); (try clear hb2); (try clear hk); (try clear hi); (try clear ho0); obtain ⟨Ao74, co74, eo74⟩ := Kd.R_slice HO736.out; subst eo74) | (go_at_call 28; (with_reducible refine (lamp_May.calls _ _ t733 true _ ?side1 ?side2 A70.out).mono ?_); (case side1 => repeat (first | exact (Kd.R_reads' HO736.out).2.2 | (with_reducible refine Kd.C_alloc ?_ _) | (with_reducible refine Kd.C_drewN ?_ _) | (with_reducible refine Kd.C_drew ?_))); (case side2 => exact (Kd.R_reads' HO736.out).2.1); rintro e w75 ⟨rfl, hb⟩; have n0_ := Aside0.mk (Kd.R_below (by (with_reducible repeat (first | apply Kd.R_alloc | apply Kd.R_drewN | apply Kd.R_drew)); exact HO736.out) hb); have n1_ := Aside0.mk (below_step (by repeat (first | (with_reducible first | exact HB.out | apply below_alloc | apply pw_below_drewN | apply below_drew1) | exact HB.out)) hb); clear HO736; clear HB; have HO736 := n0_; have HB := n1_; clear n0_ n1_; (try clear hb); (try clear hb2); (try clear hk); (try clear hi)) | (go_at_call 39; (with_reducible refine (lamp_Text.calls _ _ t733 t738 _ ?side1 ?side2 A72.out).mono ?_); (case side1 => repeat (first | exact (Kd.R_reads' HO736.out).2.2 | (with_reducible refine Kd.C_alloc ?_ _) | (with_reducible refine Kd.C_drewN ?_ _) | (with_reducible refine Kd.C_drew ?_))); (case side2 => exact (Kd.R_reads' HO736.out).2.1); rintro e w76 ⟨rfl, hb⟩; have n0_ := Aside0.mk (Kd.R_below (by (with_reducible repeat (first | apply Kd.R_alloc | apply Kd.R_drewN | apply Kd.R_drew)); exact HO736.out) hb); have n1_ := Aside0.mk (below_step (by repeat (first | (with_reducible first | exact HB.out | apply below_alloc | apply pw_below_drewN | apply below_drew1) | exact HB.out)) hb); clear HO736; clear HB; have HO736 := n0_; have HB := n1_; clear n0_ n1_; (try clear hb); (try clear hb2); (try clear hk); (try clear hi)))
                  go_ret
                  exact ⟨by first | rfl | (simp [errW_none, errW_some] <;> rfl) | (simp [*, errW_none, errW_some] <;> rfl), by repeat (first | (with_reducible first | exact HB.out | apply below_alloc | apply pw_below_drewN | apply below_drew1) | exact HB.out)⟩
                · replace c71 := Bool.eq_false_iff.mpr c71
                  subst c71
                  have H1 : (some false) = some r := by rw [if_neg (show ¬ (false = true) by decide)] at H; exact H
                  clear H
                  have H := H1
                  clear H1
                  exact absurd (Option.some.inj H) (by rw [HRR.out]; decide)
              · replace c69 := Bool.eq_false_iff.mpr c69
                subst c69
                have H1 : (if (t733.length : Int) = 0 then (some true) else (some false)) = some r := by rw [if_neg (show ¬ (false = true) by decide)] at H; exact H
                clear H
                have H := H1
                clear H1
                by_cases c80 : (t733.length : Int) = 0
                · rw [if_pos c80] at H
                  have c80b0 : ((t733.length : Int) == 0) = true := beq_iff_eq.mpr c80
                  have c80b1 : ((t733.length : Int) != 0) = false := bne_eq_false_iff_eq.mpr c80
                  clear c80
                  obtain rfl := Option.some.inj H
                  go_wp2_with (first | ((with_reducible refine gate_callee (f := 32) rfl ?_); refine goesL_ (some 89) rfl rfl Tryd.func32 (by kernel_rfl) rfl #[.string a2] rfl (by (try simp only [List.map_toArray, List.map_cons, List.map_nil]); first | done | rfl | (simp only [List.length_drop, List.length_take]; rfl)) ?_; (with_reducible refine (lamp_Read.calls a2 t733 false _ A68.out).mono ?_); rintro e w81 ⟨v735, rfl, ho0, hb⟩; refine ⟨_, rfl, ?_⟩; have n0_ := Aside0.mk (Kd.R_lower ho0 (below_size (by repeat (first | (with_reducible first | exact HB.out | apply below_alloc | apply pw_below_drewN | apply below_drew1) | exact HB.out)))); have n1_ := Aside0.mk (below_step (by repeat (first | (with_reducible first | exact HB.out | apply below_alloc | apply pw_below_drewN | apply below_drew1) | exact HB.out)) hb); clear HB; have HO736 := n0_; have HB := n1_; clear n0_ n1_; (try clear hb); (try clear hb2); (try clear hk); (try clear hi); (try clear ho0); obtain ⟨Ao82, co82, eo82⟩ := Kd.R_slice HO736.out; subst eo82))
                  go_ret
                  exact ⟨by first | rfl | (simp [errW_none, errW_some] <;> rfl) | (simp [*, errW_none, errW_some] <;> rfl), by repeat (first | (with_reducible first | exact HB.out | apply below_alloc | apply pw_below_drewN | apply below_drew1) | exact HB.out)⟩
                · rw [if_neg c80] at H
                  have c80b0 : ((t733.length : Int) == 0) = false := beq_eq_false_iff_ne.mpr c80
                  have c80b1 : ((t733.length : Int) != 0) = true := bne_iff_ne.mpr c80
                  have c80b2 : ¬ (t733 = []) := fun h_ => c80 (by rw [h_]; rfl)
                  exact absurd (Option.some.inj H) (by rw [HRR.out]; decide)

end Go.Proofs.YtechgjbhgeddjaaDoor.F
