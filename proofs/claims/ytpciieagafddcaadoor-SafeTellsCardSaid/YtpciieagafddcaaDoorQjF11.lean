/- Woven by wip/weave/weave.py of this repo (own tool) out of the translation: the contracts of some functions. Lean checks it. -/
import Derived.Test.YtpciieagafddcaaDoorQjD
import Derived.Test.YtpciieagafddcaaDoorQjDR13
import Derived.Test.YtpciieagafddcaaDoorQjSp
namespace Go.Proofs.YtpciieagafddcaaDoor.F
open Go.RowKit Go.Proofs.YtpciieagafddcaaDoorW.PrintWords Go.Proofs.YtpciieagafddcaaDoorW.PrintLast Go.Proofs.YtpciieagafddcaaDoorW.PrintMore
attribute [local go_sem] max2_int min2_int max_two min_two max_three min_three max_four min_four   -- for this text's walks alone
set_option linter.unusedVariables false
set_option linter.unusedSimpArgs false
set_option maxHeartbeats 8000000 in
set_option maxRecDepth 100000 in
theorem pelicanref13_pow.calls (k : Nat) (a0 : Int) (r : Int) (w : World) (h : pelicanref13_pow.f k a0 = some r) :
  Calls Tryd.prog 110 #[.int .i64 a0] w fun e w' => e = .returned (.int .i64 r) ∧ Drawn0 w w' := by
 have H : (pelicanref13_pow.l0 k a0 1 0) = some r := h
 clear h
 have H' := Aside0.mk H
 clear H
 go_enter Tryd.func110, Tryd.ntmps110
 go_wp2
 go_loopg [3, 4] k (fun kq v3 v4 w' => ∃ (x3_1 : Int) (x4_1 : Int), v3 = .int .i64 x3_1 ∧ v4 = .int .i64 x4_1 ∧ Aside0 (pelicanref13_pow.l0 kq a0 x3_1 x4_1 = some r) ∧ Aside0 (kq ≤ k) ∧ Drawn0 w w')
 case atStart => exact ⟨(1), (0), (by first | rfl | (simp; done) | (simp [*]; done)), (by first | rfl | (simp; done) | (simp [*]; done)), H', ⟨Nat.le_refl _⟩, by repeat (first | exact Drawn0.refl _ | apply Drawn0.step)⟩
 case round =>
  clear H'
  try clear c1
  obtain ⟨x3_1, x4_1, rfl, rfl, HA, HK1, ⟨m1, rfl⟩⟩ := hrel
  cases gk with
  | zero => exact absurd HA.out (by simp [pelicanref13_pow.l0])
  | succ k1 =>
   have H := HA.out
   clear HA
   simp only [pelicanref13_pow.l0] at H
   by_cases c2 : x4_1 < a0
   ·
    rw [if_pos c2] at H
    have c2b0 : decide (x4_1 < a0) = true := decide_eq_true c2
    clear c2
    have H' := Aside0.mk H
    clear H
    go_wp2
    go_roundg k1
    case measure => have := HK1.out; omega
    case rel => exact ⟨(wrap64 (2 * x3_1)), (wrap64 (x4_1 + 1)), (by first | rfl | (simp; done) | (simp [*]; done)), (by first | rfl | (simp; done) | (simp [*]; done)), H', ⟨by have := HK1.out; omega⟩, by repeat (first | exact Drawn0.refl _ | apply Drawn0.step)⟩
   ·
    rw [if_neg c2] at H
    have c2b0 : decide (x4_1 < a0) = false := decide_eq_false c2
    clear c2
    obtain rfl := Option.some.inj H
    go_wp2
    go_ret
    exact ⟨by first | rfl | (simp; done) | (simp [*]; done), by repeat (first | exact Drawn0.refl _ | apply Drawn0.step)⟩
set_option maxHeartbeats 8000000 in
set_option maxRecDepth 100000 in
theorem pelicanref13_In.calls (k : Nat) (a0 : Int) (a1 : Int) (r : Bool) (w : World) (h : pelicanref13_In.f k a0 a1 = some r) :
  Calls Tryd.prog 111 #[.int .i64 a0, .int .i64 a1] w fun e w' => e = .returned (.bool r) ∧ Drawn0 w w' := by
 have H : ((pelicanref13_pow.f k a1).bind fun t168 => (if t168 = 0 then (none) else (some ((Int.tmod (wrap64 (Int.tdiv a0 t168)) 2) == 1)))) = some r := h
 clear h
 replace H := Option.bind_eq_some_iff.mp H
 obtain ⟨t168, A30, H⟩ := H
 replace H : (if t168 = 0 then (none) else (some ((Int.tmod (wrap64 (Int.tdiv a0 t168)) 2) == 1))) = some r := H
 have A3 := Aside0.mk A30
 clear A30
 by_cases c4 : t168 = 0
 ·
  rw [if_pos c4] at H
  exact absurd H (by simp)
 ·
  rw [if_neg c4] at H
  have c4b0 : (t168 == 0) = false := beq_eq_false_iff_ne.mpr c4
  have c4b1 : (t168 != 0) = true := bne_iff_ne.mpr c4
  obtain rfl := Option.some.inj H
  go_enter Tryd.func111, Tryd.ntmps111
  go_wp2_with (first | ((with_reducible refine gate_callee (f := 110) rfl ?_); refine goesL_ (some 7) rfl rfl Tryd.func110 (by kernel_rfl) rfl #[.int .i64 a1] rfl (by (try simp only [List.map_toArray, List.map_cons, List.map_nil]); first | done | rfl | (simp only [List.length_drop, List.length_take]; rfl)) ?_; (with_reducible refine (pelicanref13_pow.calls k a1 t168 _ A3.out).mono ?_); rintro e w' ⟨rfl, ⟨nd, rfl⟩⟩; refine ⟨_, rfl, ?_⟩))
  go_ret
  exact ⟨by first | rfl | (simp; done) | (simp [*]; done), by repeat (first | exact Drawn0.refl _ | apply Drawn0.step)⟩
set_option maxHeartbeats 8000000 in
set_option maxRecDepth 100000 in
theorem pelicanref13_May.calls (k : Nat) (A0 : Option Addr) (c0 : Nat) (l0 : List Int) (r : Bool) (w : World) (hr0 : Kd.C (Kd.int .i64) w A0 l0.length l0) (hc0 : l0.length ≤ c0) (h : pelicanref13_May.f k l0 = some r) :
  Calls Tryd.prog 85 #[.slice A0 l0.length c0] w fun e w' => e = .returned (.bool r) ∧ Drawn0 w w' := by
 have HR0 := Aside0.mk hr0
 have HC0 := Aside0.mk hc0
 clear hr0 hc0
 have H : (if (l0.length : Int) < 1 then (pelicanref13_May.j0 k l0 (l0.length : Int) true) else (pelicanref13_May.j0 k l0 (l0.length : Int) (decide ((l0.length : Int) > 8)))) = some r := h
 clear h
 have HC2 := Aside0.mk H
 clear H
 go_enter Tryd.func85, Tryd.ntmps85
 go_upto_region 2 with (fail)
 repeat (go_quiet (fail); go_upto_region 2 with (fail))
 go_cut [16] (fun v16 wc => ∃ (kq : Nat) (x16_1 : Bool), v16 = .bool x16_1 ∧ Aside0 (pelicanref13_May.j0 kq l0 (l0.length : Int) x16_1 = some r) ∧ Aside0 (kq ≤ k) ∧ Drawn0 w wc)
 case first =>
  have H := HC2.out
  clear HC2
  by_cases c3 : (l0.length : Int) < 1
  ·
   rw [if_pos c3] at H
   have c3b0 : decide ((l0.length : Int) < 1) = true := decide_eq_true c3
   have c3b1 : decide (l0.length < 1) = true := decide_eq_true (by omega)
   clear c3
   (first | rw [c3b0] | (simp only [i64_w, i32_w]; rw [c3b0]) | skip)
   have H' := Aside0.mk H
   clear H
   go_wp2
   repeat (go_quiet (fail); try go_wp2)
   go_meet
   case rel => exact ⟨_, (true), (by first | rfl | (simp; done) | (simp [*]; done)), H', ⟨by first | omega | exact Nat.le_refl _⟩, by repeat (first | exact Drawn0.refl _ | apply Drawn0.step)⟩
  ·
   rw [if_neg c3] at H
   have c3b0 : decide ((l0.length : Int) < 1) = false := decide_eq_false c3
   have c3b1 : decide (l0.length < 1) = false := decide_eq_false (by omega)
   clear c3
   (first | rw [c3b0] | (simp only [i64_w, i32_w]; rw [c3b0]) | skip)
   have H' := Aside0.mk H
   clear H
   go_wp2
   repeat (go_quiet (fail); try go_wp2)
   go_meet
   case rel => exact ⟨_, (decide ((l0.length : Int) > 8)), (by first | rfl | (simp; done) | (simp [*]; done)), H', ⟨by first | omega | exact Nat.le_refl _⟩, by repeat (first | exact Drawn0.refl _ | apply Drawn0.step)⟩
 case rest =>
  clear HC2
  try clear p2
  try clear c3
  try clear c3b0
  try clear c3b1
  obtain ⟨kq, x16_1, rfl, HA, HJ1, ⟨mc1, rfl⟩⟩ := hcut
  cases kq with
  | zero => exact absurd HA.out (by simp [pelicanref13_May.j0])
  | succ kj1 =>
   have H := HA.out
   clear HA
   simp only [pelicanref13_May.j0] at H
   by_cases c4 : x16_1 = true
   ·
    subst c4
    have H1 : (some false) = some r := by rw [if_pos rfl] at H; exact H
    clear H
    have H := H1
    clear H1
    obtain rfl := Option.some.inj H
    go_wp2
    repeat (go_quiet (fail); try go_wp2)
    go_ret
    exact ⟨by first | rfl | (simp; done) | (simp [*]; done), by repeat (first | exact Drawn0.refl _ | apply Drawn0.step)⟩
   ·
    replace c4 := Bool.eq_false_iff.mpr c4
    subst c4
    have H1 : (pelicanref13_May.l0 kj1 l0 (l0.length : Int) 0) = some r := by rw [if_neg (show ¬ (false = true) by decide)] at H; exact H
    clear H
    have H := H1
    clear H1
    have H' := Aside0.mk H
    clear H
    go_wp2
    repeat (go_quiet (fail); try go_wp2)
    go_loopg [4] kj1 (fun kq v4 w' => ∃ (x4_2 : Int), v4 = .int .i64 x4_2 ∧ Aside0 (pelicanref13_May.l0 kq l0 (l0.length : Int) x4_2 = some r) ∧ Aside0 (kq ≤ kj1) ∧ Drawn0 w w')
    case atStart => exact ⟨(0), (by first | rfl | (simp; done) | (simp [*]; done)), H', ⟨Nat.le_refl _⟩, by repeat (first | exact Drawn0.refl _ | apply Drawn0.step)⟩
    case round =>
     clear H'
     try clear c1
     try clear p2
     try clear c3
     try clear c3b0
     try clear c3b1
     try clear c4
     try clear p2
     obtain ⟨x4_2, rfl, HA, HK2, ⟨m2, rfl⟩⟩ := hrel
     cases gk with
     | zero => exact absurd HA.out (by simp [pelicanref13_May.l0])
     | succ k2 =>
      have H := HA.out
      clear HA
      simp only [pelicanref13_May.l0] at H
      by_cases c5 : x4_2 < (l0.length : Int)
      ·
       rw [if_pos c5] at H
       have c5b0 : decide (x4_2 < (l0.length : Int)) = true := decide_eq_true c5
       clear c5
       by_cases c6 : 0 ≤ x4_2
       ·
        rw [if_pos c6] at H
        have c6b0 : decide (0 ≤ x4_2) = true := decide_eq_true c6
        clear c6
        by_cases c7 : x4_2 < (l0.length : Int)
        ·
         rw [if_pos c7] at H
         have c7b0 : decide (x4_2 < (l0.length : Int)) = true := decide_eq_true c7
         clear c7
         by_cases c8 : (rd l0 x4_2) < 0
         ·
          rw [if_pos c8] at H
          have c8b0 : decide ((rd l0 x4_2) < 0) = true := decide_eq_true c8
          clear c8
          obtain rfl := Option.some.inj H
          have p169 : 0 ≤ (x4_2 : Int) := of_decide_eq_true (by first | (with_reducible assumption) | assumption)
          have q169 : x4_2 < (l0.length : Int) := of_decide_eq_true (by first | (with_reducible assumption) | assumption)
          obtain ⟨ad169, e169, hx169_0⟩ := Kd.at_int HR0.out x4_2 p169 q169
          cases e169
          replace p169 := eq_true p169
          replace q169 := eq_true q169
          go_wp2
          repeat (go_quiet (fail); try go_wp2)
          go_ret
          exact ⟨by first | rfl | (simp; done) | (simp [*]; done), by repeat (first | exact Drawn0.refl _ | apply Drawn0.step)⟩
         ·
          rw [if_neg c8] at H
          have c8b0 : decide ((rd l0 x4_2) < 0) = false := decide_eq_false c8
          clear c8
          replace H := Option.bind_eq_some_iff.mp H
          obtain ⟨t171, A90, H⟩ := H
          replace H : (if (rd l0 x4_2) ≥ t171 then (some false) else (pelicanref13_May.l0 k2 l0 (l0.length : Int) (wrap64 (x4_2 + 1)))) = some r := H
          have A9 := Aside0.mk A90
          clear A90
          by_cases c10 : (rd l0 x4_2) ≥ t171
          ·
           rw [if_pos c10] at H
           have c10b0 : decide (t171 ≤ (rd l0 x4_2)) = true := decide_eq_true c10
           clear c10
           obtain rfl := Option.some.inj H
           have p169 : 0 ≤ (x4_2 : Int) := of_decide_eq_true (by first | (with_reducible assumption) | assumption)
           have q169 : x4_2 < (l0.length : Int) := of_decide_eq_true (by first | (with_reducible assumption) | assumption)
           obtain ⟨ad169, e169, hx169_0⟩ := Kd.at_int HR0.out x4_2 p169 q169
           cases e169
           replace p169 := eq_true p169
           replace q169 := eq_true q169
           have p170 : 0 ≤ (x4_2 : Int) := of_decide_eq_true (by first | (with_reducible assumption) | assumption)
           have q170 : x4_2 < (l0.length : Int) := of_decide_eq_true (by first | (with_reducible assumption) | assumption)
           obtain ⟨ad170, e170, hx170_0⟩ := Kd.at_int HR0.out x4_2 p170 q170
           obtain rfl : ad169 = ad170 := (by injection e170)
           replace p170 := eq_true p170
           replace q170 := eq_true q170
           go_wp2_with (first | (go_at_call 110; (with_reducible refine (pelicanref13_pow.calls k2 (l0.length : Int) t171 _ A9.out).mono ?_); rintro e w' ⟨rfl, ⟨nd, rfl⟩⟩; (try first | exact ⟨rfl, _, World.drewN_drewN _ _ _⟩ | exact ⟨rfl, _, Eq.trans (World.drewN_drewN _ _ _) (congrArg (World.drewN _) (Nat.add_assoc _ _ _))⟩)))
           repeat (go_quiet (first | (go_at_call 110; (with_reducible refine (pelicanref13_pow.calls k2 (l0.length : Int) t171 _ A9.out).mono ?_); rintro e w' ⟨rfl, ⟨nd, rfl⟩⟩; (try first | exact ⟨rfl, _, World.drewN_drewN _ _ _⟩ | exact ⟨rfl, _, Eq.trans (World.drewN_drewN _ _ _) (congrArg (World.drewN _) (Nat.add_assoc _ _ _))⟩))); try go_wp2_with (first | (go_at_call 110; (with_reducible refine (pelicanref13_pow.calls k2 (l0.length : Int) t171 _ A9.out).mono ?_); rintro e w' ⟨rfl, ⟨nd, rfl⟩⟩; (try first | exact ⟨rfl, _, World.drewN_drewN _ _ _⟩ | exact ⟨rfl, _, Eq.trans (World.drewN_drewN _ _ _) (congrArg (World.drewN _) (Nat.add_assoc _ _ _))⟩))))
           go_ret
           exact ⟨by first | rfl | (simp; done) | (simp [*]; done), by repeat (first | exact Drawn0.refl _ | apply Drawn0.step)⟩
          ·
           rw [if_neg c10] at H
           have c10b0 : decide (t171 ≤ (rd l0 x4_2)) = false := decide_eq_false c10
           clear c10
           have H' := Aside0.mk H
           clear H
           have p169 : 0 ≤ (x4_2 : Int) := of_decide_eq_true (by first | (with_reducible assumption) | assumption)
           have q169 : x4_2 < (l0.length : Int) := of_decide_eq_true (by first | (with_reducible assumption) | assumption)
           obtain ⟨ad169, e169, hx169_0⟩ := Kd.at_int HR0.out x4_2 p169 q169
           cases e169
           replace p169 := eq_true p169
           replace q169 := eq_true q169
           have p170 : 0 ≤ (x4_2 : Int) := of_decide_eq_true (by first | (with_reducible assumption) | assumption)
           have q170 : x4_2 < (l0.length : Int) := of_decide_eq_true (by first | (with_reducible assumption) | assumption)
           obtain ⟨ad170, e170, hx170_0⟩ := Kd.at_int HR0.out x4_2 p170 q170
           obtain rfl : ad169 = ad170 := (by injection e170)
           replace p170 := eq_true p170
           replace q170 := eq_true q170
           go_wp2_with (first | (go_at_call 110; (with_reducible refine (pelicanref13_pow.calls k2 (l0.length : Int) t171 _ A9.out).mono ?_); rintro e w' ⟨rfl, ⟨nd, rfl⟩⟩; (try first | exact ⟨rfl, _, World.drewN_drewN _ _ _⟩ | exact ⟨rfl, _, Eq.trans (World.drewN_drewN _ _ _) (congrArg (World.drewN _) (Nat.add_assoc _ _ _))⟩)))
           repeat (go_quiet (first | (go_at_call 110; (with_reducible refine (pelicanref13_pow.calls k2 (l0.length : Int) t171 _ A9.out).mono ?_); rintro e w' ⟨rfl, ⟨nd, rfl⟩⟩; (try first | exact ⟨rfl, _, World.drewN_drewN _ _ _⟩ | exact ⟨rfl, _, Eq.trans (World.drewN_drewN _ _ _) (congrArg (World.drewN _) (Nat.add_assoc _ _ _))⟩))); try go_wp2_with (first | (go_at_call 110; (with_reducible refine (pelicanref13_pow.calls k2 (l0.length : Int) t171 _ A9.out).mono ?_); rintro e w' ⟨rfl, ⟨nd, rfl⟩⟩; (try first | exact ⟨rfl, _, World.drewN_drewN _ _ _⟩ | exact ⟨rfl, _, Eq.trans (World.drewN_drewN _ _ _) (congrArg (World.drewN _) (Nat.add_assoc _ _ _))⟩))))
           go_roundg k2
           case measure => have := HJ1.out; have := HK2.out; omega
           case rel => exact ⟨(wrap64 (x4_2 + 1)), (by first | rfl | (simp; done) | (simp [*]; done)), H', ⟨by have := HJ1.out; have := HK2.out; omega⟩, by repeat (first | exact Drawn0.refl _ | apply Drawn0.step)⟩
        ·
         rw [if_neg c7] at H
         exact absurd H (by simp)
       ·
        rw [if_neg c6] at H
        exact absurd H (by simp)
      ·
       rw [if_neg c5] at H
       have c5b0 : decide (x4_2 < (l0.length : Int)) = false := decide_eq_false c5
       clear c5
       have H' := Aside0.mk H
       clear H
       go_wp2
       repeat (go_quiet (fail); try go_wp2)
       go_loopg [5] k2 (fun kq v5 w' => ∃ (x5_3 : Int), v5 = .int .i64 x5_3 ∧ Aside0 (pelicanref13_May.l1 kq l0 (l0.length : Int) x5_3 = some r) ∧ Aside0 (kq ≤ k2) ∧ Drawn0 w w')
       case atStart => exact ⟨(0), (by first | rfl | (simp; done) | (simp [*]; done)), H', ⟨Nat.le_refl _⟩, by repeat (first | exact Drawn0.refl _ | apply Drawn0.step)⟩
       case round =>
        clear H'
        try clear c1
        try clear p1
        try clear q1
        try clear hx1
        try clear p2
        try clear c3
        try clear c3b0
        try clear c3b1
        try clear c4
        try clear c5
        try clear c5b0
        try clear c6
        try clear c6b0
        try clear p6
        try clear c7
        try clear c7b0
        try clear c8
        try clear c8b0
        try clear c10
        try clear c10b0
        try clear hx169_0
        try clear hx170_0
        try clear p169
        try clear p170
        try clear p2
        try clear q169
        try clear q170
        obtain ⟨x5_3, rfl, HA, HK3, ⟨m3, rfl⟩⟩ := hrel
        cases gk with
        | zero => exact absurd HA.out (by simp [pelicanref13_May.l1])
        | succ k3 =>
         have H := HA.out
         clear HA
         simp only [pelicanref13_May.l1] at H
         by_cases c11 : x5_3 < (l0.length : Int)
         ·
          rw [if_pos c11] at H
          have c11b0 : decide (x5_3 < (l0.length : Int)) = true := decide_eq_true c11
          clear c11
          have H' := Aside0.mk H
          clear H
          go_wp2
          repeat (go_quiet (fail); try go_wp2)
          go_loopg [6] k3 (fun kq v6 w' => ∃ (x6_4 : Int), v6 = .int .i64 x6_4 ∧ Aside0 (pelicanref13_May.l2 kq l0 (l0.length : Int) x5_3 x6_4 = some r) ∧ Aside0 (kq ≤ k3) ∧ Drawn0 w w')
          case atStart => exact ⟨(0), (by first | rfl | (simp; done) | (simp [*]; done)), H', ⟨Nat.le_refl _⟩, by repeat (first | exact Drawn0.refl _ | apply Drawn0.step)⟩
          case round =>
           clear H'
           try clear c1
           try clear p1
           try clear q1
           try clear hx1
           try clear p2
           try clear c3
           try clear c3b0
           try clear c3b1
           try clear c4
           try clear c5
           try clear c5b0
           try clear c6
           try clear c6b0
           try clear p6
           try clear c7
           try clear c7b0
           try clear c8
           try clear c8b0
           try clear c10
           try clear c10b0
           try clear c11
           try clear c11b0
           try clear hx169_0
           try clear hx170_0
           try clear p1
           try clear p169
           try clear p170
           try clear p2
           try clear p6
           try clear q1
           try clear q169
           try clear q170
           obtain ⟨x6_4, rfl, HA, HK4, ⟨m4, rfl⟩⟩ := hrel
           cases gk with
           | zero => exact absurd HA.out (by simp [pelicanref13_May.l2])
           | succ k4 =>
            have H := HA.out
            clear HA
            simp only [pelicanref13_May.l2] at H
            by_cases c12 : x6_4 < (l0.length : Int)
            ·
             rw [if_pos c12] at H
             have c12b0 : decide (x6_4 < (l0.length : Int)) = true := decide_eq_true c12
             clear c12
             by_cases c13 : 0 ≤ x5_3
             ·
              rw [if_pos c13] at H
              have c13b0 : decide (0 ≤ x5_3) = true := decide_eq_true c13
              clear c13
              by_cases c14 : x5_3 < (l0.length : Int)
              ·
               rw [if_pos c14] at H
               have c14b0 : decide (x5_3 < (l0.length : Int)) = true := decide_eq_true c14
               clear c14
               replace H := Option.bind_eq_some_iff.mp H
               obtain ⟨t173, A150, H⟩ := H
               replace H : (if 0 ≤ x6_4 then (if x6_4 < (l0.length : Int) then ((pelicanref13_In.f k4 (rd l0 x6_4) x5_3).bind fun t175 => (if (t173 != t175) = true then (some false) else (if t173 = true then (if x5_3 = x6_4 then (some false) else (pelicanref13_May.l2 k4 l0 (l0.length : Int) x5_3 (wrap64 (x6_4 + 1)))) else (pelicanref13_May.l2 k4 l0 (l0.length : Int) x5_3 (wrap64 (x6_4 + 1)))))) else (none)) else (none)) = some r := H
               have A15 := Aside0.mk A150
               clear A150
               by_cases c16 : 0 ≤ x6_4
               ·
                rw [if_pos c16] at H
                have c16b0 : decide (0 ≤ x6_4) = true := decide_eq_true c16
                clear c16
                by_cases c17 : x6_4 < (l0.length : Int)
                ·
                 rw [if_pos c17] at H
                 have c17b0 : decide (x6_4 < (l0.length : Int)) = true := decide_eq_true c17
                 clear c17
                 replace H := Option.bind_eq_some_iff.mp H
                 obtain ⟨t175, A180, H⟩ := H
                 replace H : (if (t173 != t175) = true then (some false) else (if t173 = true then (if x5_3 = x6_4 then (some false) else (pelicanref13_May.l2 k4 l0 (l0.length : Int) x5_3 (wrap64 (x6_4 + 1)))) else (pelicanref13_May.l2 k4 l0 (l0.length : Int) x5_3 (wrap64 (x6_4 + 1))))) = some r := H
                 have A18 := Aside0.mk A180
                 clear A180
                 by_cases c19 : (t173 != t175) = true
                 ·
                  rw [if_pos c19] at H
                  have c19b0 : (t173 != t175) = true := c19
                  (try (have c19b1 : decide (t173 = t175) = false := by simpa using c19))
                  (try (have c19b2 : (t173 == t175) = false := by simpa using c19))
                  (try (have c19b3 : ¬ (t173 = t175) := by simpa using c19))
                  clear c19
                  obtain rfl := Option.some.inj H
                  have p172 : 0 ≤ (x5_3 : Int) := of_decide_eq_true (by first | (with_reducible assumption) | assumption)
                  have q172 : x5_3 < (l0.length : Int) := of_decide_eq_true (by first | (with_reducible assumption) | assumption)
                  obtain ⟨ad172, e172, hx172_0⟩ := Kd.at_int HR0.out x5_3 p172 q172
                  cases e172
                  replace p172 := eq_true p172
                  replace q172 := eq_true q172
                  go_wp2_with (first | (go_at_call 111; (with_reducible refine (pelicanref13_In.calls k4 (rd l0 x5_3) x6_4 t173 _ A15.out).mono ?_); rintro e w' ⟨rfl, ⟨nd, rfl⟩⟩; (try first | exact ⟨rfl, _, World.drewN_drewN _ _ _⟩ | exact ⟨rfl, _, Eq.trans (World.drewN_drewN _ _ _) (congrArg (World.drewN _) (Nat.add_assoc _ _ _))⟩); have p174 : 0 ≤ (x6_4 : Int) := of_decide_eq_true (by first | (with_reducible assumption) | assumption); have q174 : x6_4 < (l0.length : Int) := of_decide_eq_true (by first | (with_reducible assumption) | assumption); obtain ⟨ad174, e174, hx174_0⟩ := Kd.at_int HR0.out x6_4 p174 q174; obtain rfl : ad172 = ad174 := (by injection e174); replace p174 := eq_true p174; replace q174 := eq_true q174) | (go_at_call 111; (with_reducible refine (pelicanref13_In.calls k4 (rd l0 x6_4) x5_3 t175 _ A18.out).mono ?_); rintro e w' ⟨rfl, ⟨nd, rfl⟩⟩; (try first | exact ⟨rfl, _, World.drewN_drewN _ _ _⟩ | exact ⟨rfl, _, Eq.trans (World.drewN_drewN _ _ _) (congrArg (World.drewN _) (Nat.add_assoc _ _ _))⟩)))
                  repeat (go_quiet (first | (go_at_call 111; (with_reducible refine (pelicanref13_In.calls k4 (rd l0 x5_3) x6_4 t173 _ A15.out).mono ?_); rintro e w' ⟨rfl, ⟨nd, rfl⟩⟩; (try first | exact ⟨rfl, _, World.drewN_drewN _ _ _⟩ | exact ⟨rfl, _, Eq.trans (World.drewN_drewN _ _ _) (congrArg (World.drewN _) (Nat.add_assoc _ _ _))⟩); have p174 : 0 ≤ (x6_4 : Int) := of_decide_eq_true (by first | (with_reducible assumption) | assumption); have q174 : x6_4 < (l0.length : Int) := of_decide_eq_true (by first | (with_reducible assumption) | assumption); obtain ⟨ad174, e174, hx174_0⟩ := Kd.at_int HR0.out x6_4 p174 q174; obtain rfl : ad172 = ad174 := (by injection e174); replace p174 := eq_true p174; replace q174 := eq_true q174) | (go_at_call 111; (with_reducible refine (pelicanref13_In.calls k4 (rd l0 x6_4) x5_3 t175 _ A18.out).mono ?_); rintro e w' ⟨rfl, ⟨nd, rfl⟩⟩; (try first | exact ⟨rfl, _, World.drewN_drewN _ _ _⟩ | exact ⟨rfl, _, Eq.trans (World.drewN_drewN _ _ _) (congrArg (World.drewN _) (Nat.add_assoc _ _ _))⟩))); try go_wp2_with (first | (go_at_call 111; (with_reducible refine (pelicanref13_In.calls k4 (rd l0 x5_3) x6_4 t173 _ A15.out).mono ?_); rintro e w' ⟨rfl, ⟨nd, rfl⟩⟩; (try first | exact ⟨rfl, _, World.drewN_drewN _ _ _⟩ | exact ⟨rfl, _, Eq.trans (World.drewN_drewN _ _ _) (congrArg (World.drewN _) (Nat.add_assoc _ _ _))⟩); have p174 : 0 ≤ (x6_4 : Int) := of_decide_eq_true (by first | (with_reducible assumption) | assumption); have q174 : x6_4 < (l0.length : Int) := of_decide_eq_true (by first | (with_reducible assumption) | assumption); obtain ⟨ad174, e174, hx174_0⟩ := Kd.at_int HR0.out x6_4 p174 q174; obtain rfl : ad172 = ad174 := (by injection e174); replace p174 := eq_true p174; replace q174 := eq_true q174) | (go_at_call 111; (with_reducible refine (pelicanref13_In.calls k4 (rd l0 x6_4) x5_3 t175 _ A18.out).mono ?_); rintro e w' ⟨rfl, ⟨nd, rfl⟩⟩; (try first | exact ⟨rfl, _, World.drewN_drewN _ _ _⟩ | exact ⟨rfl, _, Eq.trans (World.drewN_drewN _ _ _) (congrArg (World.drewN _) (Nat.add_assoc _ _ _))⟩))))
                  go_ret
                  exact ⟨by first | rfl | (simp; done) | (simp [*]; done), by repeat (first | exact Drawn0.refl _ | apply Drawn0.step)⟩
                 ·
                  rw [if_neg c19] at H
                  have c19b0 : (t173 != t175) = false := by simpa using c19
                  (try (have c19b1 : decide (t173 = t175) = true := by simpa using c19))
                  (try (have c19b2 : (t173 == t175) = true := by simpa using c19))
                  clear c19
                  by_cases c20 : t173 = true
                  ·
                   subst c20
                   have H1 : (if x5_3 = x6_4 then (some false) else (pelicanref13_May.l2 k4 l0 (l0.length : Int) x5_3 (wrap64 (x6_4 + 1)))) = some r := by rw [if_pos rfl] at H; exact H
                   clear H
                   have H := H1
                   clear H1
                   by_cases c21 : x5_3 = x6_4
                   ·
                    rw [if_pos c21] at H
                    have c21b0 : (x5_3 == x6_4) = true := beq_iff_eq.mpr c21
                    have c21b1 : (x5_3 != x6_4) = false := bne_eq_false_iff_eq.mpr c21
                    clear c21
                    obtain rfl := Option.some.inj H
                    have p172 : 0 ≤ (x5_3 : Int) := of_decide_eq_true (by first | (with_reducible assumption) | assumption)
                    have q172 : x5_3 < (l0.length : Int) := of_decide_eq_true (by first | (with_reducible assumption) | assumption)
                    obtain ⟨ad172, e172, hx172_0⟩ := Kd.at_int HR0.out x5_3 p172 q172
                    cases e172
                    replace p172 := eq_true p172
                    replace q172 := eq_true q172
                    go_wp2_with (first | (go_at_call 111; (with_reducible refine (pelicanref13_In.calls k4 (rd l0 x5_3) x6_4 true _ A15.out).mono ?_); rintro e w' ⟨rfl, ⟨nd, rfl⟩⟩; (try first | exact ⟨rfl, _, World.drewN_drewN _ _ _⟩ | exact ⟨rfl, _, Eq.trans (World.drewN_drewN _ _ _) (congrArg (World.drewN _) (Nat.add_assoc _ _ _))⟩); have p174 : 0 ≤ (x6_4 : Int) := of_decide_eq_true (by first | (with_reducible assumption) | assumption); have q174 : x6_4 < (l0.length : Int) := of_decide_eq_true (by first | (with_reducible assumption) | assumption); obtain ⟨ad174, e174, hx174_0⟩ := Kd.at_int HR0.out x6_4 p174 q174; obtain rfl : ad172 = ad174 := (by injection e174); replace p174 := eq_true p174; replace q174 := eq_true q174) | (go_at_call 111; (with_reducible refine (pelicanref13_In.calls k4 (rd l0 x6_4) x5_3 t175 _ A18.out).mono ?_); rintro e w' ⟨rfl, ⟨nd, rfl⟩⟩; (try first | exact ⟨rfl, _, World.drewN_drewN _ _ _⟩ | exact ⟨rfl, _, Eq.trans (World.drewN_drewN _ _ _) (congrArg (World.drewN _) (Nat.add_assoc _ _ _))⟩)))
                    repeat (go_quiet (first | (go_at_call 111; (with_reducible refine (pelicanref13_In.calls k4 (rd l0 x5_3) x6_4 true _ A15.out).mono ?_); rintro e w' ⟨rfl, ⟨nd, rfl⟩⟩; (try first | exact ⟨rfl, _, World.drewN_drewN _ _ _⟩ | exact ⟨rfl, _, Eq.trans (World.drewN_drewN _ _ _) (congrArg (World.drewN _) (Nat.add_assoc _ _ _))⟩); have p174 : 0 ≤ (x6_4 : Int) := of_decide_eq_true (by first | (with_reducible assumption) | assumption); have q174 : x6_4 < (l0.length : Int) := of_decide_eq_true (by first | (with_reducible assumption) | assumption); obtain ⟨ad174, e174, hx174_0⟩ := Kd.at_int HR0.out x6_4 p174 q174; obtain rfl : ad172 = ad174 := (by injection e174); replace p174 := eq_true p174; replace q174 := eq_true q174) | (go_at_call 111; (with_reducible refine (pelicanref13_In.calls k4 (rd l0 x6_4) x5_3 t175 _ A18.out).mono ?_); rintro e w' ⟨rfl, ⟨nd, rfl⟩⟩; (try first | exact ⟨rfl, _, World.drewN_drewN _ _ _⟩ | exact ⟨rfl, _, Eq.trans (World.drewN_drewN _ _ _) (congrArg (World.drewN _) (Nat.add_assoc _ _ _))⟩))); try go_wp2_with (first | (go_at_call 111; (with_reducible refine (pelicanref13_In.calls k4 (rd l0 x5_3) x6_4 true _ A15.out).mono ?_); rintro e w' ⟨rfl, ⟨nd, rfl⟩⟩; (try first | exact ⟨rfl, _, World.drewN_drewN _ _ _⟩ | exact ⟨rfl, _, Eq.trans (World.drewN_drewN _ _ _) (congrArg (World.drewN _) (Nat.add_assoc _ _ _))⟩); have p174 : 0 ≤ (x6_4 : Int) := of_decide_eq_true (by first | (with_reducible assumption) | assumption); have q174 : x6_4 < (l0.length : Int) := of_decide_eq_true (by first | (with_reducible assumption) | assumption); obtain ⟨ad174, e174, hx174_0⟩ := Kd.at_int HR0.out x6_4 p174 q174; obtain rfl : ad172 = ad174 := (by injection e174); replace p174 := eq_true p174; replace q174 := eq_true q174) | (go_at_call 111; (with_reducible refine (pelicanref13_In.calls k4 (rd l0 x6_4) x5_3 t175 _ A18.out).mono ?_); rintro e w' ⟨rfl, ⟨nd, rfl⟩⟩; (try first | exact ⟨rfl, _, World.drewN_drewN _ _ _⟩ | exact ⟨rfl, _, Eq.trans (World.drewN_drewN _ _ _) (congrArg (World.drewN _) (Nat.add_assoc _ _ _))⟩))))
                    go_ret
                    exact ⟨by first | rfl | (simp; done) | (simp [*]; done), by repeat (first | exact Drawn0.refl _ | apply Drawn0.step)⟩
                   ·
                    rw [if_neg c21] at H
                    have c21b0 : (x5_3 == x6_4) = false := beq_eq_false_iff_ne.mpr c21
                    have c21b1 : (x5_3 != x6_4) = true := bne_iff_ne.mpr c21
                    have H' := Aside0.mk H
                    clear H
                    have p172 : 0 ≤ (x5_3 : Int) := of_decide_eq_true (by first | (with_reducible assumption) | assumption)
                    have q172 : x5_3 < (l0.length : Int) := of_decide_eq_true (by first | (with_reducible assumption) | assumption)
                    obtain ⟨ad172, e172, hx172_0⟩ := Kd.at_int HR0.out x5_3 p172 q172
                    cases e172
                    replace p172 := eq_true p172
                    replace q172 := eq_true q172
                    go_wp2_with (first | (go_at_call 111; (with_reducible refine (pelicanref13_In.calls k4 (rd l0 x5_3) x6_4 true _ A15.out).mono ?_); rintro e w' ⟨rfl, ⟨nd, rfl⟩⟩; (try first | exact ⟨rfl, _, World.drewN_drewN _ _ _⟩ | exact ⟨rfl, _, Eq.trans (World.drewN_drewN _ _ _) (congrArg (World.drewN _) (Nat.add_assoc _ _ _))⟩); have p174 : 0 ≤ (x6_4 : Int) := of_decide_eq_true (by first | (with_reducible assumption) | assumption); have q174 : x6_4 < (l0.length : Int) := of_decide_eq_true (by first | (with_reducible assumption) | assumption); obtain ⟨ad174, e174, hx174_0⟩ := Kd.at_int HR0.out x6_4 p174 q174; obtain rfl : ad172 = ad174 := (by injection e174); replace p174 := eq_true p174; replace q174 := eq_true q174) | (go_at_call 111; (with_reducible refine (pelicanref13_In.calls k4 (rd l0 x6_4) x5_3 t175 _ A18.out).mono ?_); rintro e w' ⟨rfl, ⟨nd, rfl⟩⟩; (try first | exact ⟨rfl, _, World.drewN_drewN _ _ _⟩ | exact ⟨rfl, _, Eq.trans (World.drewN_drewN _ _ _) (congrArg (World.drewN _) (Nat.add_assoc _ _ _))⟩)))
                    repeat (go_quiet (first | (go_at_call 111; (with_reducible refine (pelicanref13_In.calls k4 (rd l0 x5_3) x6_4 true _ A15.out).mono ?_); rintro e w' ⟨rfl, ⟨nd, rfl⟩⟩; (try first | exact ⟨rfl, _, World.drewN_drewN _ _ _⟩ | exact ⟨rfl, _, Eq.trans (World.drewN_drewN _ _ _) (congrArg (World.drewN _) (Nat.add_assoc _ _ _))⟩); have p174 : 0 ≤ (x6_4 : Int) := of_decide_eq_true (by first | (with_reducible assumption) | assumption); have q174 : x6_4 < (l0.length : Int) := of_decide_eq_true (by first | (with_reducible assumption) | assumption); obtain ⟨ad174, e174, hx174_0⟩ := Kd.at_int HR0.out x6_4 p174 q174; obtain rfl : ad172 = ad174 := (by injection e174); replace p174 := eq_true p174; replace q174 := eq_true q174) | (go_at_call 111; (with_reducible refine (pelicanref13_In.calls k4 (rd l0 x6_4) x5_3 t175 _ A18.out).mono ?_); rintro e w' ⟨rfl, ⟨nd, rfl⟩⟩; (try first | exact ⟨rfl, _, World.drewN_drewN _ _ _⟩ | exact ⟨rfl, _, Eq.trans (World.drewN_drewN _ _ _) (congrArg (World.drewN _) (Nat.add_assoc _ _ _))⟩))); try go_wp2_with (first | (go_at_call 111; (with_reducible refine (pelicanref13_In.calls k4 (rd l0 x5_3) x6_4 true _ A15.out).mono ?_); rintro e w' ⟨rfl, ⟨nd, rfl⟩⟩; (try first | exact ⟨rfl, _, World.drewN_drewN _ _ _⟩ | exact ⟨rfl, _, Eq.trans (World.drewN_drewN _ _ _) (congrArg (World.drewN _) (Nat.add_assoc _ _ _))⟩); have p174 : 0 ≤ (x6_4 : Int) := of_decide_eq_true (by first | (with_reducible assumption) | assumption); have q174 : x6_4 < (l0.length : Int) := of_decide_eq_true (by first | (with_reducible assumption) | assumption); obtain ⟨ad174, e174, hx174_0⟩ := Kd.at_int HR0.out x6_4 p174 q174; obtain rfl : ad172 = ad174 := (by injection e174); replace p174 := eq_true p174; replace q174 := eq_true q174) | (go_at_call 111; (with_reducible refine (pelicanref13_In.calls k4 (rd l0 x6_4) x5_3 t175 _ A18.out).mono ?_); rintro e w' ⟨rfl, ⟨nd, rfl⟩⟩; (try first | exact ⟨rfl, _, World.drewN_drewN _ _ _⟩ | exact ⟨rfl, _, Eq.trans (World.drewN_drewN _ _ _) (congrArg (World.drewN _) (Nat.add_assoc _ _ _))⟩))))
                    go_roundg k4
                    case measure => have := HJ1.out; have := HK2.out; have := HK3.out; have := HK4.out; omega
                    case rel => exact ⟨(wrap64 (x6_4 + 1)), (by first | rfl | (simp; done) | (simp [*]; done)), H', ⟨by have := HJ1.out; have := HK2.out; have := HK3.out; have := HK4.out; omega⟩, by repeat (first | exact Drawn0.refl _ | apply Drawn0.step)⟩
                  ·
                   replace c20 := Bool.eq_false_iff.mpr c20
                   subst c20
                   have H1 : (pelicanref13_May.l2 k4 l0 (l0.length : Int) x5_3 (wrap64 (x6_4 + 1))) = some r := by rw [if_neg (show ¬ (false = true) by decide)] at H; exact H
                   clear H
                   have H := H1
                   clear H1
                   have H' := Aside0.mk H
                   clear H
                   have p172 : 0 ≤ (x5_3 : Int) := of_decide_eq_true (by first | (with_reducible assumption) | assumption)
                   have q172 : x5_3 < (l0.length : Int) := of_decide_eq_true (by first | (with_reducible assumption) | assumption)
                   obtain ⟨ad172, e172, hx172_0⟩ := Kd.at_int HR0.out x5_3 p172 q172
                   cases e172
                   replace p172 := eq_true p172
                   replace q172 := eq_true q172
                   go_wp2_with (first | (go_at_call 111; (with_reducible refine (pelicanref13_In.calls k4 (rd l0 x5_3) x6_4 false _ A15.out).mono ?_); rintro e w' ⟨rfl, ⟨nd, rfl⟩⟩; (try first | exact ⟨rfl, _, World.drewN_drewN _ _ _⟩ | exact ⟨rfl, _, Eq.trans (World.drewN_drewN _ _ _) (congrArg (World.drewN _) (Nat.add_assoc _ _ _))⟩); have p174 : 0 ≤ (x6_4 : Int) := of_decide_eq_true (by first | (with_reducible assumption) | assumption); have q174 : x6_4 < (l0.length : Int) := of_decide_eq_true (by first | (with_reducible assumption) | assumption); obtain ⟨ad174, e174, hx174_0⟩ := Kd.at_int HR0.out x6_4 p174 q174; obtain rfl : ad172 = ad174 := (by injection e174); replace p174 := eq_true p174; replace q174 := eq_true q174) | (go_at_call 111; (with_reducible refine (pelicanref13_In.calls k4 (rd l0 x6_4) x5_3 t175 _ A18.out).mono ?_); rintro e w' ⟨rfl, ⟨nd, rfl⟩⟩; (try first | exact ⟨rfl, _, World.drewN_drewN _ _ _⟩ | exact ⟨rfl, _, Eq.trans (World.drewN_drewN _ _ _) (congrArg (World.drewN _) (Nat.add_assoc _ _ _))⟩)))
                   repeat (go_quiet (first | (go_at_call 111; (with_reducible refine (pelicanref13_In.calls k4 (rd l0 x5_3) x6_4 false _ A15.out).mono ?_); rintro e w' ⟨rfl, ⟨nd, rfl⟩⟩; (try first | exact ⟨rfl, _, World.drewN_drewN _ _ _⟩ | exact ⟨rfl, _, Eq.trans (World.drewN_drewN _ _ _) (congrArg (World.drewN _) (Nat.add_assoc _ _ _))⟩); have p174 : 0 ≤ (x6_4 : Int) := of_decide_eq_true (by first | (with_reducible assumption) | assumption); have q174 : x6_4 < (l0.length : Int) := of_decide_eq_true (by first | (with_reducible assumption) | assumption); obtain ⟨ad174, e174, hx174_0⟩ := Kd.at_int HR0.out x6_4 p174 q174; obtain rfl : ad172 = ad174 := (by injection e174); replace p174 := eq_true p174; replace q174 := eq_true q174) | (go_at_call 111; (with_reducible refine (pelicanref13_In.calls k4 (rd l0 x6_4) x5_3 t175 _ A18.out).mono ?_); rintro e w' ⟨rfl, ⟨nd, rfl⟩⟩; (try first | exact ⟨rfl, _, World.drewN_drewN _ _ _⟩ | exact ⟨rfl, _, Eq.trans (World.drewN_drewN _ _ _) (congrArg (World.drewN _) (Nat.add_assoc _ _ _))⟩))); try go_wp2_with (first | (go_at_call 111; (with_reducible refine (pelicanref13_In.calls k4 (rd l0 x5_3) x6_4 false _ A15.out).mono ?_); rintro e w' ⟨rfl, ⟨nd, rfl⟩⟩; (try first | exact ⟨rfl, _, World.drewN_drewN _ _ _⟩ | exact ⟨rfl, _, Eq.trans (World.drewN_drewN _ _ _) (congrArg (World.drewN _) (Nat.add_assoc _ _ _))⟩); have p174 : 0 ≤ (x6_4 : Int) := of_decide_eq_true (by first | (with_reducible assumption) | assumption); have q174 : x6_4 < (l0.length : Int) := of_decide_eq_true (by first | (with_reducible assumption) | assumption); obtain ⟨ad174, e174, hx174_0⟩ := Kd.at_int HR0.out x6_4 p174 q174; obtain rfl : ad172 = ad174 := (by injection e174); replace p174 := eq_true p174; replace q174 := eq_true q174) | (go_at_call 111; (with_reducible refine (pelicanref13_In.calls k4 (rd l0 x6_4) x5_3 t175 _ A18.out).mono ?_); rintro e w' ⟨rfl, ⟨nd, rfl⟩⟩; (try first | exact ⟨rfl, _, World.drewN_drewN _ _ _⟩ | exact ⟨rfl, _, Eq.trans (World.drewN_drewN _ _ _) (congrArg (World.drewN _) (Nat.add_assoc _ _ _))⟩))))
                   go_roundg k4
                   case measure => have := HJ1.out; have := HK2.out; have := HK3.out; have := HK4.out; omega
                   case rel => exact ⟨(wrap64 (x6_4 + 1)), (by first | rfl | (simp; done) | (simp [*]; done)), H', ⟨by have := HJ1.out; have := HK2.out; have := HK3.out; have := HK4.out; omega⟩, by repeat (first | exact Drawn0.refl _ | apply Drawn0.step)⟩
                ·
                 rw [if_neg c17] at H
                 exact absurd H (by simp)
               ·
                rw [if_neg c16] at H
                exact absurd H (by simp)
              ·
               rw [if_neg c14] at H
               exact absurd H (by simp)
             ·
              rw [if_neg c13] at H
              exact absurd H (by simp)
            ·
             rw [if_neg c12] at H
             have c12b0 : decide (x6_4 < (l0.length : Int)) = false := decide_eq_false c12
             clear c12
             have H' := Aside0.mk H
             clear H
             go_wp2
             repeat (go_quiet (fail); try go_wp2)
             go_roundg k4
             case measure => have := HJ1.out; have := HK2.out; have := HK3.out; have := HK4.out; omega
             case rel => exact ⟨(wrap64 (x5_3 + 1)), (by first | rfl | (simp; done) | (simp [*]; done)), H', ⟨by have := HJ1.out; have := HK2.out; have := HK3.out; have := HK4.out; omega⟩, by repeat (first | exact Drawn0.refl _ | apply Drawn0.step)⟩
         ·
          rw [if_neg c11] at H
          have c11b0 : decide (x5_3 < (l0.length : Int)) = false := decide_eq_false c11
          clear c11
          obtain rfl := Option.some.inj H
          go_wp2
          repeat (go_quiet (fail); try go_wp2)
          go_ret
          exact ⟨by first | rfl | (simp; done) | (simp [*]; done), by repeat (first | exact Drawn0.refl _ | apply Drawn0.step)⟩
end Go.Proofs.YtpciieagafddcaaDoor.F
