/- Woven by wip/weave/weave.py of this repo (own tool) out of the translation: the contracts of some functions. Lean checks it. -/
import Derived.Test.YtechgjbhgeddjaaDoorQsD
import Derived.Test.YtechgjbhgeddjaaDoorQsDR13
import Derived.Test.YtechgjbhgeddjaaDoorQsSp
namespace Go.Proofs.YtechgjbhgeddjaaDoor.F
open Go.RowKit Go.Proofs.YtechgjbhgeddjaaDoorW.PrintWords Go.Proofs.YtechgjbhgeddjaaDoorW.PrintLast Go.Proofs.YtechgjbhgeddjaaDoorW.PrintMore
attribute [local go_sem] max2_int min2_int max_two min_two max_three min_three max_four min_four   -- for this text's walks alone
set_option linter.unusedVariables false
set_option linter.unusedSimpArgs false
def pelicanref14_Has.f (k : Nat) (l0_0 : List Int) (l0_1 : List (S41)) (a0_2 : Int) (a0_3 : Int) (a0_4 : Int) (a1 : Int) (a2 : Int) : Option (Bool) := if 0 ≤ a1 then (if a1 < (l0_1.length : Int) then ((pelicanref13_In.f k ((rd_T41 l0_1 a1).f0) a2).bind fun t224 => (some t224)) else (none)) else (none)
def pelicanref14_stage.f (k : Nat) (l0_0 : List Int) (l0_1 : List (S41)) (a0_2 : Int) (a0_3 : Int) (a0_4 : Int) (a1_0 : Int) (a1_1 : Int) (a1_2 : Int) : Option (Bool) := (pelicanref13_Free.f k l0_0 a1_0).bind fun t240 => (if t240 = true then (if a1_0 = 0 then (some false) else (if a1_1 ≥ 1 then (if a1_1 ≤ 200 then (if a1_2 ≥ a1_1 then (some (decide (a1_2 ≤ 200))) else (some false)) else (some false)) else (some false))) else (some false))
mutual
def pelicanref14_Fit.j0 : Nat → Bool → List Int → List (S41) → Int → Int → Int → Option (Bool)
  | 0, _, _, _, _, _, _ => none
  | k + 1, x26, x242000, x242001, x242002, x242003, x242004 => if x26 = true then (some false) else (pelicanref14_Fit.l0 k 0 x242000 x242001 x242002 x242003 x242004)
def pelicanref14_Fit.l0 : Nat → Int → List Int → List (S41) → Int → Int → Int → Option (Bool)
  | 0, _, _, _, _, _, _ => none
  | k + 1, x4, x242000, x242001, x242002, x242003, x242004 => if x4 < (x242001.length : Int) then (if 0 ≤ x4 then ((pelicanref14_stage.f k x242000 x242001 x242002 x242003 x242004 ((rd_T41 x242001 x4).f0) ((rd_T41 x242001 x4).f1) ((rd_T41 x242001 x4).f2)).bind fun t244 => (if t244 = true then (pelicanref14_Fit.l0 k (wrap64 (x4 + 1)) x242000 x242001 x242002 x242003 x242004) else (some false))) else (none)) else (pelicanref14_Fit.l1 k 0 x242000 x242001 x242002 x242003 x242004)
def pelicanref14_Fit.l1 : Nat → Int → List Int → List (S41) → Int → Int → Int → Option (Bool)
  | 0, _, _, _, _, _, _ => none
  | k + 1, x6, x242000, x242001, x242002, x242003, x242004 => if x6 < (x242000.length : Int) then (pelicanref14_Fit.l2 k x6 false 0 x242000 x242001 x242002 x242003 x242004) else (if x242002 ≥ 1 then (if x242002 ≤ 200 then (if x242003 ≥ 1 then (if x242003 ≤ 200 then (if x242004 ≥ 0 then (some (decide (x242004 ≤ 300))) else (some false)) else (some false)) else (some false)) else (some false)) else (some false))
def pelicanref14_Fit.l2 : Nat → Int → Bool → Int → List Int → List (S41) → Int → Int → Int → Option (Bool)
  | 0, _, _, _, _, _, _, _, _ => none
  | k + 1, x6, x7, x8, x242000, x242001, x242002, x242003, x242004 => if x8 < (x242001.length : Int) then ((pelicanref14_Has.f k x242000 x242001 x242002 x242003 x242004 x8 x6).bind fun t245 => (if x7 = true then (pelicanref14_Fit.l2 k x6 true (wrap64 (x8 + 1)) x242000 x242001 x242002 x242003 x242004) else (pelicanref14_Fit.l2 k x6 t245 (wrap64 (x8 + 1)) x242000 x242001 x242002 x242003 x242004))) else (if x7 = true then (pelicanref14_Fit.l1 k (wrap64 (x6 + 1)) x242000 x242001 x242002 x242003 x242004) else (some false))
end
def pelicanref14_Fit.f (k : Nat) (l0_0 : List Int) (l0_1 : List (S41)) (a0_2 : Int) (a0_3 : Int) (a0_4 : Int) : Option (Bool) := (pelicanref13_May.f k l0_0).bind fun t242 => (if t242 = true then (if (l0_1.length : Int) < 2 then (pelicanref14_Fit.j0 k true l0_0 l0_1 a0_2 a0_3 a0_4) else (pelicanref14_Fit.j0 k (decide ((l0_1.length : Int) > 6)) l0_0 l0_1 a0_2 a0_3 a0_4)) else (pelicanref14_Fit.j0 k true l0_0 l0_1 a0_2 a0_3 a0_4))
mutual
def pelicanref14_All.j0 : Nat → List (S39) → Bool → Option (Bool)
  | 0, _, _ => none
  | k + 1, x0, x12 => if x12 = true then (some false) else (pelicanref14_All.l0 k x0 0)
def pelicanref14_All.l0 : Nat → List (S39) → Int → Option (Bool)
  | 0, _, _ => none
  | k + 1, x0, x3 => if x3 < (x0.length : Int) then (if 0 ≤ x3 then ((pelicanref14_Fit.f k ((rd_T39 x0 x3).f0) ((rd_T39 x0 x3).f1) ((rd_T39 x0 x3).f2) ((rd_T39 x0 x3).f3) ((rd_T39 x0 x3).f4)).bind fun t247 => (if t247 = true then (if 0 < (x0.length : Int) then (if (((rd_T39 x0 x3).f0).length : Int) = (((rd_T39 x0 0).f0).length : Int) then (pelicanref14_All.l0 k x0 (wrap64 (x3 + 1))) else (some false)) else (none)) else (some false))) else (none)) else (some true)
end
def pelicanref14_All.f (k : Nat) (l0 : List (S39)) : Option (Bool) := if (l0.length : Int) < 1 then (pelicanref14_All.j0 k l0 true) else (pelicanref14_All.j0 k l0 (decide ((l0.length : Int) > 3)))
def pelicanref14_Next.j0 : Nat → Int → Bool → List Int → List (S41) → Int → Int → Int → Option (Int)
  | 0, _, _, _, _, _, _, _ => none
  | k + 1, x1, x20, x283000, x283001, x283002, x283003, x283004 => if x20 = true then (some (-1)) else (if x1 = (wrap64 ((x283001.length : Int) - 1)) then (some 0) else (some (wrap64 (x1 + 1))))
def pelicanref14_Next.f (k : Nat) (l0_0 : List Int) (l0_1 : List (S41)) (a0_2 : Int) (a0_3 : Int) (a0_4 : Int) (a1 : Int) : Option (Int) := (pelicanref14_Fit.f k l0_0 l0_1 a0_2 a0_3 a0_4).bind fun t283 => (if t283 = true then (if a1 < 0 then (pelicanref14_Next.j0 k a1 true l0_0 l0_1 a0_2 a0_3 a0_4) else (pelicanref14_Next.j0 k a1 (decide (a1 ≥ (l0_1.length : Int))) l0_0 l0_1 a0_2 a0_3 a0_4)) else (pelicanref14_Next.j0 k a1 true l0_0 l0_1 a0_2 a0_3 a0_4))
end Go.Proofs.YtechgjbhgeddjaaDoor.F
/- Woven by wip/weave/weave.py of this repo (own tool) out of the translation: the contracts of some functions. Lean checks it. -/
namespace Go.Proofs.YtechgjbhgeddjaaDoor.F
open Go.RowKit Go.Proofs.YtechgjbhgeddjaaDoorW.PrintWords Go.Proofs.YtechgjbhgeddjaaDoorW.PrintLast Go.Proofs.YtechgjbhgeddjaaDoorW.PrintMore
attribute [local go_sem] max2_int min2_int max_two min_two max_three min_three max_four min_four   -- for this text's walks alone
set_option linter.unusedVariables false
set_option linter.unusedSimpArgs false
/-! ### pelicanref13_pow: function 79 -/
set_option maxHeartbeats 8000000 in
set_option maxRecDepth 100000 in
theorem pelicanref13_pow.calls (k : Nat) (a0 : Int) (r : Int) (w : World) (h : pelicanref13_pow.f k a0 = some r) :
    Calls Tryd.prog 79 #[.int .i64 a0] w fun e w' => e = .returned (.int .i64 r) ∧ Drawn0 w w' := by
  have H : (pelicanref13_pow.l0 k a0 1 0) = some r := h
  clear h
  have H' := Aside0.mk H
  clear H
  go_enter Tryd.func79, Tryd.ntmps79
  go_wp2
  go_loopg [3, 4] k (fun kq v3 v4 w' => ∃ (x3_1 : Int) (x4_1 : Int), v3 = .int .i64 x3_1 ∧ v4 = .int .i64 x4_1 ∧ Aside0 (pelicanref13_pow.l0 kq a0 x3_1 x4_1 = some r) ∧ Aside0 (kq ≤ k) ∧ Drawn0 w w')
  case atStart => exact ⟨(1), (0), (by first | rfl | (simp; done) | (simp [*]; done)), (by first | rfl | (simp; done) | (simp [*]; done)), H', ⟨Nat.le_refl _⟩, by repeat (first | exact Drawn0.refl _ | apply Drawn0.step)⟩
  case round =>
    clear H'
    obtain ⟨x3_1, x4_1, rfl, rfl, HA, HK1, ⟨m1, rfl⟩⟩ := hrel
    cases gk with
    | zero => exact absurd HA.out (by simp [pelicanref13_pow.l0])
    | succ k1 =>
      have H := HA.out
      clear HA
      simp only [pelicanref13_pow.l0] at H
      by_cases c2 : x4_1 < a0
      · rw [if_pos c2] at H
        have c2b0 : decide (x4_1 < a0) = true := decide_eq_true c2
        clear c2
        have H' := Aside0.mk H
        clear H
        go_wp2
        go_roundg k1
        case measure => have := HK1.out; omega
        case rel => exact ⟨(wrap64 (2 * x3_1)), (wrap64 (x4_1 + 1)), (by first | rfl | (simp; done) | (simp [*]; done)), (by first | rfl | (simp; done) | (simp [*]; done)), H', ⟨by have := HK1.out; omega⟩, by repeat (first | exact Drawn0.refl _ | apply Drawn0.step)⟩
      · rw [if_neg c2] at H
        have c2b0 : decide (x4_1 < a0) = false := decide_eq_false c2
        clear c2
        obtain rfl := Option.some.inj H
        go_wp2
        go_ret
        exact ⟨by first | rfl | (simp; done) | (simp [*]; done), by repeat (first | exact Drawn0.refl _ | apply Drawn0.step)⟩
/-! ### pelicanref13_In: function 61 -/
set_option maxHeartbeats 8000000 in
set_option maxRecDepth 100000 in
theorem pelicanref13_In.calls (k : Nat) (a0 : Int) (a1 : Int) (r : Bool) (w : World) (h : pelicanref13_In.f k a0 a1 = some r) :
    Calls Tryd.prog 61 #[.int .i64 a0, .int .i64 a1] w fun e w' => e = .returned (.bool r) ∧ Drawn0 w w' := by
  have H : ((pelicanref13_pow.f k a1).bind fun t221 => (if t221 = 0 then (none) else (some ((Int.tmod (wrap64 (Int.tdiv a0 t221)) 2) == 1)))) = some r := h
  clear h
  replace H := Option.bind_eq_some_iff.mp H
  obtain ⟨t221, A30, H⟩ := H
  replace H : (if t221 = 0 then (none) else (some ((Int.tmod (wrap64 (Int.tdiv a0 t221)) 2) == 1))) = some r := H
  have A3 := Aside0.mk A30
  clear A30
  by_cases c4 : t221 = 0
  · rw [if_pos c4] at H
    exact absurd H (by simp)
  · rw [if_neg c4] at H
    have c4b0 : (t221 == 0) = false := beq_eq_false_iff_ne.mpr c4
    have c4b1 : (t221 != 0) = true := bne_iff_ne.mpr c4
    obtain rfl := Option.some.inj H
    go_enter Tryd.func61, Tryd.ntmps61
    go_wp2_with (first | ((with_reducible refine gate_callee (f := 79) rfl ?_); refine goesL_ (some 7) rfl rfl Tryd.func79 (by kernel_rfl) rfl #[.int .i64 a1] rfl (by (try simp only [List.map_toArray, List.map_cons, List.map_nil]); first | done | rfl | (simp only [List.length_drop, List.length_take]; rfl)) ?_; (with_reducible refine (pelicanref13_pow.calls k a1 t221 _ A3.out).mono ?_); rintro e w' ⟨rfl, ⟨nd, rfl⟩⟩; refine ⟨_, rfl, ?_⟩))
    go_ret
    exact ⟨by first | rfl | (simp; done) | (simp [*]; done), by repeat (first | exact Drawn0.refl _ | apply Drawn0.step)⟩
end Go.Proofs.YtechgjbhgeddjaaDoor.F
