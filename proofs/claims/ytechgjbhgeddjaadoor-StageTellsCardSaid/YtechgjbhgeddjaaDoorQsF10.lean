/- Woven by wip/weave/weave.py of this repo (own tool) out of the translation: the contracts of some functions. Lean checks it. -/
import Derived.Test.YtechgjbhgeddjaaDoorQsD
import Derived.Test.YtechgjbhgeddjaaDoorQsSp
namespace Go.Proofs.YtechgjbhgeddjaaDoor.F
open Go.RowKit Go.Proofs.YtechgjbhgeddjaaDoorW.PrintWords Go.Proofs.YtechgjbhgeddjaaDoorW.PrintLast Go.Proofs.YtechgjbhgeddjaaDoorW.PrintMore
attribute [local go_sem] max2_int min2_int max_two min_two max_three min_three max_four min_four   -- for this text's walks alone
set_option linter.unusedVariables false
set_option linter.unusedSimpArgs false
/-! ### group_in: function 82 -/
set_option maxHeartbeats 8000000 in
set_option maxRecDepth 100000 in
theorem group_in.calls (a0 : Int) (a1 : Int) (r : Bool) (w : World) (h : group_in.f a0 a1 = some r) :
    Calls Tryd.prog 82 #[.int .i64 a0, .int .i64 a1] w fun e w' => e = .returned (.bool r) ∧ Drawn0 w w' := by
  have H : (if a0 ≥ 0 then (if 0 ≤ a1 then (some (decide (a0 < (shl .i64 1 a1)))) else (none)) else (some false)) = some r := h
  clear h
  by_cases c3 : a0 ≥ 0
  · rw [if_pos c3] at H
    have c3b0 : decide (0 ≤ a0) = true := decide_eq_true c3
    clear c3
    by_cases c4 : 0 ≤ a1
    · rw [if_pos c4] at H
      have c4b0 := eq_true c4
      have c4b1 : decide (0 ≤ a1) = true := decide_eq_true c4
      clear c4
      obtain ⟨ji5, hji5⟩ : ∃ j_ : Int, (shl .i64 1 a1) = j_ := ⟨_, rfl⟩
      replace H : (some (decide (a0 < (ji5)))) = some r := by first | (rw [hji5] at H; exact H) | (simp only [hji5] at H ⊢; exact H)
      have hji5_ : (IntKind.i64.wrap (1 * 2 ^ min a1.toNat 64)) = ji5 := hji5
      have hji5z : a1 ≤ 64 → (IntKind.i64.wrap (1 * 2 ^ a1.toNat)) = ji5 := shl_small hji5
      have hji5u : (IntKind.i64.wrap (2 ^ min a1.toNat 64)) = ji5 := by have h_ := hji5_; rw [Int.one_mul] at h_; exact h_
      have hji5v : a1 ≤ 64 → (IntKind.i64.wrap (2 ^ a1.toNat)) = ji5 := fun hle_ => by have h_ := hji5z hle_; rw [Int.one_mul] at h_; exact h_
      have hji5y : (wrap64 (1 * 2 ^ min a1.toNat 64)) = ji5 := (i64_w _).symm.trans hji5_
      have hji5x : a1 ≤ 64 → (wrap64 (1 * 2 ^ a1.toNat)) = ji5 := fun h_ => (i64_w _).symm.trans (hji5z h_)
      obtain rfl := Option.some.inj H
      go_enter Tryd.func82, Tryd.ntmps82
      go_wp2
      go_ret
      exact ⟨by first | rfl | (simp; done) | (simp only [← hji5] <;> (first | rfl | simp)) | (simp [*]; done), by repeat (first | exact Drawn0.refl _ | apply Drawn0.step)⟩
    · rw [if_neg c4] at H
      exact absurd H (by simp)
  · rw [if_neg c3] at H
    have c3b0 : decide (0 ≤ a0) = false := decide_eq_false c3
    clear c3
    obtain rfl := Option.some.inj H
    go_enter Tryd.func82, Tryd.ntmps82
    go_wp2
    go_ret
    exact ⟨by first | rfl | (simp; done) | (simp [*]; done), by repeat (first | exact Drawn0.refl _ | apply Drawn0.step)⟩
end Go.Proofs.YtechgjbhgeddjaaDoor.F
