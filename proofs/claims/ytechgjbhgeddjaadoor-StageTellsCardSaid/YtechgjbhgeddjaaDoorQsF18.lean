/- Woven by wip/weave/weave.py of this repo (own tool) out of the translation: the contracts of some functions. Lean checks it. -/
import Derived.Test.YtechgjbhgeddjaaDoorQsD
import Derived.Test.YtechgjbhgeddjaaDoorQsSp
import Derived.RangeFuncBox
import Derived.RangeFuncLeaves
import Derived.RangeFuncNested
import Derived.Shelf.Abstract
import Derived.OwnWalkIn
import Derived.TacticsInMore
import Derived.LoopNIn
import Derived.LoopIn
import Derived.BigGuardIn
import Derived.Outline
import Derived.Sort.QuietIn
namespace Go.Proofs.YtechgjbhgeddjaaDoor.F
open Go.RowKit Go.Proofs.YtechgjbhgeddjaaDoorW.PrintWords Go.Proofs.YtechgjbhgeddjaaDoorW.PrintLast Go.Proofs.YtechgjbhgeddjaaDoorW.PrintMore
attribute [local go_sem] max2_int min2_int max_two min_two max_three min_three max_four min_four   -- for this text's walks alone
set_option linter.unusedVariables false
set_option linter.unusedSimpArgs false
-- IMPORT Derived.RangeFuncBox
-- IMPORT Derived.RangeFuncLeaves
-- IMPORT Derived.RangeFuncNested
-- IMPORT Derived.Shelf.Abstract
-- IMPORT Derived.OwnWalkIn
-- IMPORT Derived.TacticsInMore
-- IMPORT Derived.LoopNIn
-- IMPORT Derived.LoopIn
-- IMPORT Derived.BigGuardIn
-- IMPORT Derived.Outline
-- IMPORT Derived.Sort.QuietIn
open Go.Shelf
attribute [local go_sem] Oper.semAt_some
/-! ### lamp.May's closure, slices.IndexFunc and slices.ContainsFunc at it -/
set_option maxHeartbeats 1000000 in
theorem lampMay1_calls (x : Int) (w : World) :
    Calls Tryd.prog 54 #[.int .i64 x] w fun e w' => e = .returned (.bool (lamp_badB.f x)) ∧ Drawn0 w w' := by
  by_cases h : x < 0
  · have H := Lib.hid (show lamp_badB.f x = true by simp [lamp_badB.f, h])
    rw [H.out]
    go_enter Tryd.func54, Tryd.ntmps54
    go_wp2
    go_ret
    exact ⟨rfl, Drawn0.refl _⟩
  · by_cases h2 : 3 ≤ x
    · have H := Lib.hid (show lamp_badB.f x = true by simp [lamp_badB.f, h2])
      rw [H.out]
      go_enter Tryd.func54, Tryd.ntmps54
      go_wp2
      go_ret
      exact ⟨rfl, Drawn0.refl _⟩
    · have H := Lib.hid (show lamp_badB.f x = false by simp [lamp_badB.f, h, h2])
      rw [H.out]
      go_enter Tryd.func54, Tryd.ntmps54
      go_wp2
      go_ret
      exact ⟨rfl, Drawn0.refl _⟩
/-- What slices.IndexFunc's answer tells: is there one. -/
def IdxTellsL (p : Int → Bool) (xs : List Int) (w : World) (e : Ending) (w' : World) : Prop := ∃ r : Int, e = .returned (.int .i64 r) ∧ decide (0 ≤ r) = xs.any p ∧ Drawn0 w w'
theorem take_anyL (p : Int → Bool) (xs : List Int) (k : Nat) (h : k < xs.length) : (xs.take (k + 1)).any p = ((xs.take k).any p || p (rd xs k)) := by
  rw [List.take_succ_eq_append_getElem h, List.any_append]
  simp [rd, List.getD_eq_getElem?_getD, h]
theorem any_of_takeL (p : Int → Bool) (xs : List Int) (k : Nat) (h : (xs.take k).any p = true) : xs.any p = true := by
  rw [← List.take_append_drop k xs, List.any_append, h]; rfl
set_option maxHeartbeats 2000000 in
set_option maxRecDepth 100000 in
theorem indexFuncL_calls (A : Option Addr) (c : Nat) (xs : List Int) (p : Int → Bool) (w : World) (hr : Kd.C (Kd.int .i64) w A xs.length xs)
    (hp : ∀ x W, Drawn0 w W → Calls Tryd.prog 54 #[.int .i64 x] W fun e W' => e = .returned (.bool (p x)) ∧ Drawn0 W W') :
    Calls Tryd.prog 72 #[.slice A xs.length c, .func (.func 54) #[] #[]] w (IdxTellsL p xs w) := by
  have hm := Kd.C_max hr
  have HR := Lib.hid hr
  have HP := Lib.hid hp
  clear hr hp
  go_enter Tryd.func72, Tryd.ntmps72
  go_wp2
  go_loopw [8] (fun i wr => ∃ k : Nat, k ≤ xs.length ∧ i = .int .i64 k ∧ Hid ((xs.take k).any p = false) ∧ Drawn0 w wr) (fun i _ => xs.length - (intOf i).toNat)
  case atStart => exact ⟨0, Nat.zero_le _, rfl, Lib.hid (by simp), Drawn0.refl _⟩
  case round =>
    obtain ⟨k, hk, rfl, hno, hd⟩ := hrel
    by_cases hlt : k < xs.length
    · have hta := Lib.hid (take_anyL p xs k hlt)
      obtain ⟨ad, hA, hx⟩ := Kd.at_int (Kd.C_below HR.out hd.below) (k : Int) (by omega) (by omega)
      rw [Int.toNat_natCast] at hx
      subst hA
      have hc := Lib.hid (HP.out (rd xs k) wr hd)
      cases hpx : p (rd xs k) with
      | true =>
        rw [hpx] at hc
        have hfin := Lib.hid (any_of_takeL p xs (k + 1) (by rw [hta.out, hpx]; simp))
        clear hpx
        go_wp2_with (go_at_call 54; refine hc.out.mono ?_; rintro e w' ⟨rfl, ⟨nd, rfl⟩⟩)
        go_ret
        exact ⟨_, rfl, by rw [hfin.out]; simp, ⟨let ⟨m, e⟩ := hd.out; ⟨m + nd, by rw [e, World.drewN_drewN]⟩⟩⟩
      | false =>
        rw [hpx] at hc
        have hfin := Lib.hid (show (xs.take (k + 1)).any p = false by rw [hta.out, hpx, hno.out]; rfl)
        clear hpx
        go_wp2_with (go_at_call 54; refine hc.out.mono ?_; rintro e w' ⟨rfl, ⟨nd, rfl⟩⟩)
        go_roundw
        case rel => exact ⟨k + 1, by omega, by go_num, hfin, ⟨let ⟨m, e⟩ := hd.out; ⟨m + nd, by rw [e, World.drewN_drewN]⟩⟩⟩
        case measure => simp [intOf]; omega
    · obtain rfl : k = xs.length := by omega
      go_wp2
      go_ret
      exact ⟨_, rfl, by have := hno.out; rw [List.take_length] at this; rw [this]; decide, hd⟩
set_option maxHeartbeats 1000000 in
theorem containsFuncL_calls (A : Option Addr) (c : Nat) (xs : List Int) (p : Int → Bool) (w : World) (hr : Kd.C (Kd.int .i64) w A xs.length xs)
    (hp : ∀ x W, Drawn0 w W → Calls Tryd.prog 54 #[.int .i64 x] W fun e W' => e = .returned (.bool (p x)) ∧ Drawn0 W W') :
    Calls Tryd.prog 55 #[.slice A xs.length c, .func (.func 54) #[] #[]] w fun e w' => e = .returned (.bool (xs.any p)) ∧ Drawn0 w w' := by
  have hc := Lib.hid (indexFuncL_calls A c xs p w hr hp)
  clear hr hp
  go_enter Tryd.func55, Tryd.ntmps55
  go_wp2_with (go_at_call 72; refine hc.out.mono ?_; rintro e w' ⟨r, rfl, hr, ⟨nd, rfl⟩⟩; have hr' := Lib.hid hr; clear hr)
  go_ret
  exact ⟨by rw [← hr'.out]; rfl, ⟨⟨nd, rfl⟩⟩⟩
set_option maxHeartbeats 1000000 in
theorem lamp_May_drawn (A0 : Option Addr) (c0 : Nat) (l0 : List Int) (r : Bool) (w : World) (hr0 : Kd.C (Kd.int .i64) w A0 l0.length l0) (hc0 : l0.length ≤ c0) (h : lamp_May.f l0 = some r) :
    Calls Tryd.prog 28 #[.slice A0 l0.length c0] w fun e w' => e = .returned (.bool r) ∧ Drawn0 w w' := by
  have h := Option.some.inj h
  have hmx := Kd.C_max hr0
  have HC := Lib.hid (containsFuncL_calls A0 c0 l0 lamp_badB.f w hr0 (fun x W _ => lampMay1_calls x W))
  clear hr0
  unfold lamp_mayB.f at h
  by_cases h1 : 1 ≤ l0.length
  · by_cases h2 : l0.length ≤ 8
    · rw [decide_eq_true ⟨h1, h2⟩, Bool.true_and] at h
      have HH := Lib.hid h
      clear h
      go_enter Tryd.func28, Tryd.ntmps28
      go_wp2_with (go_at_call 55; refine HC.out.mono ?_; rintro e w' ⟨rfl, ⟨nd, rfl⟩⟩)
      go_ret
      exact ⟨by rw [← HH.out]; rfl, ⟨⟨_, rfl⟩⟩⟩
    · rw [decide_eq_false (show ¬ (1 ≤ l0.length ∧ l0.length ≤ 8) by omega), Bool.false_and] at h
      subst h
      go_enter Tryd.func28, Tryd.ntmps28
      go_wp2
      go_ret
      exact ⟨rfl, Drawn0.refl _⟩
  · rw [decide_eq_false (show ¬ (1 ≤ l0.length ∧ l0.length ≤ 8) by omega), Bool.false_and] at h
    subst h
    go_enter Tryd.func28, Tryd.ntmps28
    go_wp2
    go_ret
    exact ⟨rfl, Drawn0.refl _⟩
end Go.Proofs.YtechgjbhgeddjaaDoor.F
