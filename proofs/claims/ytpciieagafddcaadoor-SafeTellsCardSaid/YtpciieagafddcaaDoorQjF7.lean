/- Woven by wip/weave/weave.py of this repo (own tool) out of the translation: the contracts of some functions. Lean checks it. -/
import Derived.Test.YtpciieagafddcaaDoorQjD
import Derived.Test.YtpciieagafddcaaDoorQjSp
import Derived.RangeFuncBox
import Derived.RangeFuncLeaves
import Derived.RangeFuncNested
import Derived.Shelf.Abstract
import Derived.OwnWalkIn
import Derived.TacticsInMore
import Derived.LoopNIn
import Derived.LoopIn
import Derived.BigGuardIn
import Derived.Outline
import Derived.Sort.QuietIn
import Derived.Test.YtpciieagafddcaaDoorQjF6
namespace Go.Proofs.YtpciieagafddcaaDoor.F
open Go.RowKit Go.Proofs.YtpciieagafddcaaDoorW.PrintWords Go.Proofs.YtpciieagafddcaaDoorW.PrintLast Go.Proofs.YtpciieagafddcaaDoorW.PrintMore
attribute [local go_sem] max2_int min2_int max_two min_two max_three min_three max_four min_four   -- for this text's walks alone
set_option linter.unusedVariables false
set_option linter.unusedSimpArgs false
-- IMPORT Derived.RangeFuncBox
-- IMPORT Derived.RangeFuncLeaves
-- IMPORT Derived.RangeFuncNested
-- IMPORT Derived.Shelf.Abstract
-- IMPORT Derived.OwnWalkIn
-- IMPORT Derived.TacticsInMore
-- IMPORT Derived.LoopNIn
-- IMPORT Derived.LoopIn
-- IMPORT Derived.BigGuardIn
-- IMPORT Derived.Outline
-- IMPORT Derived.Sort.QuietIn
open Go.Shelf
attribute [local go_sem] Oper.semAt_some
set_option maxHeartbeats 1000000 in
theorem lampMay1_calls (x : Int) (w : World) :
    Calls Tryd.prog 83 #[.int .i64 x] w fun e w' => e = .returned (.bool (lamp_badB.f x)) ∧ Drawn0 w w' := by
  by_cases h : x < 0
  · have H := Lib.hid (show lamp_badB.f x = true by simp [lamp_badB.f, h])
    rw [H.out]
    go_enter Tryd.func83, Tryd.ntmps83
    go_wp2
    go_ret
    exact ⟨rfl, Drawn0.refl _⟩
  · by_cases h2 : 3 ≤ x
    · have H := Lib.hid (show lamp_badB.f x = true by simp [lamp_badB.f, h2])
      rw [H.out]
      go_enter Tryd.func83, Tryd.ntmps83
      go_wp2
      go_ret
      exact ⟨rfl, Drawn0.refl _⟩
    · have H := Lib.hid (show lamp_badB.f x = false by simp [lamp_badB.f, h, h2])
      rw [H.out]
      go_enter Tryd.func83, Tryd.ntmps83
      go_wp2
      go_ret
      exact ⟨rfl, Drawn0.refl _⟩
def IdxTellsL (p : Int → Bool) (xs : List Int) (w : World) (e : Ending) (w' : World) : Prop := ∃ r : Int, e = .returned (.int .i64 r) ∧ decide (0 ≤ r) = xs.any p ∧ Drawn0 w w'
theorem take_anyL (p : Int → Bool) (xs : List Int) (k : Nat) (h : k < xs.length) : (xs.take (k + 1)).any p = ((xs.take k).any p || p (rd xs k)) := by
  rw [List.take_succ_eq_append_getElem h, List.any_append]
  simp [rd, List.getD_eq_getElem?_getD, h]
theorem any_of_takeL (p : Int → Bool) (xs : List Int) (k : Nat) (h : (xs.take k).any p = true) : xs.any p = true := by
  rw [← List.take_append_drop k xs, List.any_append, h]; rfl
set_option maxHeartbeats 2000000 in
set_option maxRecDepth 100000 in
theorem indexFuncL_calls (A : Option Addr) (c : Nat) (xs : List Int) (p : Int → Bool) (w : World) (hr : Kd.C (Kd.int .i64) w A xs.length xs)
    (hp : ∀ x W, Drawn0 w W → Calls Tryd.prog 83 #[.int .i64 x] W fun e W' => e = .returned (.bool (p x)) ∧ Drawn0 W W') :
    Calls Tryd.prog 109 #[.slice A xs.length c, .func (.func 83) #[] #[]] w (IdxTellsL p xs w) := by
  have hm := Kd.C_max hr
  have HR := Lib.hid hr
  have HP := Lib.hid hp
  clear hr hp
  go_enter Tryd.func109, Tryd.ntmps109
  go_wp2
  go_loopw [8] (fun i wr => ∃ k : Nat, k ≤ xs.length ∧ i = .int .i64 k ∧ Hid ((xs.take k).any p = false) ∧ Drawn0 w wr) (fun i _ => xs.length - (intOf i).toNat)
  case atStart => exact ⟨0, Nat.zero_le _, rfl, Lib.hid (by simp), Drawn0.refl _⟩
  case round =>
    obtain ⟨k, hk, rfl, hno, hd⟩ := hrel
    by_cases hlt : k < xs.length
    · have hta := Lib.hid (take_anyL p xs k hlt)
      obtain ⟨ad, hA, hx⟩ := Kd.at_int (Kd.C_below HR.out hd.below) (k : Int) (by omega) (by omega)
      rw [Int.toNat_natCast] at hx
      subst hA
      have hc := Lib.hid (HP.out (rd xs k) wr hd)
      cases hpx : p (rd xs k) with
      | true =>
        rw [hpx] at hc
        have hfin := Lib.hid (any_of_takeL p xs (k + 1) (by rw [hta.out, hpx]; simp))
        clear hpx
        go_wp2_with (go_at_call 83; refine hc.out.mono ?_; rintro e w' ⟨rfl, ⟨nd, rfl⟩⟩)
        go_ret
        exact ⟨_, rfl, by rw [hfin.out]; simp, ⟨let ⟨m, e⟩ := hd.out; ⟨m + nd, by rw [e, World.drewN_drewN]⟩⟩⟩
      | false =>
        rw [hpx] at hc
        have hfin := Lib.hid (show (xs.take (k + 1)).any p = false by rw [hta.out, hpx, hno.out]; rfl)
        clear hpx
        go_wp2_with (go_at_call 83; refine hc.out.mono ?_; rintro e w' ⟨rfl, ⟨nd, rfl⟩⟩)
        go_roundw
        case rel => exact ⟨k + 1, by omega, by go_num, hfin, ⟨let ⟨m, e⟩ := hd.out; ⟨m + nd, by rw [e, World.drewN_drewN]⟩⟩⟩
        case measure => simp [intOf]; omega
    · obtain rfl : k = xs.length := by omega
      go_wp2
      go_ret
      exact ⟨_, rfl, by have := hno.out; rw [List.take_length] at this; rw [this]; decide, hd⟩
set_option maxHeartbeats 1000000 in
theorem containsFuncL_calls (A : Option Addr) (c : Nat) (xs : List Int) (p : Int → Bool) (w : World) (hr : Kd.C (Kd.int .i64) w A xs.length xs)
    (hp : ∀ x W, Drawn0 w W → Calls Tryd.prog 83 #[.int .i64 x] W fun e W' => e = .returned (.bool (p x)) ∧ Drawn0 W W') :
    Calls Tryd.prog 84 #[.slice A xs.length c, .func (.func 83) #[] #[]] w fun e w' => e = .returned (.bool (xs.any p)) ∧ Drawn0 w w' := by
  have hc := Lib.hid (indexFuncL_calls A c xs p w hr hp)
  clear hr hp
  go_enter Tryd.func84, Tryd.ntmps84
  go_wp2_with (go_at_call 109; refine hc.out.mono ?_; rintro e w' ⟨r, rfl, hr, ⟨nd, rfl⟩⟩; have hr' := Lib.hid hr; clear hr)
  go_ret
  exact ⟨by rw [← hr'.out]; rfl, ⟨⟨nd, rfl⟩⟩⟩
set_option maxHeartbeats 1000000 in
theorem lamp_May_drawn (A0 : Option Addr) (c0 : Nat) (l0 : List Int) (r : Bool) (w : World) (hr0 : Kd.C (Kd.int .i64) w A0 l0.length l0) (hc0 : l0.length ≤ c0) (h : lamp_May.f l0 = some r) :
    Calls Tryd.prog 49 #[.slice A0 l0.length c0] w fun e w' => e = .returned (.bool r) ∧ Drawn0 w w' := by
  have h := Option.some.inj h
  have hmx := Kd.C_max hr0
  have HC := Lib.hid (containsFuncL_calls A0 c0 l0 lamp_badB.f w hr0 (fun x W _ => lampMay1_calls x W))
  clear hr0
  unfold lamp_mayB.f at h
  by_cases h1 : 1 ≤ l0.length
  · by_cases h2 : l0.length ≤ 8
    · rw [decide_eq_true ⟨h1, h2⟩, Bool.true_and] at h
      have HH := Lib.hid h
      clear h
      go_enter Tryd.func49, Tryd.ntmps49
      go_wp2_with (go_at_call 84; refine HC.out.mono ?_; rintro e w' ⟨rfl, ⟨nd, rfl⟩⟩)
      go_ret
      exact ⟨by rw [← HH.out]; rfl, ⟨⟨_, rfl⟩⟩⟩
    · rw [decide_eq_false (show ¬ (1 ≤ l0.length ∧ l0.length ≤ 8) by omega), Bool.false_and] at h
      subst h
      go_enter Tryd.func49, Tryd.ntmps49
      go_wp2
      go_ret
      exact ⟨rfl, Drawn0.refl _⟩
  · rw [decide_eq_false (show ¬ (1 ≤ l0.length ∧ l0.length ≤ 8) by omega), Bool.false_and] at h
    subst h
    go_enter Tryd.func49, Tryd.ntmps49
    go_wp2
    go_ret
    exact ⟨rfl, Drawn0.refl _⟩
end Go.Proofs.YtpciieagafddcaaDoor.F
/- Woven by wip/weave/weave.py of this repo (own tool) out of the translation: the contracts of some functions. Lean checks it. -/
namespace Go.Proofs.YtpciieagafddcaaDoor.F
open Go.RowKit Go.Proofs.YtpciieagafddcaaDoorW.PrintWords Go.Proofs.YtpciieagafddcaaDoorW.PrintLast Go.Proofs.YtpciieagafddcaaDoorW.PrintMore
attribute [local go_sem] max2_int min2_int max_two min_two max_three min_three max_four min_four   -- for this text's walks alone
set_option linter.unusedVariables false
set_option linter.unusedSimpArgs false
-- NOT PRINTED: function 21 (trace_Check)
-- NOT PRINTED: function 23 (trace_Clear)
-- NOT PRINTED: function 15 (pelicanlaw23_awake)
set_option maxHeartbeats 8000000 in
set_option maxRecDepth 100000 in
theorem pelicanlaw14_Few.calls (A0_0 : Option Addr) (c0_0 : Nat) (l0_0 : List Int) (A0_1 : Option Addr) (c0_1 : Nat) (l0_1 : List (S87)) (a0_2 : Int) (a0_3 : Int) (a0_4 : Int) (r : Bool) (w : World) (hr0_0 : Kd.C (Kd.int .i64) w A0_0 l0_0.length l0_0) (hc0_0 : l0_0.length ≤ c0_0) (hr0_1 : Kd.C k87 w A0_1 l0_1.length l0_1) (hc0_1 : l0_1.length ≤ c0_1) (h : pelicanlaw14_Few.f l0_0 l0_1 a0_2 a0_3 a0_4 = some r) :
    Calls Tryd.prog 16 #[.agg #[.slice A0_0 l0_0.length c0_0, .slice A0_1 l0_1.length c0_1, .int .i64 a0_2, .int .i64 a0_3, .int .i64 a0_4]] w fun e w' => e = .returned (.bool r) ∧ Below w.heap.size w w' := by
  have hu25 := Tryd.underlying25
  have HR0_0 := Aside0.mk hr0_0
  have HC0_0 := Aside0.mk hc0_0
  clear hr0_0 hc0_0
  have HR0_1 := Aside0.mk hr0_1
  have HC0_1 := Aside0.mk hc0_1
  clear hr0_1 hc0_1
  have HB := Aside0.mk (Below.refl w.heap.size w)
  have H : (if (l0_0.length : Int) ≤ 10 then (some (decide ((l0_1.length : Int) ≤ 10))) else (some false)) = some r := h
  clear h
  by_cases c2 : (l0_0.length : Int) ≤ 10
  · rw [if_pos c2] at H
    have c2b0 : decide ((l0_0.length : Int) ≤ 10) = true := decide_eq_true c2
    have c2b1 : decide (l0_0.length ≤ 10) = true := decide_eq_true (by omega)
    clear c2
    obtain rfl := Option.some.inj H
    go_enter Tryd.func16, Tryd.ntmps16
    go_wp2_with (first | ((with_reducible refine gate_dst (N := 1) rfl ?_); (try (refine gate_guard (by rfl) ?_; dsimp only)); refine box_event ?hg (N := 1) ?hd (cs := #[.slice A0_0 l0_0.length c0_0, .slice A0_1 l0_1.length c0_1, .int .i64 a0_2, .int .i64 a0_3, .int .i64 a0_4]) (t := 25) ?hr ?_; (case hd => rfl); (case hg => rfl); (case hr => first | (go_simp; done) | (go_simp; rfl)); intro gb155 hg w3 hbox hb; have n0_ := Aside0.mk (below_step (by repeat (first | (with_reducible first | exact HB.out | apply below_alloc | apply pw_below_drewN | apply below_drew1) | exact HB.out)) hb); have n1_ := Aside0.mk (hbox); have n2_ := Aside0.mk ((by rw [hg]; exact (below_size (by repeat (first | (with_reducible first | exact HB.out | apply below_alloc | apply pw_below_drewN | apply below_drew1) | exact HB.out))) : w.heap.size ≤ gb155)); have n3_ := Aside0.mk ((by rw [hg]; exact (below_size (by repeat (first | (with_reducible first | exact HB.out | apply below_alloc | apply pw_below_drewN | apply below_drew1) | exact HB.out))) : w.heap.size ≤ gb155)); clear HB; have HB := n0_; have BK155 := n1_; have GW155 := n2_; have GE155 := n3_; clear n0_ n1_ n2_ n3_; clear hb hbox hg; have hcz4_0 : w3.cell? ⟨gb155, 0, none⟩ = some (.slice A0_0 l0_0.length c0_0) := (blk_cell BK155.out 0).trans rfl; have hcz4_1 : w3.cell? ⟨gb155, 1, none⟩ = some (.slice A0_1 l0_1.length c0_1) := (blk_cell BK155.out 1).trans rfl; have hcz4_2 : w3.cell? ⟨gb155, 2, none⟩ = some (.int .i64 a0_2) := (blk_cell BK155.out 2).trans rfl; have hcz4_3 : w3.cell? ⟨gb155, 3, none⟩ = some (.int .i64 a0_3) := (blk_cell BK155.out 3).trans rfl; have hcz4_4 : w3.cell? ⟨gb155, 4, none⟩ = some (.int .i64 a0_4) := (blk_cell BK155.out 4).trans rfl; have hfz4_0 := blk_frozen BK155.out 0; have hfz4_1 := blk_frozen BK155.out 1; have hfz4_2 := blk_frozen BK155.out 2; have hfz4_3 := blk_frozen BK155.out 3; have hfz4_4 := blk_frozen BK155.out 4))
    go_ret
    exact ⟨by first | rfl | (simp [errW_none, errW_some] <;> rfl) | (simp [*, errW_none, errW_some] <;> rfl), by repeat (first | (with_reducible first | exact HB.out | apply below_alloc | apply pw_below_drewN | apply below_drew1 | refine below_set ?_ GE155.out) | exact HB.out)⟩
  · rw [if_neg c2] at H
    have c2b0 : decide ((l0_0.length : Int) ≤ 10) = false := decide_eq_false c2
    have c2b1 : decide (l0_0.length ≤ 10) = false := decide_eq_false (by omega)
    clear c2
    obtain rfl := Option.some.inj H
    go_enter Tryd.func16, Tryd.ntmps16
    go_wp2_with (first | ((with_reducible refine gate_dst (N := 1) rfl ?_); (try (refine gate_guard (by rfl) ?_; dsimp only)); refine box_event ?hg (N := 1) ?hd (cs := #[.slice A0_0 l0_0.length c0_0, .slice A0_1 l0_1.length c0_1, .int .i64 a0_2, .int .i64 a0_3, .int .i64 a0_4]) (t := 25) ?hr ?_; (case hd => rfl); (case hg => rfl); (case hr => first | (go_simp; done) | (go_simp; rfl)); intro gb155 hg w5 hbox hb; have n0_ := Aside0.mk (below_step (by repeat (first | (with_reducible first | exact HB.out | apply below_alloc | apply pw_below_drewN | apply below_drew1) | exact HB.out)) hb); have n1_ := Aside0.mk (hbox); have n2_ := Aside0.mk ((by rw [hg]; exact (below_size (by repeat (first | (with_reducible first | exact HB.out | apply below_alloc | apply pw_below_drewN | apply below_drew1) | exact HB.out))) : w.heap.size ≤ gb155)); have n3_ := Aside0.mk ((by rw [hg]; exact (below_size (by repeat (first | (with_reducible first | exact HB.out | apply below_alloc | apply pw_below_drewN | apply below_drew1) | exact HB.out))) : w.heap.size ≤ gb155)); clear HB; have HB := n0_; have BK155 := n1_; have GW155 := n2_; have GE155 := n3_; clear n0_ n1_ n2_ n3_; clear hb hbox hg; have hcz6_0 : w5.cell? ⟨gb155, 0, none⟩ = some (.slice A0_0 l0_0.length c0_0) := (blk_cell BK155.out 0).trans rfl; have hcz6_1 : w5.cell? ⟨gb155, 1, none⟩ = some (.slice A0_1 l0_1.length c0_1) := (blk_cell BK155.out 1).trans rfl; have hcz6_2 : w5.cell? ⟨gb155, 2, none⟩ = some (.int .i64 a0_2) := (blk_cell BK155.out 2).trans rfl; have hcz6_3 : w5.cell? ⟨gb155, 3, none⟩ = some (.int .i64 a0_3) := (blk_cell BK155.out 3).trans rfl; have hcz6_4 : w5.cell? ⟨gb155, 4, none⟩ = some (.int .i64 a0_4) := (blk_cell BK155.out 4).trans rfl; have hfz6_0 := blk_frozen BK155.out 0; have hfz6_1 := blk_frozen BK155.out 1; have hfz6_2 := blk_frozen BK155.out 2; have hfz6_3 := blk_frozen BK155.out 3; have hfz6_4 := blk_frozen BK155.out 4))
    go_ret
    exact ⟨by first | rfl | (simp [errW_none, errW_some] <;> rfl) | (simp [*, errW_none, errW_some] <;> rfl), by repeat (first | (with_reducible first | exact HB.out | apply below_alloc | apply pw_below_drewN | apply below_drew1 | refine below_set ?_ GE155.out) | exact HB.out)⟩
end Go.Proofs.YtpciieagafddcaaDoor.F
