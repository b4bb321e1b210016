/- Woven by wip/weave/weave.py of this repo (own tool) out of the translation: the contracts of some functions. Lean checks it. -/
import Derived.Test.YtpciieagafddcaaDoorQjD
import Derived.Test.YtpciieagafddcaaDoorQjSp
import Derived.Test.YtpciieagafddcaaDoorQjF2
import Derived.Test.YtpciieagafddcaaDoorQjF3
import Derived.RangeFuncBox
import Derived.RangeFuncLeaves
import Derived.RangeFuncNested
import Derived.Shelf.Abstract
import Derived.OwnWalkIn
import Derived.TacticsInMore
import Derived.LoopNIn
import Derived.LoopIn
import Derived.BigGuardIn
import Derived.Outline
import Derived.Sort.QuietIn
import Derived.Shelf.RegionOpen
namespace Go.Proofs.YtpciieagafddcaaDoor.F
open Go.RowKit Go.Proofs.YtpciieagafddcaaDoorW.PrintWords Go.Proofs.YtpciieagafddcaaDoorW.PrintLast Go.Proofs.YtpciieagafddcaaDoorW.PrintMore
attribute [local go_sem] max2_int min2_int max_two min_two max_three min_three max_four min_four   -- for this text's walks alone
set_option linter.unusedVariables false
set_option linter.unusedSimpArgs false
-- IMPORT Derived.RangeFuncBox
-- IMPORT Derived.RangeFuncLeaves
-- IMPORT Derived.RangeFuncNested
-- IMPORT Derived.Shelf.Abstract
-- IMPORT Derived.OwnWalkIn
-- IMPORT Derived.TacticsInMore
-- IMPORT Derived.LoopNIn
-- IMPORT Derived.LoopIn
-- IMPORT Derived.BigGuardIn
-- IMPORT Derived.Outline
-- IMPORT Derived.Sort.QuietIn
-- IMPORT Derived.Shelf.RegionOpen
open Go.Shelf
attribute [local go_sem] Oper.semAt_some
set_option maxRecDepth 100000 in
set_option maxHeartbeats 4000000 in
theorem against_in (A0 : Option Addr) (c0 : Nat) (l0 : List Int) (a1 : Int) (w : World) (hr0 : Kd.C (Kd.int .i64) w A0 l0.length l0) (hc0 : l0.length ≤ c0) (hG : GlobOk w) :
    CallsIn Fence.wide 6 Tryd.prog 94 #[.slice A0 l0.length c0, .int .i64 a1] w fun e w' => e = .returned (.int .i64 (Sp.against l0 a1)) ∧ Below w.heap.size w w' := by
  have HR := Lib.hid hr0
  have HG := Lib.hid hG
  have hmx := Kd.C_max hr0
  clear hr0 hG
  refine callsIn_of_wp_marks Tryd.func94 rfl trivial ?_ rfl
  simp only [Tryd.ntmps94, List.size_toArray, List.length_cons, List.length_nil, Nat.reduceAdd, Nat.reduceSub, Array.replicate_succ, Array.replicate_zero, List.push_toArray, List.append_toArray, List.nil_append, List.cons_append]
  have bM := Boxed.new w 22 (.slice A0 l0.length c0)
  have hB0 : Below w.heap.size w (w.alloc (.cells #[.slice A0 l0.length c0] 22)) := (Below.refl _ w).alloc (Nat.le_refl _) _
  cases hmay : Sp.may l0 with
  | false =>
    have hm := Lib.hid (group_May.calls A0 c0 l0 false _ (Kd.C_below HR.out hB0) hc0 (HG.out.below hB0) (by simp [group_May.f, hmay]))
    have hfin := Lib.hid (show Sp.against l0 a1 = -1 by simp [Sp.against, hmay])
    clear hmay
    gi_wp2_with (first | (refine ⟨trivial, (callsIn_wide.2 hm.out).mono ?_⟩; rintro e w' ⟨rfl, hB1⟩) | (refine ⟨trivial, ?_⟩))
    exact ⟨.int .i64 (-1), by simp [results, Tryd.f94, go_sem], by rw [hfin.out], hB0.trans (hB1.mono (by simp))⟩
  | true =>
    have hm := Lib.hid (group_May.calls A0 c0 l0 true _ (Kd.C_below HR.out hB0) hc0 (HG.out.below hB0) (by simp [group_May.f, hmay]))
    obtain ⟨hm1, hm8⟩ := Sp.may_len hmay
    have hin := Lib.hid (in_spec a1 l0.length (by omega) (by omega))
    cases hset : Sp.inB a1 (l0.length : Int) with
    | false =>
      rw [hset] at hin
      have hfin := Lib.hid (show Sp.against l0 a1 = -1 by simp [Sp.against, hset])
      clear hmay hset
      gi_wp2_with (first | (refine ⟨trivial, (callsIn_wide.2 hm.out).mono ?_⟩; rintro e w1 ⟨rfl, hB1⟩; have bM1 := Boxed.belowAll bM hB1; have cM := bM1.cell; have hB2 := hB0.trans (hB1.mono (by simp)); clear hB0 hB1 bM hm) | (refine ⟨trivial, (callsIn_wide.2 (group_in.calls a1 l0.length false _ hin.out)).mono ?_⟩; rintro e w' ⟨rfl, ⟨nd, rfl⟩⟩))
      exact ⟨.int .i64 (-1), by simp [results, Tryd.f94, go_sem], by rw [hfin.out], pw_below_drewN hB2 _⟩
    | true =>
      rw [hset] at hin
      have hfin := Lib.hid (show Sp.against l0 a1 = Sp.orAll l0 (Sp.groupsOf a1) by simp [Sp.against, hset, hmay])
      have hset' := Lib.hid hset
      clear hmay hset
      gi_wp2_with (first | (refine ⟨trivial, (callsIn_wide.2 hm.out).mono ?_⟩; rintro e w1 ⟨rfl, hB1⟩; have bM1 := Boxed.belowAll bM hB1; have cM := bM1.cell; have hB2 := hB0.trans (hB1.mono (by simp)); clear hB0 hB1 bM hm) | (refine ⟨trivial, (callsIn_wide.2 (group_in.calls a1 l0.length true _ hin.out)).mono ?_⟩; rintro e w2 ⟨rfl, hd⟩; have bM2 := Boxed.belowAll bM1 hd.below; have hB3 := hB2.trans (hd.below.mono hB2.size); clear cM bM1 hB2 hd hin) | (refine ⟨trivial, ?_⟩; gi_at_call 93; refine (groups_in _ _ _).mono ?_; rintro e w' ⟨rfl, rfl⟩))
      have hsz := hB3.size
      have bO := (Boxed.new w2 3 (.int .i64 0)).alloc (.cells #[.int .i64 a1] 3)
      have bX := Boxed.new (w2.alloc (.cells #[.int .i64 0] 3)) 3 (.int .i64 a1)
      rw [World.size_alloc] at bX
      have bM3 := (bM2.alloc (.cells #[.int .i64 0] 3)).alloc (.cells #[.int .i64 a1] 3)
      have hB4 : Below w.heap.size w ((w2.alloc (.cells #[.int .i64 0] 3)).alloc (.cells #[.int .i64 a1] 3)) := (hB3.alloc hsz _).alloc (by simp; omega) _
      have hlt2 := bM2.lt
      refine wpIn_rangeFunc_ownF rfl (by decide) (gf := 116) (lb := #[.pointer (some ⟨w2.heap.size + 1, 0, none⟩)]) rfl trivial (enters_of Tryd.func116 (by kernel_rfl) rfl)
        (groups_stops (6 - 1) (by decide) (w2.heap.size + 1) w.heap.size a1 _ (by simp) HG.out.lt (by simp; omega) bX.cell (HG.out.below hB4)) belowK_t (belowK_b (by simp; omega)) (Below.refl _ _) (fun _ => rfl)
        (fun pre W' => (Boxed W' w.heap.size 22 (.slice A0 l0.length c0) ∧ Boxed W' w2.heap.size 3 (.int .i64 (Sp.orAll l0 (pre.map Subtype.val)))) ∧ Below w.heap.size w W')
        (fun _ _ _ => False)
        (OwnFrom.and (OwnFrom.and (Own.from (boxed_own _ _ _) _) (Own.from (boxed_own _ _ (fun pre : List (Gr a1) => Value.int .i64 (Sp.orAll l0 (pre.map Subtype.val)))) _)) (ownFrom_below (Nat.le_refl _) (by simp; omega)))
        (fun _ _ _ _ _ hs _ _ => hs)
        ⟨⟨bM3, bO⟩, hB4⟩
        (fun y => { tmps := #[.slice A0 l0.length c0, .int .i64 a1, .pointer (some ⟨w.heap.size, 0, none⟩), undef, .int .i64 0, .pointer (some ⟨w2.heap.size, 0, none⟩), .int .i64 y.1, .slice A0 l0.length c0, .bool true, .bool false, .bool false, .int .i64 a1, .slice A0 l0.length c0, .int .i64 l0.length, .bool true, .bool false, .bool false, .int .i64 a1, .func (.func 116) #[] #[.pointer (some ⟨w2.heap.size + 1, 0, none⟩)], .int .i64 y.1, undef, undef, undef, undef, undef, undef, undef], defers := [] }) ?assign ?body ?done ?stop
      case assign =>
        intro l y W' K hK
        gi_wp2
        exact hK
      case body =>
        rintro l pre y W' ⟨⟨bM5, bO5⟩, hB5⟩ _
        obtain ⟨hy0, hy1⟩ := Sp.groupsOf_lt hset'.out y.2
        have hfold := Lib.hid (Sp.orAll_snoc l0 (pre.map Subtype.val) y.1)
        obtain ⟨y, hy⟩ := y
        dsimp only at hy0 hy1
        obtain ⟨ad', hA', hxy⟩ := Kd.at_int (Kd.C_below HR.out hB5) y hy0 hy1
        subst hA'
        have cM := bM5.cell
        have cO := bO5.cell
        have fO := bO5.frozen
        have hmo : Tryd.prog.follows Departure.mixedOrders = true := by kernel_rfl
        gi_wp2
        gi_region_with_o (fail)
        all_goals gi_wp2
        all_goals
          have hnew := Boxed.set (.int .i64 (bits .or .i64 (Sp.orAll l0 (pre.map Subtype.val)) (rd l0 y))) bO5
          have hoth := Boxed.other bM5 (show w.heap.size ≠ w2.heap.size by omega) (.int .i64 (bits .or .i64 (Sp.orAll l0 (pre.map Subtype.val)) (rd l0 y)))
          have hval : Sp.orAll l0 ((pre ++ [(⟨y, hy⟩ : Gr a1)]).map Subtype.val) = bits .or .i64 (Sp.orAll l0 (pre.map Subtype.val)) (rd l0 y) := by rw [List.map_append]; exact hfold.out
          have hun : pre.unattach = pre.map Subtype.val := rfl
          refine ⟨(KeepsOthers.setCell _ _ _).trans (KeepsOthers.drew _), ((Below.refl _ W').setCell (p := ⟨w2.heap.size, 0, none⟩) hsz _).drew, ⟨hoth, ?_⟩, (hB5.setCell (p := ⟨w2.heap.size, 0, none⟩) hsz _).drew⟩
          rw [hval]
          exact hnew
      case done =>
        rintro D ys W' hD hys ⟨⟨bM5, bO5⟩, hB5⟩ hK
        have cO := bO5.cell
        have hfin2 := Lib.hid (show Sp.against l0 a1 = Sp.orAll l0 (ys.map Subtype.val) by rw [hfin.out, hys])
        have hw2 : w2.heap.size + 2 ≤ D := by simpa using hD
        clear hys hD
        gi_wp2
        refine ⟨by simp, .inl ⟨_, _, rfl, run_takeDeferred hK, ?_⟩⟩
        exact ⟨_, results_tmp rfl _ _ _, by rw [hfin2.out]; rfl, hB5.trans ((Below.refl _ W').grown (grownBy_putObj' W' D _) hB5.size (fun k e => by cases e; omega))⟩
      case stop =>
        rintro D c pre W _ _ h _
        exact h.elim
theorem group_Against.calls (A0 : Option Addr) (c0 : Nat) (l0 : List Int) (a1 : Int) (r : Int) (w : World) (hr0 : Kd.C (Kd.int .i64) w A0 l0.length l0) (hc0 : l0.length ≤ c0) (hG : GlobOk w) (h : group_Against.f l0 a1 = some r) :
    Calls Tryd.prog 94 #[.slice A0 l0.length c0, .int .i64 a1] w fun e w' => e = .returned (.int .i64 r) ∧ Below w.heap.size w w' := by
  obtain rfl := Option.some.inj h
  exact callsIn_wide.1 (against_in A0 c0 l0 a1 w hr0 hc0 hG)
end Go.Proofs.YtpciieagafddcaaDoor.F
