/- Woven by wip/weave/weave.py of this repo (own tool) out of the translation: the contracts of some functions. Lean checks it. -/
import Derived.Test.YtechgjbhgeddjaaDoorQsD
import Derived.Test.YtechgjbhgeddjaaDoorQsSp
import Derived.Test.YtechgjbhgeddjaaDoorQsF8
import Derived.RangeFuncBox
import Derived.RangeFuncLeaves
import Derived.RangeFuncNested
import Derived.Shelf.Abstract
import Derived.OwnWalkIn
import Derived.TacticsInMore
import Derived.LoopNIn
import Derived.LoopIn
import Derived.Maps.AppendAt
namespace Go.Proofs.YtechgjbhgeddjaaDoor.F
open Go.RowKit Go.Proofs.YtechgjbhgeddjaaDoorW.PrintWords Go.Proofs.YtechgjbhgeddjaaDoorW.PrintLast Go.Proofs.YtechgjbhgeddjaaDoorW.PrintMore
attribute [local go_sem] max2_int min2_int max_two min_two max_three min_three max_four min_four   -- for this text's walks alone
set_option linter.unusedVariables false
set_option linter.unusedSimpArgs false
-- IMPORT Derived.RangeFuncBox
-- IMPORT Derived.RangeFuncLeaves
-- IMPORT Derived.RangeFuncNested
-- IMPORT Derived.Shelf.Abstract
-- IMPORT Derived.OwnWalkIn
-- IMPORT Derived.TacticsInMore
-- IMPORT Derived.LoopNIn
-- IMPORT Derived.LoopIn
-- IMPORT Derived.Maps.AppendAt
open Go.Shelf
attribute [local go_sem] Oper.semAt_some
theorem infoInt : (Tryd.prog.info? 3).map (fun i => (i.zero, i.size, i.bytes)) = some (some (.int .i64 0), 1, 8) := by kernel_rfl
set_option maxRecDepth 100000 in
set_option maxHeartbeats 4000000 in
/-- slices.AppendSeq(nil, group.groups(s)). -/
theorem appendSeq_in (B : Nat) (s : Int) (w : World) (hB : B < w.heap.size) (hc : w.cell? ⟨B, 0, none⟩ = some (.int .i64 s)) (hG : GlobOk w) :
    CallsIn Fence.wide 6 Tryd.prog 87 #[.slice none 0 0, .func (.func 88) #[] #[.pointer (some ⟨B, 0, none⟩)]] w fun e W' => ∃ v, e = .returned v ∧ W'.ownsRow w.heap.size 3 1 v (Sp.groupsOf s).length ((Sp.groupsOf s).map (Value.int .i64)) ∧ Below w.heap.size w W' := by
  obtain ⟨i0, hi, hz0, hz1, hz2⟩ := info_parts infoInt
  have HG := Lib.hid hG
  have hglt := hG.lt
  have hlen8 : (Sp.groupsOf s).length ≤ 8 := Sp.groupsOf_len s
  clear hG
  refine callsIn_of_wp_marks Tryd.func87 rfl trivial ?_ rfl
  simp only [Tryd.ntmps87, List.size_toArray, List.length_cons, List.length_nil, Nat.reduceAdd, Nat.reduceSub, Array.replicate_succ, Array.replicate_zero, List.push_toArray, List.append_toArray, List.nil_append, List.cons_append]
  gi_wp2
  have bO := Boxed.new w 32 (.slice none 0 0)
  have hB0 : Below w.heap.size w (w.alloc (.cells #[.slice none 0 0] 32)) := (Below.refl _ w).alloc (Nat.le_refl _) _
  refine wpIn_rangeFunc_ownG rfl (by decide) (gf := 88) (lb := #[.pointer (some ⟨B, 0, none⟩)]) rfl trivial (enters_of Tryd.func88 (by kernel_rfl) rfl)
    (groups_stops (6 - 1) (by decide) B w.heap.size s _ (by simp; omega) hglt (by simp) ((hB0.cell (p := ⟨B, 0, none⟩) hB).trans hc) (HG.out.below hB0)) belowK_t (belowK_b (by simp)) (Below.refl _ _) (fun _ => rfl)
    (fun pre W => (∃ v, Boxed W w.heap.size 32 v ∧ W.ownsRow w.heap.size 3 1 v pre.length (pre.map fun y : Gr s => Value.int .i64 y.1) ∧ (v = .slice none 0 0 ↔ pre = [])) ∧ Below w.heap.size w W)
    (fun _ _ _ => False)
    (OwnFrom.and (Own.from (holdsRow_own w.heap.size w.heap.size 32 3 1 (fun pre : List (Gr s) => pre.length) (fun pre => pre.map fun y : Gr s => Value.int .i64 y.1) (fun pre v => v = .slice none 0 0 ↔ pre = [])) _) (ownFrom_below (Nat.le_refl _) (by simp)))
    (fun _ _ _ _ _ hs _ _ => hs)
    ⟨⟨_, bO, World.ownsRow_nil _ _ _ _, by simp⟩, hB0⟩
    (fun y => { tmps := #[.slice none 0 0, .func (.func 88) #[] #[.pointer (some ⟨B, 0, none⟩)], .pointer (some ⟨w.heap.size, 0, none⟩), undef, .slice none 0 0, .int .i64 y.1, .func (.func 88) #[] #[.pointer (some ⟨B, 0, none⟩)], .int .i64 y.1, undef, undef, undef, undef, undef], defers := [] }) ?assign ?body ?done ?stop
  case assign =>
    intro l y W K hK
    gi_wp2
    exact hK
  case body =>
    rintro l pre y W ⟨⟨v, hv, hrow, hnil⟩, hBW⟩ hlt
    have hc := hv.cell
    gi_wp2_with (gi_at_builtin; refine wpListIn_append_own _ rfl _ _ 32 rfl w.heap.size 3 i0 (.int .i64 0) 1 8 Tryd.underlying32 hi hz0 hz1 hz2 rfl (by decide) _ _ _ rfl (hrow.alloc _) ⟨W.heap.size, 0, none⟩ 1 1 [.int .i64 y.1] rfl rfl (cell_one_new _ _ _) (by simp [Value.oneCell']) (by unfold maxLen; omega) (by omega) (by have := hBW.size; simp; omega) ?_; intro v' w1 hown' hgrow _; obtain ⟨g', cap', rfl⟩ := ownsRow_succ hown'; obtain ⟨hv1, hv2, hr2, hk2, hb2⟩ := hv.appended (by decide) hrow hBW.size (Nat.le_refl _) hown' hgrow; have hc1 := hv1.cell; have hf1 := hv1.frozen)
    exact ⟨hk2.from _, hb2, ⟨_, hv2, by simpa using hr2, by simp⟩, hBW.trans hb2⟩
  case done =>
    rintro D ys W hD hys ⟨⟨v, hv, hrow, hnil⟩, hBW⟩ hK
    have hc := hv.cell
    have hD' : w.heap.size + 1 ≤ D := by simpa using hD
    have hys2 := Lib.hid (show ys.map (fun y : Gr s => Value.int .i64 y.1) = (Sp.groupsOf s).map (Value.int .i64) by have h := congrArg (List.map (Value.int .i64)) hys; rwa [List.map_map] at h)
    have hys3 := Lib.hid (show ys.length = (Sp.groupsOf s).length by rw [← hys, List.length_map])
    clear hys hD
    gi_wp2
    refine ⟨by simp, .inl ⟨_, _, rfl, run_takeDeferred hK, ?_⟩⟩
    exact ⟨_, results_tmp rfl _ _ _, v, rfl, by rw [← hys2.out, ← hys3.out]; exact ownsRow_putObj hrow _ hK rfl, hBW.trans ((Below.refl _ W).grown (grownBy_putObj' W D _) hBW.size (fun k e => by cases e; omega))⟩
  case stop =>
    rintro D c pre W _ _ h _
    exact h.elim
set_option maxHeartbeats 1000000 in
theorem collect_calls (B : Nat) (s : Int) (w : World) (hB : B < w.heap.size) (hc : w.cell? ⟨B, 0, none⟩ = some (.int .i64 s)) (hG : GlobOk w) :
    Calls Tryd.prog 75 #[.func (.func 88) #[] #[.pointer (some ⟨B, 0, none⟩)]] w fun e W' => ∃ v, e = .returned v ∧ W'.ownsRow w.heap.size 3 1 v (Sp.groupsOf s).length ((Sp.groupsOf s).map (Value.int .i64)) ∧ Below w.heap.size w W' := by
  have h := Lib.hid (callsIn_wide.1 (appendSeq_in B s w hB hc hG))
  clear hc hG
  go_enter Tryd.func75, Tryd.ntmps75
  go_wp2_with (go_at_call 87; refine h.out.mono ?_; rintro e w' ⟨v, rfl, hv, hb⟩)
  go_ret
  exact ⟨_, rfl, hv, hb⟩
theorem ownsRow_R {W : World} {base : Nat} {v : Value} {xs : List Int} (h : W.ownsRow base 3 1 v xs.length (xs.map (Value.int .i64))) : Kd.R (Kd.int .i64) 3 W base (fun _ => True) v xs := Kd.R_of_own h (fun _ _ => trivial)
set_option maxHeartbeats 1000000 in
/-- **group.List tells just a set's groups, in rising order.** -/
theorem group_List.calls (a0 : Int) (r : List Int) (w : World) (hG : GlobOk w) (h : group_List.f a0 = some r) :
    Calls Tryd.prog 58 #[.int .i64 a0] w fun e w' => ∃ v0_ : Value, e = .returned v0_ ∧ Kd.R (Kd.int .i64) 3 w' w.heap.size (fun _ => True) v0_ r ∧ Below w.heap.size w w' := by
  obtain rfl := Option.some.inj h
  have hcol := Lib.hid (collect_calls w.heap.size a0 (w.alloc (.cells #[.int .i64 a0] 3)) (by simp) (by simp) (hG.below ((Below.refl _ w).alloc (Nat.le_refl _) _)))
  clear hG
  go_enter Tryd.func58, Tryd.ntmps58
  go_wp2_with (first | (go_at_call 76; refine (callsIn_wide.1 (groups_in 1 a0 _)).mono ?_; rintro e w' ⟨rfl, rfl⟩) | (go_at_call 75; refine hcol.out.mono ?_; rintro e w' ⟨v, rfl, hv, hb⟩))
  go_ret
  exact ⟨_, rfl, Kd.R_lower (ownsRow_R hv) (by simp), ((Below.refl _ w).alloc (Nat.le_refl _) _).trans (hb.mono (by simp))⟩
end Go.Proofs.YtechgjbhgeddjaaDoor.F
