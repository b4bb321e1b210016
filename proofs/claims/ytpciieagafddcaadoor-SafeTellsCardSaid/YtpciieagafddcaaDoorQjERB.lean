/- Fresh rows, in the engine's words (own text). -/
import Derived.Test.YtpciieagafddcaaDoorQjETY
import Derived.Test.YtpciieagafddcaaDoorQjPG
import Derived.Test.YtpciieagafddcaaDoorQjD
import Derived.Test.YtpciieagafddcaaDoorQjSp
import Derived.Test.YtpciieagafddcaaDoorQjF2
import Derived.RangeFuncBox
import Derived.RangeFuncLeaves
import Derived.RangeFuncNested
import Derived.Shelf.Abstract
import Derived.OwnWalkIn
import Derived.TacticsInMore
import Derived.LoopNIn
import Derived.LoopIn
import Derived.Maps.AppendAt
namespace Go.Proofs.YtpciieagafddcaaDoor.E
open Go Go.RowKit Go.Proofs Go.Proofs.YtpciieagafddcaaDoorW.PrintWords Go.Proofs.YtpciieagafddcaaDoorW.PrintLast Go.Proofs.YtpciieagafddcaaDoorW.PrintMore Go.Proofs.YtpciieagafddcaaDoor.F
set_option linter.unusedVariables false
set_option linter.unusedSimpArgs false
section
variable {w : World} {I : Nat → Prop}
theorem S_of_reads {α : Type} {R : α → List Value → Prop} {sz : Nat} {xs : List α} {el : Nat → Nat → CV} {A : Option Addr} {c : Nat} (hI : ∀ (a : Addr), A = some a → I a.block)
    (hel : ∀ i x, xs[i]? = some x → ∀ us : List Value, R x us → ∀ j u, us[j]? = some u → (el i j).S w I u ∧ u.oneCell' = true)
    (hc : xs.length ≤ c) (h : ReadsRow R sz w A xs.length xs) : (CV.sl xs.length sz el).S w I (.slice A xs.length c) := by
  obtain ⟨h1, h2, h3⟩ := h
  refine ⟨A, c, rfl, hc, h2, fun i j hi hj => ?_⟩
  obtain ⟨a, rfl, h4⟩ := h3 (by omega)
  obtain ⟨us, h5, h6, h7⟩ := h4 i _ (List.getElem?_eq_getElem hi)
  have hu := List.getElem?_eq_getElem (show j < us.length by rw [h5]; exact hj)
  have := hel i _ (List.getElem?_eq_getElem hi) us h6 j _ hu
  exact ⟨a, _, rfl, hI a rfl, h7 j _ hu, this.1, this.2⟩
theorem R_ints {e base : Nat} {ok : Nat → Prop} {v : Value} {xs : List Int} (h : (Kd.int .i64).R e w base ok v xs) (hI : ∀ k, base ≤ k → k < w.heap.size → I k) : (cInts xs).S w I v ∧ v.oneCell' = true := by
  obtain ⟨h0, hrow⟩ := h
  obtain ⟨A, c, rfl, hc, hr⟩ := OwnRow.reads hrow
  obtain ⟨inner, ho, -⟩ := hrow
  refine ⟨S_of_reads (fun a ha => ?_) (fun i x hx us hK j u hu => ?_) hc hr, rfl⟩
  · subst ha
    exact hI _ (own_base ho a.block rfl) (own_lt ho a.block rfl)
  · have e : us = [.int .i64 x] := hK
    subst e
    rw [getD_some hx]
    match j, hu with
    | 0, hu => cases hu; exact ⟨rfl, rfl⟩
end
end Go.Proofs.YtpciieagafddcaaDoor.E
/- Rows of lamps that are the same, walked by the engine (own text). -/
namespace Go.Proofs.YtpciieagafddcaaDoor.E
open Go Go.RowKit Go.Proofs Go.Proofs.YtpciieagafddcaaDoorW.PrintWords Go.Proofs.YtpciieagafddcaaDoorW.PrintLast Go.Proofs.YtpciieagafddcaaDoorW.PrintMore Go.Proofs.YtpciieagafddcaaDoor.F
set_option linter.unusedVariables false
set_option linter.unusedSimpArgs false
set_option maxRecDepth 100000
set_option maxHeartbeats 8000000
attribute [local irreducible] acode callR
namespace Rw
theorem wr64 {x : Int} (h0 : -9223372036854775808 ≤ x) (h1 : x ≤ 9223372036854775807) : IntKind.i64.wrap x = x := (i64_w x).trans (PG.wr h0 h1)
theorem fI_eq {a b : Int} (h : a = b) : some (fI a) = some (fI b) := by rw [h]
def fRows (x : List (List Int)) : FV := .t (.one (cRows x))
def SpRows : Spec := .pure fun a r => ∃ x : List (List Int), (x.length ≤ 1000 ∧ ∀ i, (x.getD i []).length ≤ 1000) ∧ a = [fRows x, fRows x] ∧ r = vB true
theorem rows_ok : SpecOk Tryd.prog 37 SpRows := by
  refine spec_of_code TYok ΓOk.nil mixed Tryd.func37 rfl ?_
  rintro args pre r post ⟨⟨x, ⟨hx, hy⟩, rfl, rfl⟩, rfl, rfl⟩
  refine ⟨rfl, ?_⟩
  repeat' (first | refine st_v rfl rfl rfl rfl (fun _ => rfl) rfl (fun _ => rfl) ?_ | refine st_skip rfl rfl rfl ?_ | refine st_b rfl rfl rfl rfl (fun _ => rfl) rfl (fun h1 => ?_) (fun h1 => ?_) | refine st_n rfl rfl rfl rfl (fun _ => rfl) rfl (fun _ => rfl) ?_ | refine st_s rfl rfl rfl rfl (fun _ => rfl) rfl (fun _ => rfl) ?_ | refine c_seq ?_ | refine c_region ?_ | refine c_plain rfl ?_ | refine c_drawn rfl (by kernel_rfl) ?_ | refine st_nil ?_ | refine c_norm ?_ | refine c_cret ?_ | refine c_ret ?_ | refine c_true rfl ?_ | refine c_false rfl ?_ | refine c_skip ?_ | refine c_block ?_ | refine c_bnorm ?_ | refine c_bret ?_ | refine c_bexit rfl ?_ | refine c_bpass rfl ?_ | refine c_exit ?_ | refine c_cexit ?_ | refine c_lret ?_ | refine c_lexit ?_ | refine c_scope ?_ | refine c_label ?_ | refine c_snorm ?_ | refine c_sret ?_ | refine c_sexit ?_ | fail)
  · exact absurd (by assumption : ((x.length : Int) != (x.length : Int)) = true) (by simp)
  refine c_loop (fun i : Nat => i ≤ x.length) (fun i => [(5, fI (i : Int)), (0, fRows x), (1, fRows x)]) (fun _ => []) (fun i => x.length - i) [] 0 (Nat.zero_le _) rfl ⟨rfl, rfl, rfl, rfl, rfl, rfl, trivial⟩ trivial rfl (fun i hi => ?_)
  repeat' (first | refine st_v rfl rfl rfl rfl (fun _ => rfl) rfl (fun _ => rfl) ?_ | refine st_skip rfl rfl rfl ?_ | refine st_b rfl rfl rfl rfl (fun _ => rfl) rfl (fun h1 => ?_) (fun h1 => ?_) | refine st_n rfl rfl rfl rfl (fun _ => rfl) rfl (fun _ => rfl) ?_ | refine st_s rfl rfl rfl rfl (fun _ => rfl) rfl (fun _ => rfl) ?_ | refine c_seq ?_ | refine c_region ?_ | refine c_plain rfl ?_ | refine c_drawn rfl (by kernel_rfl) ?_ | refine st_nil ?_ | refine c_norm ?_ | refine c_cret ?_ | refine c_ret ?_ | refine c_true rfl ?_ | refine c_false rfl ?_ | refine c_skip ?_ | refine c_block ?_ | refine c_bnorm ?_ | refine c_bret ?_ | refine c_bexit rfl ?_ | refine c_bpass rfl ?_ | refine c_exit ?_ | refine c_cexit ?_ | refine c_lret ?_ | refine c_lexit ?_ | refine c_scope ?_ | refine c_label ?_ | refine c_snorm ?_ | refine c_sret ?_ | refine c_sexit ?_ | refine st_pv rfl rfl rfl rfl (fun _ => rfl) (by clear hy; simp only [decide_eq_true_eq, decide_eq_false_iff_not, ge_iff_le, Int.not_lt, Int.not_le, Int.toNat_natCast] at *; omega) rfl (fun _ => rfl) ?_ | fail)
  all_goals try exact ⟨rfl, rfl, rfl, trivial⟩
  · have h2 : (((x.getD (i : Int).toNat []).length : Int) != ((x.getD (i : Int).toNat []).length : Int)) = true := by assumption
    exact absurd h2 (by simp)
  have hi' : i < x.length := by simp only [decide_eq_true_eq] at *; omega
  have hy' := hy i
  clear hy
  refine c_loop (fun g : Nat => g ≤ (x.getD i []).length) (fun g => [(6, fI (g : Int)), (5, fI (i : Int)), (0, fRows x), (1, fRows x)]) (fun _ => []) (fun g => (x.getD i []).length - g) [] 0 (Nat.zero_le _) rfl ⟨rfl, rfl, rfl, rfl, rfl, rfl, rfl, rfl, trivial⟩ trivial rfl (fun g hg => ?_)
  repeat' (first | refine st_v rfl rfl rfl rfl (fun _ => rfl) rfl (fun _ => rfl) ?_ | refine st_skip rfl rfl rfl ?_ | refine st_b rfl rfl rfl rfl (fun _ => rfl) rfl (fun h1 => ?_) (fun h1 => ?_) | refine st_n rfl rfl rfl rfl (fun _ => rfl) rfl (fun _ => rfl) ?_ | refine st_s rfl rfl rfl rfl (fun _ => rfl) rfl (fun _ => rfl) ?_ | refine c_seq ?_ | refine c_region ?_ | refine c_plain rfl ?_ | refine c_drawn rfl (by kernel_rfl) ?_ | refine st_nil ?_ | refine c_norm ?_ | refine c_cret ?_ | refine c_ret ?_ | refine c_true rfl ?_ | refine c_false rfl ?_ | refine c_skip ?_ | refine c_block ?_ | refine c_bnorm ?_ | refine c_bret ?_ | refine c_bexit rfl ?_ | refine c_bpass rfl ?_ | refine c_exit ?_ | refine c_cexit ?_ | refine c_lret ?_ | refine c_lexit ?_ | refine c_scope ?_ | refine c_label ?_ | refine c_snorm ?_ | refine c_sret ?_ | refine c_sexit ?_ | refine st_pv rfl rfl rfl rfl (fun _ => rfl) (by simp only [decide_eq_true_eq, decide_eq_false_iff_not, ge_iff_le, Int.not_lt, Int.not_le, Int.toNat_natCast] at *; omega) rfl (fun _ => rfl) ?_ | fail)
  · have h2 : (((x.getD (i : Int).toNat []).getD (g : Int).toNat 0) != ((x.getD (i : Int).toNat []).getD (g : Int).toNat 0)) = true := by assumption
    exact absurd h2 (by simp)
  · have hg' : g < (x.getD i []).length := by simp only [decide_eq_true_eq, decide_eq_false_iff_not, Int.toNat_natCast] at *; omega
    exact c_lnorm [] (g + 1) hg' (by show _ - (g + 1) < _ - g; omega) rfl ⟨fI_eq ((wr64 (by omega) (by omega)).trans (by omega : (g : Int) + 1 = ((g + 1 : Nat) : Int))), rfl, rfl, rfl, rfl, rfl, rfl, rfl, trivial⟩ trivial rfl
  · exact c_lnorm [] (i + 1) hi' (by show _ - (i + 1) < _ - i; omega) rfl ⟨fI_eq ((wr64 (by omega) (by omega)).trans (by omega : (i : Int) + 1 = ((i + 1 : Nat) : Int))), rfl, rfl, rfl, rfl, rfl, trivial⟩ trivial rfl
theorem S_el {w : World} {I : Nat → Prop} {n sz : Nat} {el el' : Nat → Nat → CV} {y : Value} (h : (CV.sl n sz el).S w I y) (he : ∀ i j, i < n → j < sz → el i j = el' i j) : (CV.sl n sz el').S w I y := by
  obtain ⟨A, c, rfl, h1, h2, h3⟩ := h
  refine ⟨A, c, rfl, h1, h2, fun i j hi hj => ?_⟩
  obtain ⟨a, u, h4, h5, h6, h7, h8⟩ := h3 i j hi hj
  exact ⟨a, u, h4, h5, h6, by rw [← he i j hi hj]; exact h7, h8⟩
theorem SpecOk.pre {P : Program} {f : Nat} {G G' : List FV → FV → Prop} (h : SpecOk P f (.pure G)) (hw : ∀ a r, G' a r → ∃ b, G b r ∧ ∀ (c : Cx) ys, all2 (FV.R c) a ys → all2 (FV.R c) b ys) : SpecOk P f (.pure G') := by
  rintro args pre r post ⟨hG, rfl, rfl⟩ c ys hgl hy hI hZ hpre hdj
  obtain ⟨b, h1, h2⟩ := hw _ _ hG
  exact h b [] r [] ⟨h1, rfl, rfl⟩ c ys hgl (h2 c ys hy) hI hZ hpre hdj
def slF (n : Nat) (el : Nat → Nat → CV) : FV := .t (.one (.sl n 1 el))
end Rw
end Go.Proofs.YtpciieagafddcaaDoor.E
/- Woven by wip/weave/weave.py of this repo (own tool) out of the translation: the contracts of some functions. Lean checks it. -/
namespace Go.Proofs.YtpciieagafddcaaDoor.F
open Go.RowKit Go.Proofs.YtpciieagafddcaaDoorW.PrintWords Go.Proofs.YtpciieagafddcaaDoorW.PrintLast Go.Proofs.YtpciieagafddcaaDoorW.PrintMore
attribute [local go_sem] max2_int min2_int max_two min_two max_three min_three max_four min_four   -- for this text's walks alone
set_option linter.unusedVariables false
set_option linter.unusedSimpArgs false
-- IMPORT Derived.RangeFuncBox
-- IMPORT Derived.RangeFuncLeaves
-- IMPORT Derived.RangeFuncNested
-- IMPORT Derived.Shelf.Abstract
-- IMPORT Derived.OwnWalkIn
-- IMPORT Derived.TacticsInMore
-- IMPORT Derived.LoopNIn
-- IMPORT Derived.LoopIn
-- IMPORT Derived.Maps.AppendAt
open Go.Shelf
attribute [local go_sem] Oper.semAt_some
theorem infoInt : (Tryd.prog.info? 3).map (fun i => (i.zero, i.size, i.bytes)) = some (some (.int .i64 0), 1, 8) := by kernel_rfl
set_option maxRecDepth 100000 in
set_option maxHeartbeats 4000000 in
theorem appendSeq_in (B : Nat) (s : Int) (w : World) (hB : B < w.heap.size) (hc : w.cell? ⟨B, 0, none⟩ = some (.int .i64 s)) (hG : GlobOk w) :
    CallsIn Fence.wide 6 Tryd.prog 125 #[.slice none 0 0, .func (.func 116) #[] #[.pointer (some ⟨B, 0, none⟩)]] w fun e W' => ∃ v, e = .returned v ∧ W'.ownsRow w.heap.size 3 1 v (Sp.groupsOf s).length ((Sp.groupsOf s).map (Value.int .i64)) ∧ Below w.heap.size w W' := by
  obtain ⟨i0, hi, hz0, hz1, hz2⟩ := info_parts infoInt
  have HG := Lib.hid hG
  have hglt := hG.lt
  have hlen8 : (Sp.groupsOf s).length ≤ 8 := Sp.groupsOf_len s
  clear hG
  refine callsIn_of_wp_marks Tryd.func125 rfl trivial ?_ rfl
  simp only [Tryd.ntmps125, List.size_toArray, List.length_cons, List.length_nil, Nat.reduceAdd, Nat.reduceSub, Array.replicate_succ, Array.replicate_zero, List.push_toArray, List.append_toArray, List.nil_append, List.cons_append]
  gi_wp2
  have bO := Boxed.new w 22 (.slice none 0 0)
  have hB0 : Below w.heap.size w (w.alloc (.cells #[.slice none 0 0] 22)) := (Below.refl _ w).alloc (Nat.le_refl _) _
  refine wpIn_rangeFunc_ownG rfl (by decide) (gf := 116) (lb := #[.pointer (some ⟨B, 0, none⟩)]) rfl trivial (enters_of Tryd.func116 (by kernel_rfl) rfl)
    (groups_stops (6 - 1) (by decide) B w.heap.size s _ (by simp; omega) hglt (by simp) ((hB0.cell (p := ⟨B, 0, none⟩) hB).trans hc) (HG.out.below hB0)) belowK_t (belowK_b (by simp)) (Below.refl _ _) (fun _ => rfl)
    (fun pre W => (∃ v, Boxed W w.heap.size 22 v ∧ W.ownsRow w.heap.size 3 1 v pre.length (pre.map fun y : Gr s => Value.int .i64 y.1) ∧ (v = .slice none 0 0 ↔ pre = [])) ∧ Below w.heap.size w W)
    (fun _ _ _ => False)
    (OwnFrom.and (Own.from (holdsRow_own w.heap.size w.heap.size 22 3 1 (fun pre : List (Gr s) => pre.length) (fun pre => pre.map fun y : Gr s => Value.int .i64 y.1) (fun pre v => v = .slice none 0 0 ↔ pre = [])) _) (ownFrom_below (Nat.le_refl _) (by simp)))
    (fun _ _ _ _ _ hs _ _ => hs)
    ⟨⟨_, bO, World.ownsRow_nil _ _ _ _, by simp⟩, hB0⟩
    (fun y => { tmps := #[.slice none 0 0, .func (.func 116) #[] #[.pointer (some ⟨B, 0, none⟩)], .pointer (some ⟨w.heap.size, 0, none⟩), undef, .slice none 0 0, .int .i64 y.1, .func (.func 116) #[] #[.pointer (some ⟨B, 0, none⟩)], .int .i64 y.1, undef, undef, undef, undef, undef], defers := [] }) ?assign ?body ?done ?stop
  case assign =>
    intro l y W K hK
    gi_wp2
    exact hK
  case body =>
    rintro l pre y W ⟨⟨v, hv, hrow, hnil⟩, hBW⟩ hlt
    have hc := hv.cell
    gi_wp2_with (gi_at_builtin; refine wpListIn_append_own _ rfl _ _ 22 rfl w.heap.size 3 i0 (.int .i64 0) 1 8 Tryd.underlying22 hi hz0 hz1 hz2 rfl (by decide) _ _ _ rfl (hrow.alloc _) ⟨W.heap.size, 0, none⟩ 1 1 [.int .i64 y.1] rfl rfl (cell_one_new _ _ _) (by simp [Value.oneCell']) (by unfold maxLen; omega) (by omega) (by have := hBW.size; simp; omega) ?_; intro v' w1 hown' hgrow _; obtain ⟨g', cap', rfl⟩ := ownsRow_succ hown'; obtain ⟨hv1, hv2, hr2, hk2, hb2⟩ := hv.appended (by decide) hrow hBW.size (Nat.le_refl _) hown' hgrow; have hc1 := hv1.cell; have hf1 := hv1.frozen)
    exact ⟨hk2.from _, hb2, ⟨_, hv2, by simpa using hr2, by simp⟩, hBW.trans hb2⟩
  case done =>
    rintro D ys W hD hys ⟨⟨v, hv, hrow, hnil⟩, hBW⟩ hK
    have hc := hv.cell
    have hD' : w.heap.size + 1 ≤ D := by simpa using hD
    have hys2 := Lib.hid (show ys.map (fun y : Gr s => Value.int .i64 y.1) = (Sp.groupsOf s).map (Value.int .i64) by have h := congrArg (List.map (Value.int .i64)) hys; rwa [List.map_map] at h)
    have hys3 := Lib.hid (show ys.length = (Sp.groupsOf s).length by rw [← hys, List.length_map])
    clear hys hD
    gi_wp2
    refine ⟨by simp, .inl ⟨_, _, rfl, run_takeDeferred hK, ?_⟩⟩
    exact ⟨_, results_tmp rfl _ _ _, v, rfl, by rw [← hys2.out, ← hys3.out]; exact ownsRow_putObj hrow _ hK rfl, hBW.trans ((Below.refl _ W).grown (grownBy_putObj' W D _) hBW.size (fun k e => by cases e; omega))⟩
  case stop =>
    rintro D c pre W _ _ h _
    exact h.elim
set_option maxHeartbeats 1000000 in
theorem collect_calls (B : Nat) (s : Int) (w : World) (hB : B < w.heap.size) (hc : w.cell? ⟨B, 0, none⟩ = some (.int .i64 s)) (hG : GlobOk w) :
    Calls Tryd.prog 120 #[.func (.func 116) #[] #[.pointer (some ⟨B, 0, none⟩)]] w fun e W' => ∃ v, e = .returned v ∧ W'.ownsRow w.heap.size 3 1 v (Sp.groupsOf s).length ((Sp.groupsOf s).map (Value.int .i64)) ∧ Below w.heap.size w W' := by
  have h := Lib.hid (callsIn_wide.1 (appendSeq_in B s w hB hc hG))
  clear hc hG
  go_enter Tryd.func120, Tryd.ntmps120
  go_wp2_with (go_at_call 125; refine h.out.mono ?_; rintro e w' ⟨v, rfl, hv, hb⟩)
  go_ret
  exact ⟨_, rfl, hv, hb⟩
theorem ownsRow_R {W : World} {base : Nat} {v : Value} {xs : List Int} (h : W.ownsRow base 3 1 v xs.length (xs.map (Value.int .i64))) : Kd.R (Kd.int .i64) 3 W base (fun _ => True) v xs := Kd.R_of_own h (fun _ _ => trivial)
set_option maxHeartbeats 1000000 in
theorem group_List.calls (a0 : Int) (r : List Int) (w : World) (hG : GlobOk w) (h : group_List.f a0 = some r) :
    Calls Tryd.prog 104 #[.int .i64 a0] w fun e w' => ∃ v0_ : Value, e = .returned v0_ ∧ Kd.R (Kd.int .i64) 3 w' w.heap.size (fun _ => True) v0_ r ∧ Below w.heap.size w w' := by
  obtain rfl := Option.some.inj h
  have hcol := Lib.hid (collect_calls w.heap.size a0 (w.alloc (.cells #[.int .i64 a0] 3)) (by simp) (by simp) (hG.below ((Below.refl _ w).alloc (Nat.le_refl _) _)))
  clear hG
  go_enter Tryd.func104, Tryd.ntmps104
  go_wp2_with (first | (go_at_call 93; refine (callsIn_wide.1 (groups_in 1 a0 _)).mono ?_; rintro e w' ⟨rfl, rfl⟩) | (go_at_call 120; refine hcol.out.mono ?_; rintro e w' ⟨v, rfl, hv, hb⟩))
  go_ret
  exact ⟨_, rfl, Kd.R_lower (ownsRow_R hv) (by simp), ((Below.refl _ w).alloc (Nat.le_refl _) _).trans (hb.mono (by simp))⟩
end Go.Proofs.YtpciieagafddcaaDoor.F
