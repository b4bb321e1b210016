/- Woven by wip/weave/weave.py of this repo (own tool) out of the translation: the contracts of some functions. Lean checks it. -/
import Derived.Test.YtechgjbhgeddjaaDoorQeD
import Derived.Test.YtechgjbhgeddjaaDoorQeF0
import Derived.Test.YtechgjbhgeddjaaDoorQeF5
import Derived.Test.YtechgjbhgeddjaaDoorQeF14
import Derived.Test.YtechgjbhgeddjaaDoorQePP
import Derived.StillTailTactics
import Derived.Deep.RegionWith
import Derived.BigRegion
import Derived.IntWalk
import Derived.Deep.CutRange
import Derived.Deep.RegionHeld3
import Derived.BigQuiet
import Derived.Deep.QuietTactic
import Derived.Laws.EntriesVeiled
import Derived.Test.YtechgjbhgeddjaaDoorQePQ
import Derived.Test.YtechgjbhgeddjaaDoorQePT
namespace Go.Proofs.YtechgjbhgeddjaaDoor.F
open Go.RowKit Go.Proofs.YtechgjbhgeddjaaDoorW.PrintWords Go.Proofs.YtechgjbhgeddjaaDoorW.PrintLast Go.Proofs.YtechgjbhgeddjaaDoorW.PrintMore
attribute [local go_sem] max2_int min2_int max_two min_two max_three min_three max_four min_four   -- for this text's walks alone
set_option linter.unusedVariables false
set_option linter.unusedSimpArgs false
-- IMPORT Derived.Test.YtechgjbhgeddjaaDoorPP
-- IMPORT Derived.StillTailTactics
-- IMPORT Derived.Deep.RegionWith
-- IMPORT Derived.BigRegion
-- IMPORT Derived.IntWalk
-- IMPORT Derived.Deep.CutRange
-- IMPORT Derived.Deep.RegionHeld3
-- IMPORT Derived.BigQuiet
-- IMPORT Derived.Deep.QuietTactic
-- IMPORT Derived.Laws.EntriesVeiled
-- IMPORT Derived.Test.YtechgjbhgeddjaaDoorPQ
-- IMPORT Derived.Test.YtechgjbhgeddjaaDoorPT
open Go.Proofs.YtechgjbhgeddjaaDoor.PT
/-! ### the machine in its box -/
def boxCells (A : Option Addr) (c : Nat) (l : List S39) (s : Sg) : Array Value := #[.slice A l.length c, .int .i64 s.plan, .int .i64 s.stage, .int .i64 s.next, .int .i64 s.phase, .int .i64 s.t, .int .i64 s.hold, .int .i64 s.held, .int .i64 s.ask, .int .i64 s.want, .bool s.stop]
def BoxAt (b : Nat) (A : Option Addr) (c : Nat) (l : List S39) (s : Sg) (W : World) : Prop := W.heap[b]? = some (.cells (boxCells A c l s) 62 (0, 0))
theorem BoxAt.cell {b : Nat} {A : Option Addr} {c : Nat} {l : List S39} {s : Sg} {W : World} (h : BoxAt b A c l s W) (j : Nat) : W.cell? ⟨b, j, none⟩ = (boxCells A c l s)[j]? := by unfold BoxAt at h; simp [World.cell?, h]
theorem BoxAt.frozen {b : Nat} {A : Option Addr} {c : Nat} {l : List S39} {s : Sg} {W : World} (h : BoxAt b A c l s W) (j : Nat) : W.frozen? ⟨b, j, none⟩ = false := by unfold BoxAt at h; simp [World.frozen?, h]
theorem BoxAt.below {b : Nat} {A : Option Addr} {c : Nat} {l : List S39} {s : Sg} {W W' : World} (h : BoxAt b A c l s W) (hb : Below W.heap.size W W') : BoxAt b A c l s W' := (hb.block b (Array.getElem?_eq_some_iff.1 h).1).trans h
theorem BoxAt.set {b : Nat} {A : Option Addr} {c : Nat} {l : List S39} {s s' : Sg} {W : World} (h : BoxAt b A c l s W) (j : Nat) (v : Value) (hs : (boxCells A c l s).setIfInBounds j v = boxCells A c l s') : BoxAt b A c l s' (W.setCell ⟨b, j, none⟩ v) := by
  unfold BoxAt at h ⊢
  simp [World.setCell, Array.getElem?_modify, h, hs]
set_option maxHeartbeats 2000000 in
set_option maxRecDepth 100000 in
theorem boxPlan_calls (b : Nat) (A : Option Addr) (c : Nat) (l : List S39) (s : Sg) (W : World) (hB : BoxAt b A c l s W) (hC : Kd.C k39 W A l.length l) (hp : 0 ≤ s.plan ∧ s.plan < (l.length : Int)) :
    Calls Tryd.prog 68 #[.pointer (some ⟨b, 0, none⟩)] W fun e W' => (∃ A0 c0 A1 c1, e = .returned (.agg #[.slice A0 (rd_T39 l s.plan).f0.length c0, .slice A1 (rd_T39 l s.plan).f1.length c1, .int .i64 (rd_T39 l s.plan).f2, .int .i64 (rd_T39 l s.plan).f3, .int .i64 (rd_T39 l s.plan).f4]) ∧ (rd_T39 l s.plan).f0.length ≤ c0 ∧ Kd.C (Kd.int .i64) W' A0 (rd_T39 l s.plan).f0.length (rd_T39 l s.plan).f0 ∧ (rd_T39 l s.plan).f1.length ≤ c1 ∧ Kd.C k41 W' A1 (rd_T39 l s.plan).f1.length (rd_T39 l s.plan).f1) ∧ Below W.heap.size W W' := by
  have hmx := Kd.C_max hC
  have hu39 := Tryd.underlying39
  have hu62 := Tryd.underlying62
  have hu24 := Tryd.underlying24
  have hlt : b < W.heap.size := (Array.getElem?_eq_some_iff.1 hB).1
  have hbel : Below W.heap.size W (W.alloc (.cells #[.slice none 0 0, .slice none 0 0, .int .i64 0, .int .i64 0, .int .i64 0] 39)) := (Below.refl _ W).alloc (Nat.le_refl _) _
  have HC := Lib.hid hC
  have HBel := Lib.hid hbel
  obtain ⟨ad, A0, c0, A1, c1, eA, gx0, gx1, gx2, gx3, gx4, hl0, hi0, hl1, hi1⟩ := at_T39 hC s.plan hp.1 hp.2
  subst eA
  have hbd := hbel.drew
  have lift : ∀ {p : Addr} {v : Value}, W.cell? p = some v → (W.alloc (.cells #[.slice none 0 0, .slice none 0 0, .int .i64 0, .int .i64 0, .int .i64 0] 39)).drew.cell? p = some v := fun {p v} h => (hbd.cell (World.block_lt_of_cell? W p h)).trans h
  have hx0 := lift gx0
  have hx1 := lift gx1
  have hx2 := lift gx2
  have hx3 := lift gx3
  have hx4 := lift gx4
  have hcell := fun j => BoxAt.cell (W := (W.alloc (.cells #[.slice none 0 0, .slice none 0 0, .int .i64 0, .int .i64 0, .int .i64 0] 39)).drew) (hB.below hbd) j
  have b0 := hcell 0
  have b1 := hcell 1
  simp only [boxCells] at b0 b1
  have HI0 := Lib.hid hi0
  have HI1 := Lib.hid hi1
  clear hcell hC hbel hi0 hi1 lift gx0 gx1 gx2 gx3 gx4 hbd
  go_enter Tryd.func68, Tryd.ntmps68
  go_wp2
  go_region
  go_wp2
  have hbel2 : Below W.heap.size W (W.alloc (.cells #[.slice A0 (rd_T39 l s.plan).f0.length c0, .slice A1 (rd_T39 l s.plan).f1.length c1, .int .i64 (rd_T39 l s.plan).f2, .int .i64 (rd_T39 l s.plan).f3, .int .i64 (rd_T39 l s.plan).f4] 39)).drew := ((Below.refl _ W).alloc (Nat.le_refl _) _).drew
  refine bodyPost_ret (results_cell_row rfl _ _ W.heap.size 39 #[.slice A0 (rd_T39 l s.plan).f0.length c0, .slice A1 (rd_T39 l s.plan).f1.length c1, .int .i64 (rd_T39 l s.plan).f2, .int .i64 (rd_T39 l s.plan).f3, .int .i64 (rd_T39 l s.plan).f4] (0, 0) _ rfl (heap_alloc_new W _) Tryd.underlying39 rfl (by kernel_rfl)) rfl ?_
  exact ⟨⟨A0, c0, A1, c1, rfl, hl0, Kd.C_below HI0.out hbel2, hl1, Kd.C_below HI1.out hbel2⟩, hbel2⟩
theorem planField (w : World) (v0 v1 v2 v3 v4 : Value) : (Instr.field 39 (.agg #[v0, v1, v2, v3, v4]) 1).run Tryd.prog w = .ok v1 w ∧ (Instr.field 39 (.agg #[v0, v1, v2, v3, v4]) 2).run Tryd.prog w = .ok v2 w ∧ (Instr.field 39 (.agg #[v0, v1, v2, v3, v4]) 3).run Tryd.prog w = .ok v3 w := by
  have ht := Tryd.underlying39
  refine ⟨?_, ?_, ?_⟩ <;> simp [Instr.field, run_underlying ht, asAgg, go_sem]
set_option maxHeartbeats 4000000 in
set_option maxRecDepth 100000 in
theorem boxAmber_calls (b : Nat) (A : Option Addr) (c : Nat) (l : List S39) (s : Sg) (w0 W : World) (hw : Below w0.heap.size w0 W) (hb0 : w0.heap.size ≤ b) (hB : BoxAt b A c l s W) (hC : Kd.C k39 w0 A l.length l) (hp : 0 ≤ s.plan ∧ s.plan < (l.length : Int)) (ht : 0 ≤ s.t ∧ s.t ≤ 1000) :
    Calls Tryd.prog 47 #[.pointer (some ⟨b, 0, none⟩)] W fun e W' => e = .returned (.tuple #[]) ∧ BoxAt b A c l (stage_amberB.f (rd_T39 l s.plan) s) W' ∧ Below w0.heap.size w0 W' := by
  have hu62 := Tryd.underlying62
  have hu24 := Tryd.underlying24
  have hu39 := Tryd.underlying39
  have pf2 : ∀ (w : World) (v0 v1 v2 v3 v4 : Value), (Instr.field 39 (.agg #[v0, v1, v2, v3, v4]) 2).run Tryd.prog w = .ok v2 w := fun w v0 v1 v2 v3 v4 => (planField w v0 v1 v2 v3 v4).2.1
  have f5 := hB.frozen 5
  have b5 := hB.cell 5
  simp only [boxCells] at b5
  have hw1 : wrap64 (s.t + 1) = s.t + 1 := by unfold wrap64; omega
  have hB1 : BoxAt b A c l { s with t := s.t + 1 } (W.setCell ⟨b, 5, none⟩ (.int .i64 (s.t + 1))).drew := hB.set 5 (.int .i64 (s.t + 1)) rfl
  have hbel1 : Below w0.heap.size w0 (W.setCell ⟨b, 5, none⟩ (.int .i64 (s.t + 1))).drew := (hw.setCell (p := ⟨b, 5, none⟩) hb0 _).drew
  have HP := Lib.hid (boxPlan_calls b A c l { s with t := s.t + 1 } _ hB1 (Kd.C_below hC hbel1) hp)
  have d5 := hB1.cell 5
  simp only [boxCells] at d5
  have HB1 := Lib.hid hB1
  have HBel1 := Lib.hid hbel1
  clear hB1 hbel1 hC
  by_cases he : s.t + 1 = (rd_T39 l s.plan).f2
  · have hfin : stage_amberB.f (rd_T39 l s.plan) s = { s with phase := 2, t := 0 } := by unfold stage_amberB.f; rw [if_pos he]
    have HF := Lib.hid hfin
    have HE := Lib.hid he
    clear hfin he
    go_enter Tryd.func47, Tryd.ntmps47
    go_wp2
    first | go_region_with (go_at_call 68; (with_reducible refine HP.out.mono ?_); rintro e w2 ⟨⟨A0, c0, A1, c1, rfl, -⟩, hb⟩; have h2 := HB1.out.below hb; have e5 := h2.cell 5; simp only [boxCells] at e5; have H2 := Lib.hid h2; have HB2 := Lib.hid (HBel1.out.trans (hb.mono HBel1.out.size)); clear h2 hb) | fail
    all_goals
      have he := HE.out
      have h4 := H2.out.set (s' := { s with t := s.t + 1, phase := 2 }) 4 (.int .i64 2) rfl
      have h5 := h4.set (s' := { s with t := 0, phase := 2 }) 5 (.int .i64 0) rfl
      have q4 := H2.out.cell 4
      have q5 := h4.cell 5
      simp only [boxCells] at q4 q5
      have k4 := H2.out.frozen 4
      have k5 := h4.frozen 5
      have H5 := Lib.hid h5
      clear h4 h5
      go_wp2
      go_end0
      rw [HF.out]
      exact ⟨rfl, H5.out, (HB2.out.setCell (p := ⟨b, 4, none⟩) hb0 _).setCell (p := ⟨b, 5, none⟩) hb0 _⟩
  · have hfin : stage_amberB.f (rd_T39 l s.plan) s = { s with t := s.t + 1 } := by unfold stage_amberB.f; rw [if_neg he]
    have HF := Lib.hid hfin
    have HE := Lib.hid he
    clear hfin he
    go_enter Tryd.func47, Tryd.ntmps47
    go_wp2
    first | go_region_with (go_at_call 68; (with_reducible refine HP.out.mono ?_); rintro e w2 ⟨⟨A0, c0, A1, c1, rfl, -⟩, hb⟩; have h2 := HB1.out.below hb; have e5 := h2.cell 5; simp only [boxCells] at e5; have H2 := Lib.hid h2; have HB2 := Lib.hid (HBel1.out.trans (hb.mono HBel1.out.size)); clear h2 hb) | fail
    all_goals
      have he := HE.out
      go_wp2
      go_end0
      rw [HF.out]
      exact ⟨rfl, H2.out, HB2.out⟩
theorem boxRed_d (b : Nat) (A : Option Addr) (c : Nat) (l : List S39) (s : Sg) (red : Int) (w2 : World) (h2 : BoxAt b A c l s w2) :
    w2.cell? ⟨b, 5, none⟩ = some (.int .i64 s.t) ∧ w2.frozen? ⟨b, 5, none⟩ = false ∧
    (w2.setCell ⟨b, 5, none⟩ (.int .i64 red)).cell? ⟨b, 5, none⟩ = some (.int .i64 red) ∧ (w2.setCell ⟨b, 5, none⟩ (.int .i64 red)).cell? ⟨b, 10, none⟩ = some (.bool s.stop) ∧ (w2.setCell ⟨b, 5, none⟩ (.int .i64 red)).cell? ⟨b, 9, none⟩ = some (.int .i64 s.want) ∧ (w2.setCell ⟨b, 5, none⟩ (.int .i64 red)).cell? ⟨b, 3, none⟩ = some (.int .i64 s.next) ∧
    (w2.setCell ⟨b, 5, none⟩ (.int .i64 red)).cell? ⟨b, 4, none⟩ = some (.int .i64 s.phase) ∧ (w2.setCell ⟨b, 5, none⟩ (.int .i64 red)).frozen? ⟨b, 4, none⟩ = false ∧
    ((w2.setCell ⟨b, 5, none⟩ (.int .i64 red)).setCell ⟨b, 4, none⟩ (.int .i64 0)).cell? ⟨b, 2, none⟩ = some (.int .i64 s.stage) ∧ ((w2.setCell ⟨b, 5, none⟩ (.int .i64 red)).setCell ⟨b, 4, none⟩ (.int .i64 0)).frozen? ⟨b, 2, none⟩ = false ∧
    (((w2.setCell ⟨b, 5, none⟩ (.int .i64 red)).setCell ⟨b, 4, none⟩ (.int .i64 0)).setCell ⟨b, 2, none⟩ (.int .i64 s.next)).cell? ⟨b, 5, none⟩ = some (.int .i64 red) ∧ (((w2.setCell ⟨b, 5, none⟩ (.int .i64 red)).setCell ⟨b, 4, none⟩ (.int .i64 0)).setCell ⟨b, 2, none⟩ (.int .i64 s.next)).frozen? ⟨b, 5, none⟩ = false ∧
    BoxAt b A c l { s with phase := 0, stage := s.next, t := 0 } ((((w2.setCell ⟨b, 5, none⟩ (.int .i64 red)).setCell ⟨b, 4, none⟩ (.int .i64 0)).setCell ⟨b, 2, none⟩ (.int .i64 s.next)).setCell ⟨b, 5, none⟩ (.int .i64 0)) := by
  have h3 := h2.set (s' := { s with t := red }) 5 (.int .i64 red) rfl
  have h4 := h3.set (s' := { s with t := red, phase := 0 }) 4 (.int .i64 0) rfl
  have h5 := h4.set (s' := { s with t := red, phase := 0, stage := s.next }) 2 (.int .i64 s.next) rfl
  have h6 := h5.set (s' := { s with phase := 0, stage := s.next, t := 0 }) 5 (.int .i64 0) rfl
  exact ⟨h2.cell 5, h2.frozen 5, h3.cell 5, h3.cell 10, h3.cell 9, h3.cell 3, h3.cell 4, h3.frozen 4, h4.cell 2, h4.frozen 2, h5.cell 5, h5.frozen 5, h6⟩
theorem boxRed_c5 (b : Nat) (A : Option Addr) (c : Nat) (l : List S39) (s : Sg) (w : World) (h2 : BoxAt b A c l s w) :
    w.cell? ⟨b, 9, none⟩ = some (.int .i64 s.want) ∧
    w.cell? ⟨b, 1, none⟩ = some (.int .i64 s.plan) ∧
    w.frozen? ⟨b, 1, none⟩ = false ∧
    (w.setCell ⟨b, 1, none⟩ (.int .i64 s.want)).cell? ⟨b, 9, none⟩ = some (.int .i64 s.want) ∧
    (w.setCell ⟨b, 1, none⟩ (.int .i64 s.want)).frozen? ⟨b, 9, none⟩ = false ∧
    ((w.setCell ⟨b, 1, none⟩ (.int .i64 s.want)).setCell ⟨b, 9, none⟩ (.int .i64 (-1))).cell? ⟨b, 3, none⟩ = some (.int .i64 s.next) ∧
    ((w.setCell ⟨b, 1, none⟩ (.int .i64 s.want)).setCell ⟨b, 9, none⟩ (.int .i64 (-1))).frozen? ⟨b, 3, none⟩ = false ∧
    BoxAt b A c l { s with plan := s.want, want := -1, next := 0 } (((w.setCell ⟨b, 1, none⟩ (.int .i64 s.want)).setCell ⟨b, 9, none⟩ (.int .i64 (-1))).setCell ⟨b, 3, none⟩ (.int .i64 0)) := by
  have r2 := h2.set (s' := { s with plan := s.want }) 1 (.int .i64 s.want) rfl
  have r3 := r2.set (s' := { s with plan := s.want, want := -1 }) 9 (.int .i64 (-1)) rfl
  have r4 := r3.set (s' := { s with plan := s.want, want := -1, next := 0 }) 3 (.int .i64 0) rfl
  exact ⟨h2.cell 9, h2.cell 1, h2.frozen 1, r2.cell 9, r2.frozen 9, r3.cell 3, r3.frozen 3, r4⟩
theorem boxRed_c6 (b : Nat) (A : Option Addr) (c : Nat) (l : List S39) (s : Sg) (w : World) (h2 : BoxAt b A c l s w) :
    w.cell? ⟨b, 3, none⟩ = some (.int .i64 s.next) ∧
    w.cell? ⟨b, 4, none⟩ = some (.int .i64 s.phase) ∧
    w.frozen? ⟨b, 4, none⟩ = false ∧
    (w.setCell ⟨b, 4, none⟩ (.int .i64 0)).cell? ⟨b, 2, none⟩ = some (.int .i64 s.stage) ∧
    (w.setCell ⟨b, 4, none⟩ (.int .i64 0)).frozen? ⟨b, 2, none⟩ = false ∧
    ((w.setCell ⟨b, 4, none⟩ (.int .i64 0)).setCell ⟨b, 2, none⟩ (.int .i64 s.next)).cell? ⟨b, 5, none⟩ = some (.int .i64 s.t) ∧
    ((w.setCell ⟨b, 4, none⟩ (.int .i64 0)).setCell ⟨b, 2, none⟩ (.int .i64 s.next)).frozen? ⟨b, 5, none⟩ = false ∧
    BoxAt b A c l { s with phase := 0, stage := s.next, t := 0 } (((w.setCell ⟨b, 4, none⟩ (.int .i64 0)).setCell ⟨b, 2, none⟩ (.int .i64 s.next)).setCell ⟨b, 5, none⟩ (.int .i64 0)) := by
  have r5 := h2.set (s' := { s with phase := 0 }) 4 (.int .i64 0) rfl
  have r6 := r5.set (s' := { s with phase := 0, stage := s.next }) 2 (.int .i64 s.next) rfl
  have r7 := r6.set (s' := { s with phase := 0, stage := s.next, t := 0 }) 5 (.int .i64 0) rfl
  exact ⟨h2.cell 3, h2.cell 4, h2.frozen 4, r5.cell 2, r5.frozen 2, r6.cell 5, r6.frozen 5, r7⟩
attribute [local go_sem] max2_int min2_int max_two min_two
set_option maxHeartbeats 4000000 in
set_option maxRecDepth 100000 in
theorem boxRed_calls (b : Nat) (A : Option Addr) (c : Nat) (l : List S39) (s : Sg) (w0 W : World) (hw : Below w0.heap.size w0 W) (hb0 : w0.heap.size ≤ b) (hB : BoxAt b A c l s W) (hC : Kd.C k39 w0 A l.length l) (hp : 0 ≤ s.plan ∧ s.plan < (l.length : Int)) (ht : 0 ≤ s.t ∧ s.t ≤ 1000) (hr : 0 ≤ (rd_T39 l s.plan).f3 ∧ (rd_T39 l s.plan).f3 ≤ 1000) :
    Calls Tryd.prog 48 #[.pointer (some ⟨b, 0, none⟩)] W fun e W' => e = .returned (.tuple #[]) ∧ BoxAt b A c l (stage_redB.f (rd_T39 l s.plan) s) W' ∧ Below w0.heap.size w0 W' := by
  have hu62 := Tryd.underlying62
  have hu24 := Tryd.underlying24
  have hu39 := Tryd.underlying39
  have pf3 : ∀ (w : World) (v0 v1 v2 v3 v4 : Value), (Instr.field 39 (.agg #[v0, v1, v2, v3, v4]) 3).run Tryd.prog w = .ok v3 w := fun w v0 v1 v2 v3 v4 => (planField w v0 v1 v2 v3 v4).2.2
  have hw1 : wrap64 (s.t + 1) = s.t + 1 := by unfold wrap64; omega
  have HP := Lib.hid (boxPlan_calls b A c l s W hB (Kd.C_below hC hw) hp)
  have HBx := Lib.hid hB
  have HW := Lib.hid hw
  clear hB hC hw
  generalize hred : (rd_T39 l s.plan).f3 = red at *
  have hmn : mn (s.t + 1) red = if s.t + 1 < red then s.t + 1 else red := by unfold mn; split <;> split <;> omega
  by_cases h1 : s.t + 1 < red
  · have hfin : stage_redB.f (rd_T39 l s.plan) s = { s with t := s.t + 1 } := by unfold stage_redB.f; rw [hred, hmn, if_pos h1, if_pos (.inl h1)]
    have HF := Lib.hid hfin
    clear hfin hmn hred
    go_enter Tryd.func48, Tryd.ntmps48
    go_wp2_with (go_at_call 68; (with_reducible refine HP.out.mono ?_); rintro e w2 ⟨⟨A0, c0, A1, c1, rfl, -⟩, hb⟩; have h2 := HBx.out.below hb; have e5 := h2.cell 5; have k5 := h2.frozen 5; simp only [boxCells] at e5; have h3 := h2.set (s' := { s with t := s.t + 1 }) 5 (.int .i64 (s.t + 1)) rfl; have q5 := h3.cell 5; simp only [boxCells] at q5; have H3 := Lib.hid h3; have HB2 := Lib.hid (HW.out.trans (hb.mono HW.out.size)); clear h2 hb h3)
    refine bodyPost_ret (results_none rfl _ _ _) rfl ?_
    rw [HF.out]
    exact ⟨rfl, H3.out, HB2.out.setCell (p := ⟨b, 5, none⟩) hb0 _⟩
  · have hmn' : mn (s.t + 1) red = red := by rw [hmn, if_neg h1]
    clear hmn
    have hcase : s.t + 1 = red ∨ red < s.t + 1 := by omega
    cases hst : s.stop with
    | true =>
      have hfin : stage_redB.f (rd_T39 l s.plan) s = { s with t := red } := by unfold stage_redB.f; rw [hred, hmn', if_pos (.inr hst)]
      have HF := Lib.hid hfin
      clear hfin hmn' hred
      rcases hcase with he | he
      all_goals
        go_enter Tryd.func48, Tryd.ntmps48
        go_wp2_with (go_at_call 68; (with_reducible refine HP.out.mono ?_); rintro e w2 ⟨⟨A0, c0, A1, c1, rfl, -⟩, hb⟩; have h2 := HBx.out.below hb; have e5 := h2.cell 5; have k5 := h2.frozen 5; simp only [boxCells] at e5; have h3 := h2.set (s' := { s with t := red }) 5 (.int .i64 red) rfl; have q5 := h3.cell 5; have q10 := h3.cell 10; have q9 := h3.cell 9; have q3 := h3.cell 3; simp only [boxCells] at q5 q10 q9 q3; have H3 := Lib.hid h3; have HB2 := Lib.hid (HW.out.trans (hb.mono HW.out.size)); clear h2 hb h3)
        refine bodyPost_ret (results_none rfl _ _ _) rfl ?_
        rw [HF.out]
        exact ⟨rfl, H3.out, HB2.out.setCell (p := ⟨b, 5, none⟩) hb0 _⟩
    | false =>
      have hno : ¬ (mn (s.t + 1) red < red ∨ s.stop = true) := by rw [hmn', hst]; simp
      by_cases hwa : s.want = -1
      · have hfin : stage_redB.f (rd_T39 l s.plan) s = { s with phase := 0, stage := s.next, t := 0 } := by unfold stage_redB.f; rw [hred, if_neg hno, if_neg (by simp [hwa])]
        have HF := Lib.hid hfin
        clear hfin hmn' hred hno
        have HX := Lib.hid (boxRed_d b A c l s red)
        rcases hcase with he | he
        all_goals
          go_enter Tryd.func48, Tryd.ntmps48
          go_wp2_with (go_at_call 68; (with_reducible refine HP.out.mono ?_); rintro e w2 ⟨⟨A0, c0, A1, c1, rfl, -⟩, hb⟩; obtain ⟨e5, k5, q5, q10, q9, q3, m4, n4, m2, n2, m5, n5, h6⟩ := HX.out w2 (HBx.out.below hb); have H6 := Lib.hid h6; have HB2 := Lib.hid (HW.out.trans (hb.mono HW.out.size)); clear hb h6)
          go_end0
          rw [HF.out]
          exact ⟨rfl, H6.out, ((((HB2.out.setCell (p := ⟨b, 5, none⟩) hb0 _).setCell (p := ⟨b, 4, none⟩) hb0 _).setCell (p := ⟨b, 2, none⟩) hb0 _).setCell (p := ⟨b, 5, none⟩) hb0 _)⟩
      · have hfin : stage_redB.f (rd_T39 l s.plan) s = { s with plan := s.want, want := -1, next := 0, phase := 0, stage := 0, t := 0 } := by unfold stage_redB.f; rw [hred, if_neg hno, if_pos hwa]
        have HF := Lib.hid hfin
        clear hfin hmn' hred hno
        have HX := Lib.hid (boxRed_d b A c l s red)
        rcases hcase with he | he
        all_goals
          go_enter Tryd.func48, Tryd.ntmps48
          go_upto_region 5 with (go_at_call 68; (with_reducible refine HP.out.mono ?_); rintro e w2 ⟨⟨A0, c0, A1, c1, rfl, -⟩, hb⟩; obtain ⟨e5, k5, q5, q10, q9, -⟩ := HX.out w2 (HBx.out.below hb); have H3 := Lib.hid ((HBx.out.below hb).set (s' := { s with t := red }) 5 (.int .i64 red) rfl); have HB2 := Lib.hid ((HW.out.trans (hb.mono HW.out.size)).setCell (p := ⟨b, 5, none⟩) hb0 (.int .i64 red)); clear hb)
          clear e5 k5 q5 q10 q9
          generalize w2.setCell ⟨b, 5, none⟩ (.int .i64 red) = wA at H3 HB2 ⊢
          obtain ⟨e9, e1, f1, u9, v9, u3, v3, r4⟩ := boxRed_c5 b A c l _ wA H3.out
          have H4 := Lib.hid r4
          have HB3 := Lib.hid (((HB2.out.setCell (p := ⟨b, 1, none⟩) hb0 (.int .i64 s.want)).setCell (p := ⟨b, 9, none⟩) hb0 (.int .i64 (-1))).setCell (p := ⟨b, 3, none⟩) hb0 (.int .i64 0))
          clear r4
          go_upto_region 6 with fail
          clear e9 e1 f1 u9 v9 u3 v3
          generalize ((wA.setCell ⟨b, 1, none⟩ (.int .i64 s.want)).setCell ⟨b, 9, none⟩ (.int .i64 (-1))).setCell ⟨b, 3, none⟩ (.int .i64 0) = wB at H4 HB3 ⊢
          obtain ⟨e3, e4, f4, u2, v2, u5, v5, r4⟩ := boxRed_c6 b A c l _ wB H4.out
          have H5 := Lib.hid r4
          clear r4
          go_wp2
          go_end0
          rw [HF.out]
          exact ⟨rfl, H5.out, (((HB3.out.setCell (p := ⟨b, 4, none⟩) hb0 _).setCell (p := ⟨b, 2, none⟩) hb0 _).setCell (p := ⟨b, 5, none⟩) hb0 _)⟩
theorem wp_store_i {P : Program} {op : Oper} {a : Act} {w : World} {K : Act → World → Prop} {Q : Exit → Act → World → Prop} (ty : TypeId) (x y : Operand) (ho : op.op = .store ty x y)
    (p : Addr) (k : IntKind) (n : Int) (u : Value) (hx : a.eval x = .pointer (some p)) (hy : a.eval y = .int k n) (hi : (P.info? ty).map (·.size) = some 1) (hc : w.cell? p = some u) (hf : w.frozen? p = false)
    (h : K (a.put op.dst undef) (w.setCell p (.int k n))) : op.wp P a w K Q := by
  have hs : (sizeOf ty).run P w = .ok 1 w := by
    cases hq : P.info? ty with
    | none => simp [hq] at hi
    | some i =>
      have hs : i.size = 1 := by simp [hq] at hi; omega
      simp [sizeOf, typeInfo, hq, hs]
  unfold Oper.wp execOp
  simp only [ho, hx, hy, Instr.storeAt, Instr.sureAddr, Sem.run_bind, Sem.run_pure, Result.andThen_ok]
  simp [go_sem, hc, hf, hs]
  exact h
theorem wp_load_i {P : Program} {op : Oper} {a : Act} {w : World} {K : Act → World → Prop} {Q : Exit → Act → World → Prop} (ty : TypeId) (x : Operand) (ho : op.op = .load ty x)
    (p : Addr) (k : IntKind) (n : Int) (hx : a.eval x = .pointer (some p)) (hu : ∀ w, (isAgg ty).run P w = .ok false w) (hc : w.cell? p = some (.int k n))
    (h : K (a.put op.dst (.int k n)) w) : op.wp P a w K Q := by
  unfold Oper.wp execOp
  simp only [ho, hx, Instr.loadAt, Instr.sureAddr, Sem.run_bind, Sem.run_pure, Result.andThen_ok]
  simp [go_sem, hc, hu]
  exact h
def grF (b : Nat) (s : Sg) (v20 v21 v22 v23 v24 v25 v26 v27 v28 v29 v30 v31 v32 v33 v34 v35 : Value) : Act := ⟨#[(.pointer (some ⟨b, 0, none⟩)), undef, (.pointer (some ⟨b, 1, none⟩)), undef, undef, (.pointer (some ⟨b, 0, none⟩)), (.pointer (some ⟨b, 0, none⟩)), (.pointer (some ⟨b, 1, none⟩)), (.pointer (some ⟨b, 1, none⟩)), (.pointer (some ⟨b, 1, none⟩)), (.pointer (some ⟨b, 5, none⟩)), (.int .i64 s.t), (.int .i64 (wrap64 (s.t + 1))), (.pointer (some ⟨b, 1, none⟩)), (.pointer (some ⟨b, 5, none⟩)), (.pointer (some ⟨b, 1, none⟩)), (.pointer (some ⟨b, 1, none⟩)), (.pointer (some ⟨b, 6, none⟩)), (.int .i64 s.hold), (.bool true), v20, v21, v22, v23, v24, v25, v26, v27, v28, v29, v30, v31, v32, v33, v34, v35, undef, undef, undef, undef, undef, undef, undef, undef, undef, undef, undef, undef, undef, undef, undef, undef, undef, undef, undef, undef, undef, undef, undef, undef, undef, undef, undef, undef, undef, undef, undef, undef, undef, undef, undef, undef, undef, undef, undef, undef, undef, undef, undef, undef, undef, undef, undef, undef, undef, undef, undef, undef, undef, undef, undef, undef, undef, undef, undef, undef, undef, undef, undef, undef, undef, undef, undef, undef, undef, undef, undef, undef, undef, undef, undef, undef, undef, undef, undef, undef, undef], []⟩
theorem boxGreen_a (b : Nat) (A : Option Addr) (c : Nat) (l : List S39) (s : Sg) (w : World) (h : BoxAt b A c l s w) :
    w.cell? ⟨b, 6, none⟩ = some (.int .i64 s.hold) ∧ w.cell? ⟨b, 7, none⟩ = some (.int .i64 s.held) ∧
    w.frozen? ⟨b, 6, none⟩ = false ∧ (w.setCell ⟨b, 6, none⟩ (.int .i64 (s.hold - 1))).frozen? ⟨b, 7, none⟩ = false ∧ (w.setCell ⟨b, 6, none⟩ (.int .i64 (s.hold - 1))).cell? ⟨b, 7, none⟩ = some (.int .i64 s.held) ∧
    BoxAt b A c l { s with hold := s.hold - 1, held := s.held + 1 } ((w.setCell ⟨b, 6, none⟩ (.int .i64 (s.hold - 1))).setCell ⟨b, 7, none⟩ (.int .i64 (s.held + 1))) := by
  have h2 := h.set (s' := { s with hold := s.hold - 1 }) 6 (.int .i64 (s.hold - 1)) rfl
  have h3 := h2.set (s' := { s with hold := s.hold - 1, held := s.held + 1 }) 7 (.int .i64 (s.held + 1)) rfl
  exact ⟨h.cell 6, h.cell 7, h.frozen 6, h2.frozen 7, h2.cell 7, h3⟩
set_option maxHeartbeats 4000000 in
set_option maxRecDepth 100000 in
theorem boxGreen_hold (b : Nat) (A : Option Addr) (c : Nat) (l : List S39) (s : Sg) (w0 W : World) (hw : Below w0.heap.size w0 W) (hb0 : w0.heap.size ≤ b) (hB : BoxAt b A c l s W) (hh : 0 < s.hold ∧ s.hold ≤ 1000) (hd : 0 ≤ s.held ∧ s.held ≤ 1000) :
    Calls Tryd.prog 46 #[.pointer (some ⟨b, 0, none⟩)] W fun e W' => e = .returned (.tuple #[]) ∧ BoxAt b A c l { s with t := wrap64 (s.t + 1), hold := s.hold - 1, held := s.held + 1 } W' ∧ Below w0.heap.size w0 W' := by
  have hu62 := Tryd.underlying62
  have hu24 := Tryd.underlying24
  have e5 := hB.cell 5
  have f5 := hB.frozen 5
  simp only [boxCells] at e5
  have h1 := hB.set (s' := { s with t := wrap64 (s.t + 1) }) 5 (.int .i64 (wrap64 (s.t + 1))) rfl
  have e6 := h1.cell 6
  simp only [boxCells] at e6
  have H1 := Lib.hid h1
  have HW := Lib.hid (hw.setCell (p := ⟨b, 5, none⟩) hb0 (.int .i64 (wrap64 (s.t + 1))))
  clear hw hB h1
  obtain ⟨h1, h2⟩ := hh
  obtain ⟨h4, h5⟩ := hd
  go_enter Tryd.func46, Tryd.ntmps46
  go_upto_region 3 with fail
  clear e5 f5 e6
  generalize W.setCell ⟨b, 5, none⟩ (.int .i64 (wrap64 (s.t + 1))) = wA at H1 HW ⊢
  obtain ⟨g6, g7, k6, k7, k8, h3⟩ := boxGreen_a b A c l _ wA H1.out
  have H3 := Lib.hid h3
  clear h3
  have wr1 : IntKind.i64.wrap (s.hold - 1) = s.hold - 1 := IntWalk.i64_in _ (by omega)
  have wr2 : IntKind.i64.wrap (s.held + 1) = s.held + 1 := IntWalk.i64_in _ (by omega)
  clear h1 h2 h4 h5
  refine wp_region_any (by kernel_rfl) ?_
  change wpAny _ _ _ _ _ _ _ (World.drew _)
  refine wpAny_take (i := 0) (v := (.pointer (some ⟨b, 1, none⟩))) rfl (by kernel_rfl) (by kernel_rfl) (by kernel_rfl) (fun _ _ _ h => h) (Or.inl ⟨by kernel_rfl, ?_⟩) ?_
  · intro w; (try unfold grF); first | (go_simp; done) | (go_simp; with_reducible rfl)
  change wpAny _ _ _ _ _ _ (grF b s (.pointer (some ⟨b, 1, none⟩)) undef undef undef undef undef undef undef undef undef undef undef undef undef undef undef) _
  refine wpAny_take (i := 1) (v := (.pointer (some ⟨b, 1, none⟩))) rfl (by kernel_rfl) (by kernel_rfl) (by kernel_rfl) (fun _ _ _ h => h) (Or.inl ⟨by kernel_rfl, ?_⟩) ?_
  · intro w; (try unfold grF); first | (go_simp; done) | (go_simp; with_reducible rfl)
  change wpAny _ _ _ _ _ _ (grF b s (.pointer (some ⟨b, 1, none⟩)) (.pointer (some ⟨b, 1, none⟩)) undef undef undef undef undef undef undef undef undef undef undef undef undef undef) _
  refine wpAny_take (i := 2) (v := (.pointer (some ⟨b, 1, none⟩))) rfl (by kernel_rfl) (by kernel_rfl) (by kernel_rfl) (fun _ _ _ h => h) (Or.inl ⟨by kernel_rfl, ?_⟩) ?_
  · intro w; (try unfold grF); first | (go_simp; done) | (go_simp; with_reducible rfl)
  change wpAny _ _ _ _ _ _ (grF b s (.pointer (some ⟨b, 1, none⟩)) (.pointer (some ⟨b, 1, none⟩)) (.pointer (some ⟨b, 1, none⟩)) undef undef undef undef undef undef undef undef undef undef undef undef undef) _
  refine wpAny_take (i := 3) (v := (.pointer (some ⟨b, 1, none⟩))) rfl (by kernel_rfl) (by kernel_rfl) (by kernel_rfl) (fun _ _ _ h => h) (Or.inl ⟨by kernel_rfl, ?_⟩) ?_
  · intro w; (try unfold grF); first | (go_simp; done) | (go_simp; with_reducible rfl)
  change wpAny _ _ _ _ _ _ (grF b s (.pointer (some ⟨b, 1, none⟩)) (.pointer (some ⟨b, 1, none⟩)) (.pointer (some ⟨b, 1, none⟩)) (.pointer (some ⟨b, 1, none⟩)) undef undef undef undef undef undef undef undef undef undef undef undef) _
  refine wpAny_take (i := 4) (v := (.pointer (some ⟨b, 6, none⟩))) rfl (by kernel_rfl) (by kernel_rfl) (by kernel_rfl) (fun _ _ _ h => h) (Or.inl ⟨by kernel_rfl, ?_⟩) ?_
  · intro w; (try unfold grF); first | (go_simp; done) | (go_simp; with_reducible rfl)
  change wpAny _ _ _ _ _ _ (grF b s (.pointer (some ⟨b, 1, none⟩)) (.pointer (some ⟨b, 1, none⟩)) (.pointer (some ⟨b, 1, none⟩)) (.pointer (some ⟨b, 1, none⟩)) (.pointer (some ⟨b, 6, none⟩)) undef undef undef undef undef undef undef undef undef undef undef) _
  refine wpAny_take (i := 7) (v := (.pointer (some ⟨b, 1, none⟩))) rfl (by kernel_rfl) (by kernel_rfl) (by kernel_rfl) (fun _ _ _ h => h) (Or.inl ⟨by kernel_rfl, ?_⟩) ?_
  · intro w; (try unfold grF); first | (go_simp; done) | (go_simp; with_reducible rfl)
  change wpAny _ _ _ _ _ _ (grF b s (.pointer (some ⟨b, 1, none⟩)) (.pointer (some ⟨b, 1, none⟩)) (.pointer (some ⟨b, 1, none⟩)) (.pointer (some ⟨b, 1, none⟩)) (.pointer (some ⟨b, 6, none⟩)) undef undef (.pointer (some ⟨b, 1, none⟩)) undef undef undef undef undef undef undef undef) _
  refine wpAny_take (i := 8) (v := (.pointer (some ⟨b, 1, none⟩))) rfl (by kernel_rfl) (by kernel_rfl) (by kernel_rfl) (fun _ _ _ h => h) (Or.inl ⟨by kernel_rfl, ?_⟩) ?_
  · intro w; (try unfold grF); first | (go_simp; done) | (go_simp; with_reducible rfl)
  change wpAny _ _ _ _ _ _ (grF b s (.pointer (some ⟨b, 1, none⟩)) (.pointer (some ⟨b, 1, none⟩)) (.pointer (some ⟨b, 1, none⟩)) (.pointer (some ⟨b, 1, none⟩)) (.pointer (some ⟨b, 6, none⟩)) undef undef (.pointer (some ⟨b, 1, none⟩)) (.pointer (some ⟨b, 1, none⟩)) undef undef undef undef undef undef undef) _
  refine wpAny_take (i := 9) (v := (.pointer (some ⟨b, 7, none⟩))) rfl (by kernel_rfl) (by kernel_rfl) (by kernel_rfl) (fun _ _ _ h => h) (Or.inl ⟨by kernel_rfl, ?_⟩) ?_
  · intro w; (try unfold grF); first | (go_simp; done) | (go_simp; with_reducible rfl)
  change wpAny _ _ _ _ _ _ (grF b s (.pointer (some ⟨b, 1, none⟩)) (.pointer (some ⟨b, 1, none⟩)) (.pointer (some ⟨b, 1, none⟩)) (.pointer (some ⟨b, 1, none⟩)) (.pointer (some ⟨b, 6, none⟩)) undef undef (.pointer (some ⟨b, 1, none⟩)) (.pointer (some ⟨b, 1, none⟩)) (.pointer (some ⟨b, 7, none⟩)) undef undef undef undef undef undef) _
  refine wpAny_ready (rs := [5, 10]) (by kernel_rfl) (by simp) ?_
  refine AllReady.cons rfl (fun K hK => ?_) ?_
  · rw [if_pos (by kernel_rfl)]
    refine wp_load_i 3 (.tmp 24) rfl ⟨b, 6, none⟩ .i64 s.hold (by kernel_rfl) (fun _ => by kernel_rfl) g6 ?_
    refine hK _ _ ?_
    clear hK K
    change wpAny _ _ _ _ _ _ (grF b s (.pointer (some ⟨b, 1, none⟩)) (.pointer (some ⟨b, 1, none⟩)) (.pointer (some ⟨b, 1, none⟩)) (.pointer (some ⟨b, 1, none⟩)) (.pointer (some ⟨b, 6, none⟩)) (.int .i64 s.hold) undef (.pointer (some ⟨b, 1, none⟩)) (.pointer (some ⟨b, 1, none⟩)) (.pointer (some ⟨b, 7, none⟩)) undef undef undef undef undef undef) _
    refine wpAny_take (i := 6) (v := (.int .i64 (s.hold - 1))) rfl (by kernel_rfl) (by kernel_rfl) (by kernel_rfl) (fun _ _ _ h => h) (Or.inl ⟨by kernel_rfl, ?_⟩) ?_
    · intro w; (try unfold grF); first | (go_simp; done) | (go_simp; with_reducible rfl)
    change wpAny _ _ _ _ _ _ (grF b s (.pointer (some ⟨b, 1, none⟩)) (.pointer (some ⟨b, 1, none⟩)) (.pointer (some ⟨b, 1, none⟩)) (.pointer (some ⟨b, 1, none⟩)) (.pointer (some ⟨b, 6, none⟩)) (.int .i64 s.hold) (.int .i64 (s.hold - 1)) (.pointer (some ⟨b, 1, none⟩)) (.pointer (some ⟨b, 1, none⟩)) (.pointer (some ⟨b, 7, none⟩)) undef undef undef undef undef undef) _
    refine wpAny_ready (rs := [10]) (by kernel_rfl) (by simp) ?_
    refine AllReady.cons rfl (fun K hK => ?_) ?_
    · rw [if_pos (by kernel_rfl)]
      refine wp_load_i 3 (.tmp 29) rfl ⟨b, 7, none⟩ .i64 s.held (by kernel_rfl) (fun _ => by kernel_rfl) g7 ?_
      refine hK _ _ ?_
      clear hK K
      change wpAny _ _ _ _ _ _ (grF b s (.pointer (some ⟨b, 1, none⟩)) (.pointer (some ⟨b, 1, none⟩)) (.pointer (some ⟨b, 1, none⟩)) (.pointer (some ⟨b, 1, none⟩)) (.pointer (some ⟨b, 6, none⟩)) (.int .i64 s.hold) (.int .i64 (s.hold - 1)) (.pointer (some ⟨b, 1, none⟩)) (.pointer (some ⟨b, 1, none⟩)) (.pointer (some ⟨b, 7, none⟩)) (.int .i64 s.held) undef undef undef undef undef) _
      refine wpAny_take (i := 11) (v := (.int .i64 (s.held + 1))) rfl (by kernel_rfl) (by kernel_rfl) (by kernel_rfl) (fun _ _ _ h => h) (Or.inl ⟨by kernel_rfl, ?_⟩) ?_
      · intro w; (try unfold grF); first | (go_simp; done) | (go_simp; with_reducible rfl)
      change wpAny _ _ _ _ _ _ (grF b s (.pointer (some ⟨b, 1, none⟩)) (.pointer (some ⟨b, 1, none⟩)) (.pointer (some ⟨b, 1, none⟩)) (.pointer (some ⟨b, 1, none⟩)) (.pointer (some ⟨b, 6, none⟩)) (.int .i64 s.hold) (.int .i64 (s.hold - 1)) (.pointer (some ⟨b, 1, none⟩)) (.pointer (some ⟨b, 1, none⟩)) (.pointer (some ⟨b, 7, none⟩)) (.int .i64 s.held) (.int .i64 (s.held + 1)) undef undef undef undef) _
      refine wpAny_take (i := 12) (v := (.pointer (some ⟨b, 1, none⟩))) rfl (by kernel_rfl) (by kernel_rfl) (by kernel_rfl) (fun _ _ _ h => h) (Or.inl ⟨by kernel_rfl, ?_⟩) ?_
      · intro w; (try unfold grF); first | (go_simp; done) | (go_simp; with_reducible rfl)
      change wpAny _ _ _ _ _ _ (grF b s (.pointer (some ⟨b, 1, none⟩)) (.pointer (some ⟨b, 1, none⟩)) (.pointer (some ⟨b, 1, none⟩)) (.pointer (some ⟨b, 1, none⟩)) (.pointer (some ⟨b, 6, none⟩)) (.int .i64 s.hold) (.int .i64 (s.hold - 1)) (.pointer (some ⟨b, 1, none⟩)) (.pointer (some ⟨b, 1, none⟩)) (.pointer (some ⟨b, 7, none⟩)) (.int .i64 s.held) (.int .i64 (s.held + 1)) (.pointer (some ⟨b, 1, none⟩)) undef undef undef) _
      refine wpAny_take (i := 13) (v := (.pointer (some ⟨b, 6, none⟩))) rfl (by kernel_rfl) (by kernel_rfl) (by kernel_rfl) (fun _ _ _ h => h) (Or.inl ⟨by kernel_rfl, ?_⟩) ?_
      · intro w; (try unfold grF); first | (go_simp; done) | (go_simp; with_reducible rfl)
      change wpAny _ _ _ _ _ _ (grF b s (.pointer (some ⟨b, 1, none⟩)) (.pointer (some ⟨b, 1, none⟩)) (.pointer (some ⟨b, 1, none⟩)) (.pointer (some ⟨b, 1, none⟩)) (.pointer (some ⟨b, 6, none⟩)) (.int .i64 s.hold) (.int .i64 (s.hold - 1)) (.pointer (some ⟨b, 1, none⟩)) (.pointer (some ⟨b, 1, none⟩)) (.pointer (some ⟨b, 7, none⟩)) (.int .i64 s.held) (.int .i64 (s.held + 1)) (.pointer (some ⟨b, 1, none⟩)) (.pointer (some ⟨b, 6, none⟩)) undef undef) _
      refine wpAny_ready (rs := [14]) (by kernel_rfl) (by simp) ?_
      refine AllReady.cons rfl (fun K hK => ?_) ?_
      · rw [if_pos (by kernel_rfl)]
        refine wp_store_i 3 (.tmp 33) (.tmp 26) rfl ⟨b, 6, none⟩ .i64 (s.hold - 1) (.int .i64 s.hold) (by kernel_rfl) (by kernel_rfl) (by kernel_rfl) g6 k6 ?_
        refine hK _ _ ?_
        clear hK K
        change wpAny _ _ _ _ _ _ (grF b s (.pointer (some ⟨b, 1, none⟩)) (.pointer (some ⟨b, 1, none⟩)) (.pointer (some ⟨b, 1, none⟩)) (.pointer (some ⟨b, 1, none⟩)) (.pointer (some ⟨b, 6, none⟩)) (.int .i64 s.hold) (.int .i64 (s.hold - 1)) (.pointer (some ⟨b, 1, none⟩)) (.pointer (some ⟨b, 1, none⟩)) (.pointer (some ⟨b, 7, none⟩)) (.int .i64 s.held) (.int .i64 (s.held + 1)) (.pointer (some ⟨b, 1, none⟩)) (.pointer (some ⟨b, 6, none⟩)) undef undef) _
        refine wpAny_take (i := 15) (v := (.pointer (some ⟨b, 1, none⟩))) rfl (by kernel_rfl) (by kernel_rfl) (by kernel_rfl) (fun _ _ _ h => h) (Or.inl ⟨by kernel_rfl, ?_⟩) ?_
        · intro w; (try unfold grF); first | (go_simp; done) | (go_simp; with_reducible rfl)
        change wpAny _ _ _ _ _ _ (grF b s (.pointer (some ⟨b, 1, none⟩)) (.pointer (some ⟨b, 1, none⟩)) (.pointer (some ⟨b, 1, none⟩)) (.pointer (some ⟨b, 1, none⟩)) (.pointer (some ⟨b, 6, none⟩)) (.int .i64 s.hold) (.int .i64 (s.hold - 1)) (.pointer (some ⟨b, 1, none⟩)) (.pointer (some ⟨b, 1, none⟩)) (.pointer (some ⟨b, 7, none⟩)) (.int .i64 s.held) (.int .i64 (s.held + 1)) (.pointer (some ⟨b, 1, none⟩)) (.pointer (some ⟨b, 6, none⟩)) (.pointer (some ⟨b, 1, none⟩)) undef) _
        refine wpAny_take (i := 16) (v := (.pointer (some ⟨b, 7, none⟩))) rfl (by kernel_rfl) (by kernel_rfl) (by kernel_rfl) (fun _ _ _ h => h) (Or.inl ⟨by kernel_rfl, ?_⟩) ?_
        · intro w; (try unfold grF); first | (go_simp; done) | (go_simp; with_reducible rfl)
        change wpAny _ _ _ _ _ _ (grF b s (.pointer (some ⟨b, 1, none⟩)) (.pointer (some ⟨b, 1, none⟩)) (.pointer (some ⟨b, 1, none⟩)) (.pointer (some ⟨b, 1, none⟩)) (.pointer (some ⟨b, 6, none⟩)) (.int .i64 s.hold) (.int .i64 (s.hold - 1)) (.pointer (some ⟨b, 1, none⟩)) (.pointer (some ⟨b, 1, none⟩)) (.pointer (some ⟨b, 7, none⟩)) (.int .i64 s.held) (.int .i64 (s.held + 1)) (.pointer (some ⟨b, 1, none⟩)) (.pointer (some ⟨b, 6, none⟩)) (.pointer (some ⟨b, 1, none⟩)) (.pointer (some ⟨b, 7, none⟩))) _
        refine wpAny_ready (rs := [17]) (by kernel_rfl) (by simp) ?_
        refine AllReady.cons rfl (fun K hK => ?_) ?_
        · rw [if_pos (by kernel_rfl)]
          refine wp_store_i 3 (.tmp 35) (.tmp 31) rfl ⟨b, 7, none⟩ .i64 (s.held + 1) (.int .i64 s.held) (by kernel_rfl) (by kernel_rfl) (by kernel_rfl) k8 k7 ?_
          refine hK _ _ ?_
          clear hK K
          change wpAny _ _ _ _ _ _ (grF b s (.pointer (some ⟨b, 1, none⟩)) (.pointer (some ⟨b, 1, none⟩)) (.pointer (some ⟨b, 1, none⟩)) (.pointer (some ⟨b, 1, none⟩)) (.pointer (some ⟨b, 6, none⟩)) (.int .i64 s.hold) (.int .i64 (s.hold - 1)) (.pointer (some ⟨b, 1, none⟩)) (.pointer (some ⟨b, 1, none⟩)) (.pointer (some ⟨b, 7, none⟩)) (.int .i64 s.held) (.int .i64 (s.held + 1)) (.pointer (some ⟨b, 1, none⟩)) (.pointer (some ⟨b, 6, none⟩)) (.pointer (some ⟨b, 1, none⟩)) (.pointer (some ⟨b, 7, none⟩))) _
          refine wpAny_done (by kernel_rfl) ?_ _
          go_wp2
          refine bodyPost_ret (results_none rfl _ _ _) rfl ?_
          exact ⟨rfl, H3.out, ((HW.out.setCell (p := ⟨b, 6, none⟩) hb0 _).setCell (p := ⟨b, 7, none⟩) hb0 _).drew⟩
        exact AllReady.nil
      exact AllReady.nil
    exact AllReady.nil
  refine AllReady.cons rfl (fun K hK => ?_) ?_
  · rw [if_pos (by kernel_rfl)]
    refine wp_load_i 3 (.tmp 29) rfl ⟨b, 7, none⟩ .i64 s.held (by kernel_rfl) (fun _ => by kernel_rfl) g7 ?_
    refine hK _ _ ?_
    clear hK K
    change wpAny _ _ _ _ _ _ (grF b s (.pointer (some ⟨b, 1, none⟩)) (.pointer (some ⟨b, 1, none⟩)) (.pointer (some ⟨b, 1, none⟩)) (.pointer (some ⟨b, 1, none⟩)) (.pointer (some ⟨b, 6, none⟩)) undef undef (.pointer (some ⟨b, 1, none⟩)) (.pointer (some ⟨b, 1, none⟩)) (.pointer (some ⟨b, 7, none⟩)) (.int .i64 s.held) undef undef undef undef undef) _
    refine wpAny_take (i := 11) (v := (.int .i64 (s.held + 1))) rfl (by kernel_rfl) (by kernel_rfl) (by kernel_rfl) (fun _ _ _ h => h) (Or.inl ⟨by kernel_rfl, ?_⟩) ?_
    · intro w; (try unfold grF); first | (go_simp; done) | (go_simp; with_reducible rfl)
    change wpAny _ _ _ _ _ _ (grF b s (.pointer (some ⟨b, 1, none⟩)) (.pointer (some ⟨b, 1, none⟩)) (.pointer (some ⟨b, 1, none⟩)) (.pointer (some ⟨b, 1, none⟩)) (.pointer (some ⟨b, 6, none⟩)) undef undef (.pointer (some ⟨b, 1, none⟩)) (.pointer (some ⟨b, 1, none⟩)) (.pointer (some ⟨b, 7, none⟩)) (.int .i64 s.held) (.int .i64 (s.held + 1)) undef undef undef undef) _
    refine wpAny_ready (rs := [5]) (by kernel_rfl) (by simp) ?_
    refine AllReady.cons rfl (fun K hK => ?_) ?_
    · rw [if_pos (by kernel_rfl)]
      refine wp_load_i 3 (.tmp 24) rfl ⟨b, 6, none⟩ .i64 s.hold (by kernel_rfl) (fun _ => by kernel_rfl) g6 ?_
      refine hK _ _ ?_
      clear hK K
      change wpAny _ _ _ _ _ _ (grF b s (.pointer (some ⟨b, 1, none⟩)) (.pointer (some ⟨b, 1, none⟩)) (.pointer (some ⟨b, 1, none⟩)) (.pointer (some ⟨b, 1, none⟩)) (.pointer (some ⟨b, 6, none⟩)) (.int .i64 s.hold) undef (.pointer (some ⟨b, 1, none⟩)) (.pointer (some ⟨b, 1, none⟩)) (.pointer (some ⟨b, 7, none⟩)) (.int .i64 s.held) (.int .i64 (s.held + 1)) undef undef undef undef) _
      refine wpAny_take (i := 6) (v := (.int .i64 (s.hold - 1))) rfl (by kernel_rfl) (by kernel_rfl) (by kernel_rfl) (fun _ _ _ h => h) (Or.inl ⟨by kernel_rfl, ?_⟩) ?_
      · intro w; (try unfold grF); first | (go_simp; done) | (go_simp; with_reducible rfl)
      change wpAny _ _ _ _ _ _ (grF b s (.pointer (some ⟨b, 1, none⟩)) (.pointer (some ⟨b, 1, none⟩)) (.pointer (some ⟨b, 1, none⟩)) (.pointer (some ⟨b, 1, none⟩)) (.pointer (some ⟨b, 6, none⟩)) (.int .i64 s.hold) (.int .i64 (s.hold - 1)) (.pointer (some ⟨b, 1, none⟩)) (.pointer (some ⟨b, 1, none⟩)) (.pointer (some ⟨b, 7, none⟩)) (.int .i64 s.held) (.int .i64 (s.held + 1)) undef undef undef undef) _
      refine wpAny_take (i := 12) (v := (.pointer (some ⟨b, 1, none⟩))) rfl (by kernel_rfl) (by kernel_rfl) (by kernel_rfl) (fun _ _ _ h => h) (Or.inl ⟨by kernel_rfl, ?_⟩) ?_
      · intro w; (try unfold grF); first | (go_simp; done) | (go_simp; with_reducible rfl)
      change wpAny _ _ _ _ _ _ (grF b s (.pointer (some ⟨b, 1, none⟩)) (.pointer (some ⟨b, 1, none⟩)) (.pointer (some ⟨b, 1, none⟩)) (.pointer (some ⟨b, 1, none⟩)) (.pointer (some ⟨b, 6, none⟩)) (.int .i64 s.hold) (.int .i64 (s.hold - 1)) (.pointer (some ⟨b, 1, none⟩)) (.pointer (some ⟨b, 1, none⟩)) (.pointer (some ⟨b, 7, none⟩)) (.int .i64 s.held) (.int .i64 (s.held + 1)) (.pointer (some ⟨b, 1, none⟩)) undef undef undef) _
      refine wpAny_take (i := 13) (v := (.pointer (some ⟨b, 6, none⟩))) rfl (by kernel_rfl) (by kernel_rfl) (by kernel_rfl) (fun _ _ _ h => h) (Or.inl ⟨by kernel_rfl, ?_⟩) ?_
      · intro w; (try unfold grF); first | (go_simp; done) | (go_simp; with_reducible rfl)
      change wpAny _ _ _ _ _ _ (grF b s (.pointer (some ⟨b, 1, none⟩)) (.pointer (some ⟨b, 1, none⟩)) (.pointer (some ⟨b, 1, none⟩)) (.pointer (some ⟨b, 1, none⟩)) (.pointer (some ⟨b, 6, none⟩)) (.int .i64 s.hold) (.int .i64 (s.hold - 1)) (.pointer (some ⟨b, 1, none⟩)) (.pointer (some ⟨b, 1, none⟩)) (.pointer (some ⟨b, 7, none⟩)) (.int .i64 s.held) (.int .i64 (s.held + 1)) (.pointer (some ⟨b, 1, none⟩)) (.pointer (some ⟨b, 6, none⟩)) undef undef) _
      refine wpAny_ready (rs := [14]) (by kernel_rfl) (by simp) ?_
      refine AllReady.cons rfl (fun K hK => ?_) ?_
      · rw [if_pos (by kernel_rfl)]
        refine wp_store_i 3 (.tmp 33) (.tmp 26) rfl ⟨b, 6, none⟩ .i64 (s.hold - 1) (.int .i64 s.hold) (by kernel_rfl) (by kernel_rfl) (by kernel_rfl) g6 k6 ?_
        refine hK _ _ ?_
        clear hK K
        change wpAny _ _ _ _ _ _ (grF b s (.pointer (some ⟨b, 1, none⟩)) (.pointer (some ⟨b, 1, none⟩)) (.pointer (some ⟨b, 1, none⟩)) (.pointer (some ⟨b, 1, none⟩)) (.pointer (some ⟨b, 6, none⟩)) (.int .i64 s.hold) (.int .i64 (s.hold - 1)) (.pointer (some ⟨b, 1, none⟩)) (.pointer (some ⟨b, 1, none⟩)) (.pointer (some ⟨b, 7, none⟩)) (.int .i64 s.held) (.int .i64 (s.held + 1)) (.pointer (some ⟨b, 1, none⟩)) (.pointer (some ⟨b, 6, none⟩)) undef undef) _
        refine wpAny_take (i := 15) (v := (.pointer (some ⟨b, 1, none⟩))) rfl (by kernel_rfl) (by kernel_rfl) (by kernel_rfl) (fun _ _ _ h => h) (Or.inl ⟨by kernel_rfl, ?_⟩) ?_
        · intro w; (try unfold grF); first | (go_simp; done) | (go_simp; with_reducible rfl)
        change wpAny _ _ _ _ _ _ (grF b s (.pointer (some ⟨b, 1, none⟩)) (.pointer (some ⟨b, 1, none⟩)) (.pointer (some ⟨b, 1, none⟩)) (.pointer (some ⟨b, 1, none⟩)) (.pointer (some ⟨b, 6, none⟩)) (.int .i64 s.hold) (.int .i64 (s.hold - 1)) (.pointer (some ⟨b, 1, none⟩)) (.pointer (some ⟨b, 1, none⟩)) (.pointer (some ⟨b, 7, none⟩)) (.int .i64 s.held) (.int .i64 (s.held + 1)) (.pointer (some ⟨b, 1, none⟩)) (.pointer (some ⟨b, 6, none⟩)) (.pointer (some ⟨b, 1, none⟩)) undef) _
        refine wpAny_take (i := 16) (v := (.pointer (some ⟨b, 7, none⟩))) rfl (by kernel_rfl) (by kernel_rfl) (by kernel_rfl) (fun _ _ _ h => h) (Or.inl ⟨by kernel_rfl, ?_⟩) ?_
        · intro w; (try unfold grF); first | (go_simp; done) | (go_simp; with_reducible rfl)
        change wpAny _ _ _ _ _ _ (grF b s (.pointer (some ⟨b, 1, none⟩)) (.pointer (some ⟨b, 1, none⟩)) (.pointer (some ⟨b, 1, none⟩)) (.pointer (some ⟨b, 1, none⟩)) (.pointer (some ⟨b, 6, none⟩)) (.int .i64 s.hold) (.int .i64 (s.hold - 1)) (.pointer (some ⟨b, 1, none⟩)) (.pointer (some ⟨b, 1, none⟩)) (.pointer (some ⟨b, 7, none⟩)) (.int .i64 s.held) (.int .i64 (s.held + 1)) (.pointer (some ⟨b, 1, none⟩)) (.pointer (some ⟨b, 6, none⟩)) (.pointer (some ⟨b, 1, none⟩)) (.pointer (some ⟨b, 7, none⟩))) _
        refine wpAny_ready (rs := [17]) (by kernel_rfl) (by simp) ?_
        refine AllReady.cons rfl (fun K hK => ?_) ?_
        · rw [if_pos (by kernel_rfl)]
          refine wp_store_i 3 (.tmp 35) (.tmp 31) rfl ⟨b, 7, none⟩ .i64 (s.held + 1) (.int .i64 s.held) (by kernel_rfl) (by kernel_rfl) (by kernel_rfl) k8 k7 ?_
          refine hK _ _ ?_
          clear hK K
          change wpAny _ _ _ _ _ _ (grF b s (.pointer (some ⟨b, 1, none⟩)) (.pointer (some ⟨b, 1, none⟩)) (.pointer (some ⟨b, 1, none⟩)) (.pointer (some ⟨b, 1, none⟩)) (.pointer (some ⟨b, 6, none⟩)) (.int .i64 s.hold) (.int .i64 (s.hold - 1)) (.pointer (some ⟨b, 1, none⟩)) (.pointer (some ⟨b, 1, none⟩)) (.pointer (some ⟨b, 7, none⟩)) (.int .i64 s.held) (.int .i64 (s.held + 1)) (.pointer (some ⟨b, 1, none⟩)) (.pointer (some ⟨b, 6, none⟩)) (.pointer (some ⟨b, 1, none⟩)) (.pointer (some ⟨b, 7, none⟩))) _
          refine wpAny_done (by kernel_rfl) ?_ _
          go_wp2
          refine bodyPost_ret (results_none rfl _ _ _) rfl ?_
          exact ⟨rfl, H3.out, ((HW.out.setCell (p := ⟨b, 6, none⟩) hb0 _).setCell (p := ⟨b, 7, none⟩) hb0 _).drew⟩
        exact AllReady.nil
      exact AllReady.nil
    exact AllReady.nil
  exact AllReady.nil
set_option maxHeartbeats 2000000 in
set_option maxRecDepth 100000 in
theorem boxPlan_at (b : Nat) (ad : Addr) (c : Nat) (l : List S39) (s : Sg) (W : World) (A0 : Option Addr) (n0 c0 : Nat) (A1 : Option Addr) (n1 c1 : Nat) (x2 x3 x4 : Int) (hB : BoxAt b (some ad) c l s W) (hmx : l.length ≤ 9223372036854775807) (hp : 0 ≤ s.plan ∧ s.plan < (l.length : Int))
    (gx0 : W.cell? (ad.add (s.plan.toNat * 5)) = some (.slice A0 n0 c0)) (gx1 : W.cell? ⟨(ad.add (s.plan.toNat * 5)).block, (ad.add (s.plan.toNat * 5)).off + 1, none⟩ = some (.slice A1 n1 c1)) (gx2 : W.cell? ⟨(ad.add (s.plan.toNat * 5)).block, (ad.add (s.plan.toNat * 5)).off + 2, none⟩ = some (.int .i64 x2)) (gx3 : W.cell? ⟨(ad.add (s.plan.toNat * 5)).block, (ad.add (s.plan.toNat * 5)).off + 3, none⟩ = some (.int .i64 x3)) (gx4 : W.cell? ⟨(ad.add (s.plan.toNat * 5)).block, (ad.add (s.plan.toNat * 5)).off + 4, none⟩ = some (.int .i64 x4)) :
    Calls Tryd.prog 68 #[.pointer (some ⟨b, 0, none⟩)] W fun e W' => e = .returned (.agg #[.slice A0 n0 c0, .slice A1 n1 c1, .int .i64 x2, .int .i64 x3, .int .i64 x4]) ∧ Below W.heap.size W W' := by
  have hu39 := Tryd.underlying39
  have hu62 := Tryd.underlying62
  have hu24 := Tryd.underlying24
  have hlt : b < W.heap.size := (Array.getElem?_eq_some_iff.1 hB).1
  have hbel : Below W.heap.size W (W.alloc (.cells #[.slice none 0 0, .slice none 0 0, .int .i64 0, .int .i64 0, .int .i64 0] 39)) := (Below.refl _ W).alloc (Nat.le_refl _) _
  have hbd := hbel.drew
  have lift : ∀ {p : Addr} {v : Value}, W.cell? p = some v → (W.alloc (.cells #[.slice none 0 0, .slice none 0 0, .int .i64 0, .int .i64 0, .int .i64 0] 39)).drew.cell? p = some v := fun {p v} h => (hbd.cell (World.block_lt_of_cell? W p h)).trans h
  have hx0 := lift gx0
  have hx1 := lift gx1
  have hx2 := lift gx2
  have hx3 := lift gx3
  have hx4 := lift gx4
  have hcell := fun j => BoxAt.cell (W := (W.alloc (.cells #[.slice none 0 0, .slice none 0 0, .int .i64 0, .int .i64 0, .int .i64 0] 39)).drew) (hB.below hbd) j
  have b0 := hcell 0
  have b1 := hcell 1
  simp only [boxCells] at b0 b1
  clear hcell hbel lift gx0 gx1 gx2 gx3 gx4 hbd
  go_enter Tryd.func68, Tryd.ntmps68
  go_wp2
  go_region
  go_wp2
  have hbel2 : Below W.heap.size W (W.alloc (.cells #[.slice A0 n0 c0, .slice A1 n1 c1, .int .i64 x2, .int .i64 x3, .int .i64 x4] 39)).drew := ((Below.refl _ W).alloc (Nat.le_refl _) _).drew
  refine bodyPost_ret (results_cell_row rfl _ _ W.heap.size 39 #[.slice A0 n0 c0, .slice A1 n1 c1, .int .i64 x2, .int .i64 x3, .int .i64 x4] (0, 0) _ rfl (heap_alloc_new W _) Tryd.underlying39 rfl (by kernel_rfl)) rfl ?_
  exact ⟨rfl, hbel2⟩
/-- What the machine's box stands in: the plans lie below, the box is its own. -/
structure GrAt (b : Nat) (A : Option Addr) (c : Nat) (l : List S39) (s : Sg) (w0 W : World) : Prop where
  box : BoxAt b A c l s W
  bel : Below w0.heap.size w0 W
/-- The stage's block, too. -/
def StAt (g : Nat) (x : S41) (W : World) : Prop := W.heap[g]? = some (.cells #[.int .i64 x.f0, .int .i64 x.f1, .int .i64 x.f2] 41 (0, 0))
def GrSt (b : Nat) (A : Option Addr) (c : Nat) (l : List S39) (s : Sg) (w0 : World) (x : S41) (v : Value) (W : World) : Prop := ∃ g, v = .pointer (some ⟨g, 0, none⟩) ∧ g ≠ b ∧ StAt g x W ∧ GrAt b A c l s w0 W
theorem zcell {w : World} {b : Nat} {cs : Array Value} {T : TypeId} (hb : w.heap[b]? = some (.cells cs T (0, 0))) (j : Nat) : w.cell? ⟨b, j, none⟩ = cs[j]? := by simp [World.cell?, hb]
theorem zfrozen {w : World} {b : Nat} {cs : Array Value} {T : TypeId} (hb : w.heap[b]? = some (.cells cs T (0, 0))) (j : Nat) : w.frozen? ⟨b, j, none⟩ = false := by simp [World.frozen?, hb]
/-- Is it asked for something? -/
def grAsked (s : Sg) : Bool := s.stop || decide (s.ask ≠ -1) || decide (s.want ≠ -1)
/-- Does it stay green? -/
def grStay (st : S41) (s : Sg) : Bool := decide (wrap64 (s.t + 1) < st.f1) || (!(grAsked s) && decide (wrap64 (s.t + 1) < st.f2))
def grNext (p : S39) (s : Sg) : Int := if s.ask = -1 then Int.tmod (s.stage + 1) (p.f1.length : Int) else s.ask
theorem greenB_stay {p : S39} {s : Sg} {st : S41} (hh : s.hold ≤ 0) (hst : rd_T41 p.f1 s.stage = st) (h : grStay st s = true) : stage_greenB.f p s = { s with t := wrap64 (s.t + 1) } := by
  subst hst
  unfold grStay grAsked at h
  unfold stage_greenB.f
  rw [if_neg (by omega), if_pos h]
theorem greenB_go {p : S39} {s : Sg} {st : S41} (hh : s.hold ≤ 0) (hst : rd_T41 p.f1 s.stage = st) (h : grStay st s = false) : stage_greenB.f p s = { s with t := 0, next := grNext p s, phase := 1, held := 0, ask := -1 } := by
  subst hst
  unfold grStay grAsked at h
  unfold stage_greenB.f
  rw [if_neg (by omega), if_neg (by rw [h]; simp)]
  rfl
theorem grNext_cells {b : Nat} {A : Option Addr} {c : Nat} {l : List S39} {s : Sg} {w : World} (h : BoxAt b A c l s w) :
    w.cell? ⟨b, 8, none⟩ = some (.int .i64 s.ask) ∧ w.cell? ⟨b, 3, none⟩ = some (.int .i64 s.next) ∧ w.frozen? ⟨b, 3, none⟩ = false ∧ (w.setCell ⟨b, 3, none⟩ (.int .i64 s.ask)).cell? ⟨b, 8, none⟩ = some (.int .i64 s.ask) ∧ BoxAt b A c l { s with next := s.ask } (w.setCell ⟨b, 3, none⟩ (.int .i64 s.ask)) := by
  have h2 := h.set (s' := { s with next := s.ask }) 3 (.int .i64 s.ask) rfl
  exact ⟨h.cell 8, h.cell 3, h.frozen 3, h2.cell 8, h2⟩
theorem grEnd_cells {b : Nat} {A : Option Addr} {c : Nat} {l : List S39} {s : Sg} {w : World} (h : BoxAt b A c l s w) :
    w.cell? ⟨b, 4, none⟩ = some (.int .i64 s.phase) ∧ w.frozen? ⟨b, 4, none⟩ = false ∧
    (w.setCell ⟨b, 4, none⟩ (.int .i64 1)).cell? ⟨b, 5, none⟩ = some (.int .i64 s.t) ∧ (w.setCell ⟨b, 4, none⟩ (.int .i64 1)).frozen? ⟨b, 5, none⟩ = false ∧
    ((w.setCell ⟨b, 4, none⟩ (.int .i64 1)).setCell ⟨b, 5, none⟩ (.int .i64 0)).cell? ⟨b, 7, none⟩ = some (.int .i64 s.held) ∧ ((w.setCell ⟨b, 4, none⟩ (.int .i64 1)).setCell ⟨b, 5, none⟩ (.int .i64 0)).frozen? ⟨b, 7, none⟩ = false ∧
    (((w.setCell ⟨b, 4, none⟩ (.int .i64 1)).setCell ⟨b, 5, none⟩ (.int .i64 0)).setCell ⟨b, 7, none⟩ (.int .i64 0)).cell? ⟨b, 8, none⟩ = some (.int .i64 s.ask) ∧ (((w.setCell ⟨b, 4, none⟩ (.int .i64 1)).setCell ⟨b, 5, none⟩ (.int .i64 0)).setCell ⟨b, 7, none⟩ (.int .i64 0)).frozen? ⟨b, 8, none⟩ = false ∧
    BoxAt b A c l { s with phase := 1, t := 0, held := 0, ask := -1 } ((((w.setCell ⟨b, 4, none⟩ (.int .i64 1)).setCell ⟨b, 5, none⟩ (.int .i64 0)).setCell ⟨b, 7, none⟩ (.int .i64 0)).setCell ⟨b, 8, none⟩ (.int .i64 (-1))) := by
  have h2 := h.set (s' := { s with phase := 1 }) 4 (.int .i64 1) rfl
  have h3 := h2.set (s' := { s with phase := 1, t := 0 }) 5 (.int .i64 0) rfl
  have h4 := h3.set (s' := { s with phase := 1, t := 0, held := 0 }) 7 (.int .i64 0) rfl
  have h5 := h4.set (s' := { s with phase := 1, t := 0, held := 0, ask := -1 }) 8 (.int .i64 (-1)) rfl
  exact ⟨h.cell 4, h.frozen 4, h2.cell 5, h2.frozen 5, h3.cell 7, h3.frozen 7, h4.cell 8, h4.frozen 8, h5⟩
set_option maxHeartbeats 8000000 in
set_option maxRecDepth 100000 in
theorem boxGreen_go (b : Nat) (A : Option Addr) (c : Nat) (l : List S39) (s : Sg) (w0 W : World) (hw : Below w0.heap.size w0 W) (hb0 : w0.heap.size ≤ b) (hB : BoxAt b A c l s W) (hC : Kd.C k39 w0 A l.length l) (hG : GlobOk w0) (hp : 0 ≤ s.plan ∧ s.plan < (l.length : Int)) (hs : 0 ≤ s.stage ∧ s.stage < ((rd_T39 l s.plan).f1.length : Int)) (hh : s.hold = 0) (hN : Ev (fun n => plan_Next.f n (rd_T39 l s.plan).f0 (rd_T39 l s.plan).f1 (rd_T39 l s.plan).f2 (rd_T39 l s.plan).f3 (rd_T39 l s.plan).f4 s.stage) (Int.tmod (s.stage + 1) ((rd_T39 l s.plan).f1.length : Int))) :
    Calls Tryd.prog 46 #[.pointer (some ⟨b, 0, none⟩)] W fun e W' => e = .returned (.tuple #[]) ∧ BoxAt b A c l (stage_greenB.f (rd_T39 l s.plan) s) W' ∧ Below w0.heap.size w0 W' := by
  have hu62 := Tryd.underlying62
  have hu24 := Tryd.underlying24
  have hu39 := Tryd.underlying39
  have hu41 := Tryd.underlying41
  have pf1 : ∀ (w : World) (v0 v1 v2 v3 v4 : Value), (Instr.field 39 (.agg #[v0, v1, v2, v3, v4]) 1).run Tryd.prog w = .ok v1 w := fun w v0 v1 v2 v3 v4 => (planField w v0 v1 v2 v3 v4).1
  have hmx := Kd.C_max hC
  obtain ⟨ad, A0, c0, A1, c1, eA, gx0, gx1, gx2, gx3, gx4, hl0, hi0, hl1, hi1⟩ := at_T39 hC s.plan hp.1 hp.2
  subst eA
  obtain ⟨sd, eA, gy0, gy1, gy2⟩ := at_T41 hi1 s.stage hs.1 hs.2
  subst eA
  have hmx1 := Kd.C_max hi1
  have e5 := hB.cell 5
  have f5 := hB.frozen 5
  simp only [boxCells] at e5
  have h1 := hB.set (s' := { s with t := wrap64 (s.t + 1) }) 5 (.int .i64 (wrap64 (s.t + 1))) rfl
  have e6 := h1.cell 6
  simp only [boxCells] at e6
  have hlt := (Array.getElem?_eq_some_iff.1 h1).1
  have HA := Lib.hid (GrAt.mk h1 (hw.setCell (p := ⟨b, 5, none⟩) hb0 (.int .i64 (wrap64 (s.t + 1)))))
  have HS := Lib.hid (fun (p : Addr) (v : Value) (h : w0.cell? p = some v) (X : World) (hX : Below w0.heap.size w0 X) => (hX.cell (World.block_lt_of_cell? w0 p h)).trans h)
  have HP := Lib.hid (fun (s' : Sg) (X : World) (hX : BoxAt b (some ad) c l s' X) (hb : Below w0.heap.size w0 X) (hs' : s'.plan = s.plan) => boxPlan_at b ad c l s' X A0 _ c0 (some sd) _ c1 _ _ _ hX (by omega) (by rw [hs']; exact hp) (by rw [hs']; exact HS.out _ _ gx0 X hb) (by rw [hs']; exact HS.out _ _ gx1 X hb) (by rw [hs']; exact HS.out _ _ gx2 X hb) (by rw [hs']; exact HS.out _ _ gx3 X hb) (by rw [hs']; exact HS.out _ _ gx4 X hb))
  obtain ⟨K, hK⟩ := hN.rounds
  have HN := Lib.hid (fun (X : World) (hb : Below w0.heap.size w0 X) => plan_Next.calls K A0 c0 _ (some sd) c1 _ _ _ _ s.stage _ X (Kd.C_below hi0 hb) hl0 (Kd.C_below hi1 hb) hl1 (hG.below hb) hK)
  clear hK hN hl0 hl1
  have HY := Lib.hid (fun (X : World) (hb : Below w0.heap.size w0 X) => And.intro (HS.out _ _ gy0 X hb) (And.intro (HS.out _ _ gy1 X hb) (HS.out _ _ gy2 X hb)))
  have HI0 := Lib.hid hi0
  have HI1 := Lib.hid hi1
  clear hB h1 hw hC gx0 gx1 gx2 gx3 gx4 gy0 gy1 gy2 hi0 hi1 HS
  generalize hst : rd_T41 (rd_T39 l s.plan).f1 s.stage = st at HY
  have HST := Lib.hid hst
  clear hst
  obtain ⟨hs1, hs2⟩ := hs
  obtain ⟨hp1, hp2⟩ := hp
  have HPP := Lib.hid (And.intro hp1 hp2)
  clear hp1 hp2
  go_enter Tryd.func46, Tryd.ntmps46
  go_upto_region 4 with fail
  clear e5 f5 e6
  generalize W.setCell ⟨b, 5, none⟩ (.int .i64 (wrap64 (s.t + 1))) = wA at HA hlt ⊢
  go_cut [3] from 36 to 44 (fun v wx => GrSt b (some ad) c l { s with t := wrap64 (s.t + 1) } w0 st v wx)
  case first =>
    have e2 := HA.out.box.cell 2
    simp only [boxCells] at e2
    obtain ⟨y0, y1, y2⟩ := HY.out wA HA.out.bel
    have hlt0 := HA.out.bel.size
    have HA1 := Lib.hid (GrAt.mk (W := wA.drew) HA.out.box HA.out.bel.drew)
    have HA2 := Lib.hid (GrAt.mk (W := (wA.alloc (.cells #[.int .i64 0, .int .i64 0, .int .i64 0] 41)).drew) (HA.out.box.below (((Below.refl wA.heap.size wA).alloc (Nat.le_refl _) _).drew)) (HA.out.bel.alloc HA.out.bel.size _).drew)
    go_region_held3 (fun w' => w'.cell? ⟨b, 2, none⟩ = some (.int .i64 s.stage) ∧ w'.cell? (sd.add (s.stage.toNat * 3)) = some (.int .i64 st.f0) ∧ w'.cell? ⟨(sd.add (s.stage.toNat * 3)).block, (sd.add (s.stage.toNat * 3)).off + 1, none⟩ = some (.int .i64 st.f1) ∧ w'.cell? ⟨(sd.add (s.stage.toNat * 3)).block, (sd.add (s.stage.toNat * 3)).off + 2, none⟩ = some (.int .i64 st.f2))
      (first | go_keep | exact ⟨k2, z0, z1, z2⟩ | exact ⟨m2, m3, m4, m5⟩)
      (first | (go_at_call 68; (with_reducible refine (HP.out _ _ HA1.out.box HA1.out.bel rfl).mono ?_); rintro e w2 ⟨rfl, hb⟩; have H2 := Lib.hid (GrAt.mk (HA1.out.box.below hb) (HA1.out.bel.trans (hb.mono HA1.out.bel.size))); have k2 := H2.out.box.cell 2; simp only [boxCells] at k2; obtain ⟨z0, z1, z2⟩ := HY.out w2 H2.out.bel; have HB2 := Lib.hid hb; clear hb) | (go_at_call 68; (with_reducible refine (HP.out _ _ HA2.out.box HA2.out.bel rfl).mono ?_); rintro e w2 ⟨rfl, hb⟩; have H2 := Lib.hid (GrAt.mk (HA2.out.box.below hb) (HA2.out.bel.trans (hb.mono HA2.out.bel.size))); have k2 := H2.out.box.cell 2; simp only [boxCells] at k2; obtain ⟨z0, z1, z2⟩ := HY.out w2 H2.out.bel; have hgb := (hb.block wA.heap.size (by simp)).trans (heap_alloc_new wA (.cells #[.int .i64 0, .int .i64 0, .int .i64 0] 41)); have q0 := zcell hgb 0; have q1 := zcell hgb 1; have q2 := zcell hgb 2; have r0 := zfrozen hgb 0; have r1 := zfrozen hgb 1; have r2 := zfrozen hgb 2; have hA3 : Below wA.heap.size wA (((w2.setCell ⟨wA.heap.size, 0, none⟩ (.int .i64 st.f0)).setCell ⟨wA.heap.size, 1, none⟩ (.int .i64 st.f1)).setCell ⟨wA.heap.size, 2, none⟩ (.int .i64 st.f2)) := ((((((Below.refl wA.heap.size wA).alloc (Nat.le_refl _) (.cells #[.int .i64 0, .int .i64 0, .int .i64 0] 41)).drew).trans (hb.mono (by simp))).setCell (p := ⟨wA.heap.size, 0, none⟩) (Nat.le_refl _) _).setCell (p := ⟨wA.heap.size, 1, none⟩) (Nat.le_refl _) _).setCell (p := ⟨wA.heap.size, 2, none⟩) (Nat.le_refl _) _; have H3 := Lib.hid (GrAt.mk (HA.out.box.below hA3) (HA.out.bel.trans (hA3.mono hlt0))); have m2 := H3.out.box.cell 2; simp only [boxCells] at m2; obtain ⟨m3, m4, m5⟩ := HY.out _ H3.out.bel; have HGB := Lib.hid (show StAt wA.heap.size st (((w2.setCell ⟨wA.heap.size, 0, none⟩ (.int .i64 st.f0)).setCell ⟨wA.heap.size, 1, none⟩ (.int .i64 st.f1)).setCell ⟨wA.heap.size, 2, none⟩ (.int .i64 st.f2)) from by unfold StAt; simp [World.setCell, Array.getElem?_modify, hgb]); clear hgb hA3; have HB2 := Lib.hid hb; clear hb))
    all_goals
      go_wp2_with fail
      go_meet
      have hlt2 : b < w2.heap.size := (Array.getElem?_eq_some_iff.1 H2.out.box).1
      first
        | exact ⟨_, rfl, by omega, heap_alloc_new w2 _, ⟨H2.out.box.below ((Below.refl _ w2).alloc (Nat.le_refl _) _), H2.out.bel.alloc H2.out.bel.size _⟩⟩
        | exact ⟨_, rfl, by omega, HGB.out, H3.out⟩
  case rest =>
    obtain ⟨g, rfl, hgb, hst, hga⟩ := hcut
    have HGA := Lib.hid hga
    have HSA := Lib.hid hst
    have e10 := hga.box.cell 10
    have e9 := hga.box.cell 9
    have e8 := hga.box.cell 8
    simp only [boxCells] at e10 e9 e8
    clear hst hga HA
    go_upto_region 5 with fail
    go_cut [4] from 45 to 62 (fun v wx => v = .bool (grAsked s) ∧ wx = wc)
    case first =>
      clear hgb
      cases hsp : s.stop with
      | true =>
        have hk : grAsked s = true := by unfold grAsked; rw [hsp]; rfl
        have HK := Lib.hid hk
        clear hk
        go_wp2_with fail
        go_meet
        exact ⟨by simp [HK.out], rfl⟩
      | false =>
        by_cases ha : s.ask = -1
        · by_cases hw : s.want = -1
          · have hk : grAsked s = false := by unfold grAsked; rw [hsp, ha, hw]; rfl
            have HK := Lib.hid hk
            clear hk
            go_wp2_with fail
            go_meet
            exact ⟨by simp [HK.out], rfl⟩
          · have hk : grAsked s = true := by unfold grAsked; rw [hsp, ha]; simp [hw]
            have HK := Lib.hid hk
            clear hk
            go_wp2_with fail
            go_meet
            exact ⟨by simp [HK.out, hw], rfl⟩
        · have hk : grAsked s = true := by unfold grAsked; rw [hsp]; simp [ha]
          have HK := Lib.hid hk
          clear hk
          go_wp2_with fail
          go_meet
          exact ⟨by simp [HK.out, ha], rfl⟩
    case rest =>
      obtain ⟨rfl, hwc⟩ := hcut
      subst hwc
      go_upto_region 6 with fail
      clear e10 e9 e8
      go_cut [82] from 63 to 82 (fun v wx => v = .bool (grStay st s) ∧ StAt g st wx ∧ GrAt b (some ad) c l { s with t := wrap64 (s.t + 1) } w0 wx)
      case first =>
        have e5 := HGA.out.box.cell 5
        simp only [boxCells] at e5
        have q1 := zcell HSA.out 1
        have q2 := zcell HSA.out 2
        have HX := Lib.hid (show grStay st s = (decide (wrap64 (s.t + 1) < st.f1) || (!(grAsked s) && decide (wrap64 (s.t + 1) < st.f2))) from rfl)
        generalize grAsked s = ab at *
        generalize wrap64 (s.t + 1) = t1 at *
        by_cases h1 : t1 < st.f1
        · have hd : decide (t1 < st.f1) = true := decide_eq_true h1
          go_quiet (fail)
          go_wp2_with fail
          go_meet
          exact ⟨by rw [HX.out]; simp [h1], HSA.out, HGA.out.box, pw_below_drewN HGA.out.bel _⟩
        · have hd : decide (t1 < st.f1) = false := decide_eq_false h1
          cases ab with
          | true =>
            go_quiet (fail)
            go_wp2_with fail
            go_meet
            exact ⟨by rw [HX.out]; simp [h1], HSA.out, HGA.out.box, pw_below_drewN HGA.out.bel _⟩
          | false =>
            by_cases h2 : t1 < st.f2
            · have hd2 : decide (t1 < st.f2) = true := decide_eq_true h2
              go_quiet (fail)
              go_wp2_with fail
              go_meet
              exact ⟨by rw [HX.out]; simp [h1, h2], HSA.out, HGA.out.box, pw_below_drewN HGA.out.bel _⟩
            · have hd2 : decide (t1 < st.f2) = false := decide_eq_false h2
              go_quiet (fail)
              go_wp2_with fail
              go_meet
              exact ⟨by rw [HX.out]; simp [h1, h2], HSA.out, HGA.out.box, pw_below_drewN HGA.out.bel _⟩
      case rest =>
        obtain ⟨rfl, hst, hga⟩ := hcut
        have HGB := Lib.hid hga
        clear hst hga HGA HSA hgb
        cases hcond : grStay st s with
        | true =>
          have HF := Lib.hid (greenB_stay (by omega) HST.out hcond)
          go_wp2
          refine bodyPost_ret (results_none rfl _ _ _) rfl ?_
          rw [HF.out]
          exact ⟨rfl, HGB.out.box, HGB.out.bel⟩
        | false =>
          have hF := greenB_go (by omega) HST.out hcond
          obtain ⟨e8, e3, k3, m8, h3⟩ := grNext_cells HGB.out.box
          by_cases ha : s.ask = -1
          · have hn : grNext (rd_T39 l s.plan) s = Int.tmod (s.stage + 1) ((rd_T39 l s.plan).f1.length : Int) := by unfold grNext; rw [if_pos ha]
            rw [hn] at hF
            have HF := Lib.hid hF
            have HGC := Lib.hid (GrAt.mk (HGB.out.box.set (s' := { s with t := wrap64 (s.t + 1), next := -1 }) 3 (.int .i64 (-1)) rfl) (HGB.out.bel.setCell (p := ⟨b, 3, none⟩) hb0 (.int .i64 (-1))))
            clear hn h3 hF
            go_upto_region 9 with fail
            clear e8 e3 k3 m8
            generalize wc.setCell ⟨b, 3, none⟩ (.int .i64 (-1)) = wB at HGC ⊢
            generalize Int.tmod (s.stage + 1) ((rd_T39 l s.plan).f1.length : Int) = nx at HN HF
            go_cut [] from 95 to 104 (fun wx => GrAt b (some ad) c l { s with t := wrap64 (s.t + 1), next := nx } w0 wx)
            case first =>
              have e2 := HGC.out.box.cell 2
              simp only [boxCells] at e2
              have HG1 := Lib.hid (GrAt.mk (W := wB.drew) HGC.out.box HGC.out.bel.drew)
              go_region_held3 (fun w' => w'.cell? ⟨b, 2, none⟩ = some (.int .i64 s.stage))
                (first | go_keep | exact k2 | exact k4 | exact k6)
                (first | (go_at_call 68; (with_reducible refine (HP.out _ _ HG1.out.box HG1.out.bel rfl).mono ?_); rintro e w2 ⟨rfl, hb⟩; have H2 := Lib.hid (GrAt.mk (HG1.out.box.below hb) (HG1.out.bel.trans (hb.mono HG1.out.bel.size))); have k2 := H2.out.box.cell 2; simp only [boxCells] at k2; clear hb) | (go_at_call 69; (with_reducible refine (HN.out _ H2.out.bel).mono ?_); rintro e w3 ⟨rfl, hb⟩; have H3 := Lib.hid (GrAt.mk (H2.out.box.below hb) (H2.out.bel.trans (hb.mono H2.out.bel.size))); have k4 := H3.out.box.cell 2; have k5 := H3.out.box.cell 3; simp only [boxCells] at k4 k5; have f5 := H3.out.box.frozen 3; have h6 := H3.out.box.set (s' := { s with t := wrap64 (s.t + 1), next := nx }) 3 (.int .i64 nx) rfl; have k6 := h6.cell 2; simp only [boxCells] at k6; have H6 := Lib.hid h6; clear hb h6))
              all_goals
                go_wp2_with fail
                go_meet
                exact ⟨H6.out, H3.out.bel.setCell (p := ⟨b, 3, none⟩) hb0 _⟩
            case rest =>
              have HGD := Lib.hid hcut
              clear hcut HGC HGB
              go_upto_region 10 with fail
              obtain ⟨x0, x1, x2, x3, x4, x5, x6, x7, h4⟩ := grEnd_cells HGD.out.box
              have HE := Lib.hid h4
              clear h4
              go_wp2
              go_end0
              rw [HF.out]
              exact ⟨rfl, HE.out, (((HGD.out.bel.setCell (p := ⟨b, 4, none⟩) hb0 _).setCell (p := ⟨b, 5, none⟩) hb0 _).setCell (p := ⟨b, 7, none⟩) hb0 _).setCell (p := ⟨b, 8, none⟩) hb0 _⟩
          · have hn : grNext (rd_T39 l s.plan) s = s.ask := by unfold grNext; rw [if_neg ha]
            rw [hn] at hF
            have HF := Lib.hid hF
            have HGC := Lib.hid (GrAt.mk h3 (HGB.out.bel.setCell (p := ⟨b, 3, none⟩) hb0 (.int .i64 s.ask)))
            clear hn h3 hF
            go_upto_region 10 with fail
            clear e8 e3 k3 m8
            generalize wc.setCell ⟨b, 3, none⟩ (.int .i64 s.ask) = wB at HGC ⊢
            obtain ⟨x0, x1, x2, x3, x4, x5, x6, x7, h4⟩ := grEnd_cells HGC.out.box
            have HE := Lib.hid h4
            clear h4
            go_wp2
            go_end0
            rw [HF.out]
            exact ⟨rfl, HE.out, (((HGC.out.bel.setCell (p := ⟨b, 4, none⟩) hb0 _).setCell (p := ⟨b, 5, none⟩) hb0 _).setCell (p := ⟨b, 7, none⟩) hb0 _).setCell (p := ⟨b, 8, none⟩) hb0 _⟩
def sgCells (s : Sg) : Array Value := #[.int .i64 s.plan, .int .i64 s.stage, .int .i64 s.next, .int .i64 s.phase, .int .i64 s.t, .int .i64 s.hold, .int .i64 s.held, .int .i64 s.ask, .int .i64 s.want, .bool s.stop]
def sgZero : Array Value := #[.int .i64 0, .int .i64 0, .int .i64 0, .int .i64 0, .int .i64 0, .int .i64 0, .int .i64 0, .int .i64 0, .int .i64 0, .bool false]
theorem sgCells_of {w : World} {b : Nat} {s : Sg} (h : w.heap[b]? = some (.cells (sgCells s) 24 (0, 0))) :
    w.cell? ⟨b, 0, none⟩ = some (.int .i64 s.plan) ∧ w.cell? ⟨b, 1, none⟩ = some (.int .i64 s.stage) ∧ w.cell? ⟨b, 2, none⟩ = some (.int .i64 s.next) ∧ w.cell? ⟨b, 3, none⟩ = some (.int .i64 s.phase) ∧ w.cell? ⟨b, 4, none⟩ = some (.int .i64 s.t) ∧ w.cell? ⟨b, 5, none⟩ = some (.int .i64 s.hold) ∧ w.cell? ⟨b, 6, none⟩ = some (.int .i64 s.held) ∧ w.cell? ⟨b, 7, none⟩ = some (.int .i64 s.ask) ∧ w.cell? ⟨b, 8, none⟩ = some (.int .i64 s.want) ∧ w.cell? ⟨b, 9, none⟩ = some (.bool s.stop) :=
  ⟨zcell h 0, zcell h 1, zcell h 2, zcell h 3, zcell h 4, zcell h 5, zcell h 6, zcell h 7, zcell h 8, zcell h 9⟩
def sgPut (w : World) (b : Nat) (s : Sg) : World := (((((((((w.setCell ⟨b, 0, none⟩ (.int .i64 s.plan)).setCell ⟨b, 1, none⟩ (.int .i64 s.stage)).setCell ⟨b, 2, none⟩ (.int .i64 s.next)).setCell ⟨b, 3, none⟩ (.int .i64 s.phase)).setCell ⟨b, 4, none⟩ (.int .i64 s.t)).setCell ⟨b, 5, none⟩ (.int .i64 s.hold)).setCell ⟨b, 6, none⟩ (.int .i64 s.held)).setCell ⟨b, 7, none⟩ (.int .i64 s.ask)).setCell ⟨b, 8, none⟩ (.int .i64 s.want)).setCell ⟨b, 9, none⟩ (.bool s.stop)
theorem sgPut_heap {w : World} {b : Nat} {s : Sg} (h : w.heap[b]? = some (.cells sgZero 24 (0, 0))) : (sgPut w b s).heap[b]? = some (.cells (sgCells s) 24 (0, 0)) := by
  unfold sgPut sgCells
  unfold sgZero at h
  simp [World.setCell, Array.getElem?_modify, h]
theorem sgPut_below {n : Nat} {w0 w : World} {b : Nat} {s : Sg} (h : Below n w0 w) (hb : n ≤ b) : Below n w0 (sgPut w b s) := by
  unfold sgPut
  exact (((((((((h.setCell (p := ⟨b, 0, none⟩) hb _).setCell (p := ⟨b, 1, none⟩) hb _).setCell (p := ⟨b, 2, none⟩) hb _).setCell (p := ⟨b, 3, none⟩) hb _).setCell (p := ⟨b, 4, none⟩) hb _).setCell (p := ⟨b, 5, none⟩) hb _).setCell (p := ⟨b, 6, none⟩) hb _).setCell (p := ⟨b, 7, none⟩) hb _).setCell (p := ⟨b, 8, none⟩) hb _).setCell (p := ⟨b, 9, none⟩) hb _
set_option maxHeartbeats 8000000 in
set_option maxRecDepth 100000 in
theorem tick_no (A : Option Addr) (c : Nat) (l : List S39) (s : Sg) (w : World) (hr : Kd.C k39 w A l.length l) (hc : l.length ≤ c) (hG : GlobOk w) (hm : stage_mayB.f l s = false) :
    Calls Tryd.prog 23 #[.slice A l.length c, .agg (sgCells s)] w fun e w' => e = .returned (.agg (sgCells s)) ∧ Below w.heap.size w w' := by
  have hu24 := Tryd.underlying24
  obtain ⟨K, hK⟩ := (may_rounds l s).rounds
  have hB : Below w.heap.size w ((w.alloc (.cells (sgCells s) 24)).alloc (.cells sgZero 24)) := ((Below.refl _ w).alloc (Nat.le_refl _) _).alloc (by simp) _
  have HM := Lib.hid (stage_May.calls K A c l s.plan s.stage s.next s.phase s.t s.hold s.held s.ask s.want s.stop _ _ (Kd.C_below hr hB) hc (hG.below hB) hK)
  have HB := Lib.hid hB
  rw [hm] at HM
  have HC := Lib.hid (fun (w' : World) (hb : Below ((w.alloc (.cells (sgCells s) 24)).alloc (.cells sgZero 24)).heap.size ((w.alloc (.cells (sgCells s) 24)).alloc (.cells sgZero 24)) w') =>
    And.intro (show w'.heap[w.heap.size]? = some (.cells (sgCells s) 24 (0, 0)) from (hb.block w.heap.size (by simp; omega)).trans ((Below.heap_alloc _ _ _ (by simp)).trans (heap_alloc_new w _))) (show w'.heap[w.heap.size + 1]? = some (.cells sgZero 24 (0, 0)) from (hb.block (w.heap.size + 1) (by simp)).trans (by have := heap_alloc_new (w.alloc (.cells (sgCells s) 24)) (.cells sgZero 24); simpa using this)))
  unfold sgCells sgZero at *
  clear hr hG hB hm hK
  go_enter Tryd.func23, Tryd.ntmps23
  go_wp2_with (go_at_call 22; (with_reducible refine HM.out.mono ?_); rintro e w2 ⟨rfl, hb⟩; obtain ⟨hs, hz⟩ := HC.out w2 hb; obtain ⟨x0, x1, x2, x3, x4, x5, x6, x7, x8, x9⟩ := sgCells_of hs; have y0 := zcell hz 0; have y1 := zcell hz 1; have y2 := zcell hz 2; have y3 := zcell hz 3; have y4 := zcell hz 4; have y5 := zcell hz 5; have y6 := zcell hz 6; have y7 := zcell hz 7; have y8 := zcell hz 8; have y9 := zcell hz 9; have z0 := zfrozen hz 0; have z1 := zfrozen hz 1; have z2 := zfrozen hz 2; have z3 := zfrozen hz 3; have z4 := zfrozen hz 4; have z5 := zfrozen hz 5; have z6 := zfrozen hz 6; have z7 := zfrozen hz 7; have z8 := zfrozen hz 8; have z9 := zfrozen hz 9; have HZ := Lib.hid hz; have HB2 := Lib.hid hb; clear hs hz hb)
  change bodyPost _ _ _ _ _ (sgPut w2 (w.heap.size + 1) s)
  refine bodyPost_ret (results_cell_row rfl _ _ (w.heap.size + 1) 24 (sgCells s) (0, 0) _ rfl (sgPut_heap HZ.out) Tryd.underlying24 rfl (by kernel_rfl)) rfl ?_
  exact ⟨rfl, sgPut_below (HB.out.trans (HB2.out.mono (by simp; omega))) (by omega)⟩
theorem boxSg {b : Nat} {A : Option Addr} {c : Nat} {l : List S39} {s : Sg} {w : World} (h : BoxAt b A c l s w) :
    w.cell? ⟨b, 1, none⟩ = some (.int .i64 s.plan) ∧ w.cell? ⟨b, 2, none⟩ = some (.int .i64 s.stage) ∧ w.cell? ⟨b, 3, none⟩ = some (.int .i64 s.next) ∧ w.cell? ⟨b, 4, none⟩ = some (.int .i64 s.phase) ∧ w.cell? ⟨b, 5, none⟩ = some (.int .i64 s.t) ∧ w.cell? ⟨b, 6, none⟩ = some (.int .i64 s.hold) ∧ w.cell? ⟨b, 7, none⟩ = some (.int .i64 s.held) ∧ w.cell? ⟨b, 8, none⟩ = some (.int .i64 s.ask) ∧ w.cell? ⟨b, 9, none⟩ = some (.int .i64 s.want) ∧ w.cell? ⟨b, 10, none⟩ = some (.bool s.stop) :=
  ⟨h.cell 1, h.cell 2, h.cell 3, h.cell 4, h.cell 5, h.cell 6, h.cell 7, h.cell 8, h.cell 9, h.cell 10⟩
set_option maxHeartbeats 8000000 in
set_option maxRecDepth 100000 in
theorem tick_green (A : Option Addr) (c : Nat) (l : List S39) (s s' : Sg) (w : World) (hr : Kd.C k39 w A l.length l) (hc : l.length ≤ c) (hG : GlobOk w) (hm : stage_mayB.f l s = true)
    (hp : s.phase = 0) (hq : ∀ (w3 W : World), Below w.heap.size w w3 → Below w3.heap.size w3 W → BoxAt w3.heap.size A c l s W → Calls Tryd.prog 46 #[.pointer (some ⟨w3.heap.size, 0, none⟩)] W fun e W' => e = .returned (.tuple #[]) ∧ BoxAt w3.heap.size A c l s' W' ∧ Below w3.heap.size w3 W') :
    Calls Tryd.prog 23 #[.slice A l.length c, .agg (sgCells s)] w fun e w' => e = .returned (.agg (sgCells s')) ∧ Below w.heap.size w w' := by
  obtain ⟨pl, st, nx, ph, tt, ho, he, ak, wa, sp⟩ := s
  change ph = 0 at hp
  subst hp
  have hu24 := Tryd.underlying24
  have hu62 := Tryd.underlying62
  obtain ⟨K, hK⟩ := (may_rounds l ⟨pl, st, nx, 0, tt, ho, he, ak, wa, sp⟩).rounds
  have hB : Below w.heap.size w ((w.alloc (.cells (sgCells ⟨pl, st, nx, 0, tt, ho, he, ak, wa, sp⟩) 24)).alloc (.cells sgZero 24)) := ((Below.refl _ w).alloc (Nat.le_refl _) _).alloc (by simp) _
  have HM := Lib.hid (stage_May.calls K A c l pl st nx 0 tt ho he ak wa sp _ _ (Kd.C_below hr hB) hc (hG.below hB) hK)
  have HB := Lib.hid hB
  rw [hm] at HM
  have HC := Lib.hid (fun (w' : World) (hb : Below ((w.alloc (.cells (sgCells ⟨pl, st, nx, 0, tt, ho, he, ak, wa, sp⟩) 24)).alloc (.cells sgZero 24)).heap.size ((w.alloc (.cells (sgCells ⟨pl, st, nx, 0, tt, ho, he, ak, wa, sp⟩) 24)).alloc (.cells sgZero 24)) w') =>
    And.intro (show w'.heap[w.heap.size]? = some (.cells (sgCells ⟨pl, st, nx, 0, tt, ho, he, ak, wa, sp⟩) 24 (0, 0)) from (hb.block w.heap.size (by simp; omega)).trans ((Below.heap_alloc _ _ _ (by simp)).trans (heap_alloc_new w _))) (show w'.heap[w.heap.size + 1]? = some (.cells sgZero 24 (0, 0)) from (hb.block (w.heap.size + 1) (by simp)).trans (by have := heap_alloc_new (w.alloc (.cells (sgCells ⟨pl, st, nx, 0, tt, ho, he, ak, wa, sp⟩) 24)) (.cells sgZero 24); simpa using this)))
  have HQ := Lib.hid hq
  unfold sgCells sgZero at *
  dsimp only at *
  clear hr hG hB hm hK hq
  go_enter Tryd.func23, Tryd.ntmps23
  go_upto_region 4 with (go_at_call 22; (with_reducible refine HM.out.mono ?_); rintro e w2 ⟨rfl, hb⟩; obtain ⟨hs, hz⟩ := HC.out w2 hb; obtain ⟨x0, x1, x2, x3, x4, x5, x6, x7, x8, x9⟩ := sgCells_of (s := ⟨pl, st, nx, 0, tt, ho, he, ak, wa, sp⟩) hs; dsimp only at x0 x1 x2 x3 x4 x5 x6 x7 x8 x9; have HZ := Lib.hid hz; have HS := Lib.hid hs; have HB2 := Lib.hid hb; clear hs hz hb)
  have hsz : w.heap.size + 1 < w2.heap.size := by have := HB2.out.size; simp at this; omega
  clear x0 x1 x2 x3 x4 x5 x6 x7 x8 x9
  have HB3 := Lib.hid (show Below w.heap.size w (w2.alloc (.cells #[.func (.func 46) #[] #[], .func (.func 47) #[] #[], .func (.func 48) #[] #[]] 60)) from (HB.out.trans (HB2.out.mono (by simp; omega))).alloc (by omega) _)
  have HF3 := Lib.hid (heap_alloc_new w2 (.cells #[.func (.func 46) #[] #[], .func (.func 47) #[] #[], .func (.func 48) #[] #[]] 60))
  have HS3 := Lib.hid ((Below.heap_alloc w2 (.cells #[.func (.func 46) #[] #[], .func (.func 47) #[] #[], .func (.func 48) #[] #[]] 60) w.heap.size (by omega)).trans HS.out)
  have HZ3 := Lib.hid ((Below.heap_alloc w2 (.cells #[.func (.func 46) #[] #[], .func (.func 47) #[] #[], .func (.func 48) #[] #[]] 60) (w.heap.size + 1) (by omega)).trans HZ.out)
  clear HB2 HC HZ HS
  generalize hw3 : w2.alloc (.cells #[.func (.func 46) #[] #[], .func (.func 47) #[] #[], .func (.func 48) #[] #[]] 60) = w3 at HB3 HF3 HS3 HZ3 ⊢
  have hsz3 : w3.heap.size = w2.heap.size + 1 := by rw [← hw3]; simp
  have Hw3 := Lib.hid hsz3
  clear hw3 hsz3
  obtain ⟨x0, x1, x2, x3, x4, x5, x6, x7, x8, x9⟩ := sgCells_of (s := ⟨pl, st, nx, 0, tt, ho, he, ak, wa, sp⟩) HS3.out
  dsimp only at x0 x1 x2 x3 x4 x5 x6 x7 x8 x9
  go_upto_region 5 with fail
  clear x0 x1 x2 x3 x4 x5 x6 x7 x8 x9
  have HB4 := Lib.hid (show Below w3.heap.size w3 (w3.alloc (.cells (boxCells A c l ⟨pl, st, nx, 0, tt, ho, he, ak, wa, sp⟩) 62)) from (Below.refl _ w3).alloc (Nat.le_refl _) _)
  have HX4 := Lib.hid (show BoxAt w3.heap.size A c l ⟨pl, st, nx, 0, tt, ho, he, ak, wa, sp⟩ (w3.alloc (.cells (boxCells A c l ⟨pl, st, nx, 0, tt, ho, he, ak, wa, sp⟩) 62)) from heap_alloc_new w3 _)
  unfold boxCells at HB4 HX4
  dsimp only at HB4 HX4
  generalize w3.alloc (.cells #[.slice A l.length c, .int .i64 pl, .int .i64 st, .int .i64 nx, .int .i64 0, .int .i64 tt, .int .i64 ho, .int .i64 he, .int .i64 ak, .int .i64 wa, .bool sp] 62) = w4 at HB4 HX4 ⊢
  have x3 : w4.cell? ⟨w.heap.size, 3, none⟩ = some (.int .i64 0) := zcell ((HB4.out.block w.heap.size (by rw [Hw3.out]; omega)).trans HS3.out) 3
  have hff := (HB4.out.block w2.heap.size (by rw [Hw3.out]; omega)).trans HF3.out
  have x4 := zcell hff 0
  have HQ4 := Lib.hid (HQ.out w3 w4 HB3.out HB4.out HX4.out)
  clear hff HX4
  go_wp2_with (go_at_call 46; (with_reducible refine HQ4.out.mono ?_); rintro e w5 ⟨rfl, hx5, hb5⟩; obtain ⟨v0, v1, v2, v3, v4, v5, v6, v7, v8, v9⟩ := boxSg hx5; have HZ5 := Lib.hid ((hb5.block (w.heap.size + 1) (by rw [Hw3.out]; omega)).trans HZ3.out); have HB5 := Lib.hid hb5; clear hx5 hb5; have y0 := zcell HZ5.out 0; have z0 := zfrozen HZ5.out 0; have y1 := zcell HZ5.out 1; have z1 := zfrozen HZ5.out 1; have y2 := zcell HZ5.out 2; have z2 := zfrozen HZ5.out 2; have y3 := zcell HZ5.out 3; have z3 := zfrozen HZ5.out 3; have y4 := zcell HZ5.out 4; have z4 := zfrozen HZ5.out 4; have y5 := zcell HZ5.out 5; have z5 := zfrozen HZ5.out 5; have y6 := zcell HZ5.out 6; have z6 := zfrozen HZ5.out 6; have y7 := zcell HZ5.out 7; have z7 := zfrozen HZ5.out 7; have y8 := zcell HZ5.out 8; have z8 := zfrozen HZ5.out 8; have y9 := zcell HZ5.out 9; have z9 := zfrozen HZ5.out 9)
  change bodyPost _ _ _ _ _ (sgPut w5 (w.heap.size + 1) s')
  refine bodyPost_ret (results_cell_row rfl _ _ (w.heap.size + 1) 24 (sgCells s') (0, 0) _ rfl (sgPut_heap HZ5.out) Tryd.underlying24 rfl (by kernel_rfl)) rfl ?_
  exact ⟨rfl, sgPut_below (HB3.out.trans (HB5.out.mono (by rw [Hw3.out]; omega))) (by omega)⟩
set_option maxHeartbeats 8000000 in
set_option maxRecDepth 100000 in
theorem tick_amber (A : Option Addr) (c : Nat) (l : List S39) (s s' : Sg) (w : World) (hr : Kd.C k39 w A l.length l) (hc : l.length ≤ c) (hG : GlobOk w) (hm : stage_mayB.f l s = true)
    (hp : s.phase = 1) (hq : ∀ (w3 W : World), Below w.heap.size w w3 → Below w3.heap.size w3 W → BoxAt w3.heap.size A c l s W → Calls Tryd.prog 47 #[.pointer (some ⟨w3.heap.size, 0, none⟩)] W fun e W' => e = .returned (.tuple #[]) ∧ BoxAt w3.heap.size A c l s' W' ∧ Below w3.heap.size w3 W') :
    Calls Tryd.prog 23 #[.slice A l.length c, .agg (sgCells s)] w fun e w' => e = .returned (.agg (sgCells s')) ∧ Below w.heap.size w w' := by
  obtain ⟨pl, st, nx, ph, tt, ho, he, ak, wa, sp⟩ := s
  change ph = 1 at hp
  subst hp
  have hu24 := Tryd.underlying24
  have hu62 := Tryd.underlying62
  obtain ⟨K, hK⟩ := (may_rounds l ⟨pl, st, nx, 1, tt, ho, he, ak, wa, sp⟩).rounds
  have hB : Below w.heap.size w ((w.alloc (.cells (sgCells ⟨pl, st, nx, 1, tt, ho, he, ak, wa, sp⟩) 24)).alloc (.cells sgZero 24)) := ((Below.refl _ w).alloc (Nat.le_refl _) _).alloc (by simp) _
  have HM := Lib.hid (stage_May.calls K A c l pl st nx 1 tt ho he ak wa sp _ _ (Kd.C_below hr hB) hc (hG.below hB) hK)
  have HB := Lib.hid hB
  rw [hm] at HM
  have HC := Lib.hid (fun (w' : World) (hb : Below ((w.alloc (.cells (sgCells ⟨pl, st, nx, 1, tt, ho, he, ak, wa, sp⟩) 24)).alloc (.cells sgZero 24)).heap.size ((w.alloc (.cells (sgCells ⟨pl, st, nx, 1, tt, ho, he, ak, wa, sp⟩) 24)).alloc (.cells sgZero 24)) w') =>
    And.intro (show w'.heap[w.heap.size]? = some (.cells (sgCells ⟨pl, st, nx, 1, tt, ho, he, ak, wa, sp⟩) 24 (0, 0)) from (hb.block w.heap.size (by simp; omega)).trans ((Below.heap_alloc _ _ _ (by simp)).trans (heap_alloc_new w _))) (show w'.heap[w.heap.size + 1]? = some (.cells sgZero 24 (0, 0)) from (hb.block (w.heap.size + 1) (by simp)).trans (by have := heap_alloc_new (w.alloc (.cells (sgCells ⟨pl, st, nx, 1, tt, ho, he, ak, wa, sp⟩) 24)) (.cells sgZero 24); simpa using this)))
  have HQ := Lib.hid hq
  unfold sgCells sgZero at *
  dsimp only at *
  clear hr hG hB hm hK hq
  go_enter Tryd.func23, Tryd.ntmps23
  go_upto_region 4 with (go_at_call 22; (with_reducible refine HM.out.mono ?_); rintro e w2 ⟨rfl, hb⟩; obtain ⟨hs, hz⟩ := HC.out w2 hb; obtain ⟨x0, x1, x2, x3, x4, x5, x6, x7, x8, x9⟩ := sgCells_of (s := ⟨pl, st, nx, 1, tt, ho, he, ak, wa, sp⟩) hs; dsimp only at x0 x1 x2 x3 x4 x5 x6 x7 x8 x9; have HZ := Lib.hid hz; have HS := Lib.hid hs; have HB2 := Lib.hid hb; clear hs hz hb)
  have hsz : w.heap.size + 1 < w2.heap.size := by have := HB2.out.size; simp at this; omega
  clear x0 x1 x2 x3 x4 x5 x6 x7 x8 x9
  have HB3 := Lib.hid (show Below w.heap.size w (w2.alloc (.cells #[.func (.func 46) #[] #[], .func (.func 47) #[] #[], .func (.func 48) #[] #[]] 60)) from (HB.out.trans (HB2.out.mono (by simp; omega))).alloc (by omega) _)
  have HF3 := Lib.hid (heap_alloc_new w2 (.cells #[.func (.func 46) #[] #[], .func (.func 47) #[] #[], .func (.func 48) #[] #[]] 60))
  have HS3 := Lib.hid ((Below.heap_alloc w2 (.cells #[.func (.func 46) #[] #[], .func (.func 47) #[] #[], .func (.func 48) #[] #[]] 60) w.heap.size (by omega)).trans HS.out)
  have HZ3 := Lib.hid ((Below.heap_alloc w2 (.cells #[.func (.func 46) #[] #[], .func (.func 47) #[] #[], .func (.func 48) #[] #[]] 60) (w.heap.size + 1) (by omega)).trans HZ.out)
  clear HB2 HC HZ HS
  generalize hw3 : w2.alloc (.cells #[.func (.func 46) #[] #[], .func (.func 47) #[] #[], .func (.func 48) #[] #[]] 60) = w3 at HB3 HF3 HS3 HZ3 ⊢
  have hsz3 : w3.heap.size = w2.heap.size + 1 := by rw [← hw3]; simp
  have Hw3 := Lib.hid hsz3
  clear hw3 hsz3
  obtain ⟨x0, x1, x2, x3, x4, x5, x6, x7, x8, x9⟩ := sgCells_of (s := ⟨pl, st, nx, 1, tt, ho, he, ak, wa, sp⟩) HS3.out
  dsimp only at x0 x1 x2 x3 x4 x5 x6 x7 x8 x9
  go_upto_region 5 with fail
  clear x0 x1 x2 x3 x4 x5 x6 x7 x8 x9
  have HB4 := Lib.hid (show Below w3.heap.size w3 (w3.alloc (.cells (boxCells A c l ⟨pl, st, nx, 1, tt, ho, he, ak, wa, sp⟩) 62)) from (Below.refl _ w3).alloc (Nat.le_refl _) _)
  have HX4 := Lib.hid (show BoxAt w3.heap.size A c l ⟨pl, st, nx, 1, tt, ho, he, ak, wa, sp⟩ (w3.alloc (.cells (boxCells A c l ⟨pl, st, nx, 1, tt, ho, he, ak, wa, sp⟩) 62)) from heap_alloc_new w3 _)
  unfold boxCells at HB4 HX4
  dsimp only at HB4 HX4
  generalize w3.alloc (.cells #[.slice A l.length c, .int .i64 pl, .int .i64 st, .int .i64 nx, .int .i64 1, .int .i64 tt, .int .i64 ho, .int .i64 he, .int .i64 ak, .int .i64 wa, .bool sp] 62) = w4 at HB4 HX4 ⊢
  have x3 : w4.cell? ⟨w.heap.size, 3, none⟩ = some (.int .i64 1) := zcell ((HB4.out.block w.heap.size (by rw [Hw3.out]; omega)).trans HS3.out) 3
  have hff := (HB4.out.block w2.heap.size (by rw [Hw3.out]; omega)).trans HF3.out
  have x4 := zcell hff 1
  have HQ4 := Lib.hid (HQ.out w3 w4 HB3.out HB4.out HX4.out)
  clear hff HX4
  go_wp2_with (go_at_call 47; (with_reducible refine HQ4.out.mono ?_); rintro e w5 ⟨rfl, hx5, hb5⟩; obtain ⟨v0, v1, v2, v3, v4, v5, v6, v7, v8, v9⟩ := boxSg hx5; have HZ5 := Lib.hid ((hb5.block (w.heap.size + 1) (by rw [Hw3.out]; omega)).trans HZ3.out); have HB5 := Lib.hid hb5; clear hx5 hb5; have y0 := zcell HZ5.out 0; have z0 := zfrozen HZ5.out 0; have y1 := zcell HZ5.out 1; have z1 := zfrozen HZ5.out 1; have y2 := zcell HZ5.out 2; have z2 := zfrozen HZ5.out 2; have y3 := zcell HZ5.out 3; have z3 := zfrozen HZ5.out 3; have y4 := zcell HZ5.out 4; have z4 := zfrozen HZ5.out 4; have y5 := zcell HZ5.out 5; have z5 := zfrozen HZ5.out 5; have y6 := zcell HZ5.out 6; have z6 := zfrozen HZ5.out 6; have y7 := zcell HZ5.out 7; have z7 := zfrozen HZ5.out 7; have y8 := zcell HZ5.out 8; have z8 := zfrozen HZ5.out 8; have y9 := zcell HZ5.out 9; have z9 := zfrozen HZ5.out 9)
  change bodyPost _ _ _ _ _ (sgPut w5 (w.heap.size + 1) s')
  refine bodyPost_ret (results_cell_row rfl _ _ (w.heap.size + 1) 24 (sgCells s') (0, 0) _ rfl (sgPut_heap HZ5.out) Tryd.underlying24 rfl (by kernel_rfl)) rfl ?_
  exact ⟨rfl, sgPut_below (HB3.out.trans (HB5.out.mono (by rw [Hw3.out]; omega))) (by omega)⟩
set_option maxHeartbeats 8000000 in
set_option maxRecDepth 100000 in
theorem tick_red (A : Option Addr) (c : Nat) (l : List S39) (s s' : Sg) (w : World) (hr : Kd.C k39 w A l.length l) (hc : l.length ≤ c) (hG : GlobOk w) (hm : stage_mayB.f l s = true)
    (hp : s.phase = 2) (hq : ∀ (w3 W : World), Below w.heap.size w w3 → Below w3.heap.size w3 W → BoxAt w3.heap.size A c l s W → Calls Tryd.prog 48 #[.pointer (some ⟨w3.heap.size, 0, none⟩)] W fun e W' => e = .returned (.tuple #[]) ∧ BoxAt w3.heap.size A c l s' W' ∧ Below w3.heap.size w3 W') :
    Calls Tryd.prog 23 #[.slice A l.length c, .agg (sgCells s)] w fun e w' => e = .returned (.agg (sgCells s')) ∧ Below w.heap.size w w' := by
  obtain ⟨pl, st, nx, ph, tt, ho, he, ak, wa, sp⟩ := s
  change ph = 2 at hp
  subst hp
  have hu24 := Tryd.underlying24
  have hu62 := Tryd.underlying62
  obtain ⟨K, hK⟩ := (may_rounds l ⟨pl, st, nx, 2, tt, ho, he, ak, wa, sp⟩).rounds
  have hB : Below w.heap.size w ((w.alloc (.cells (sgCells ⟨pl, st, nx, 2, tt, ho, he, ak, wa, sp⟩) 24)).alloc (.cells sgZero 24)) := ((Below.refl _ w).alloc (Nat.le_refl _) _).alloc (by simp) _
  have HM := Lib.hid (stage_May.calls K A c l pl st nx 2 tt ho he ak wa sp _ _ (Kd.C_below hr hB) hc (hG.below hB) hK)
  have HB := Lib.hid hB
  rw [hm] at HM
  have HC := Lib.hid (fun (w' : World) (hb : Below ((w.alloc (.cells (sgCells ⟨pl, st, nx, 2, tt, ho, he, ak, wa, sp⟩) 24)).alloc (.cells sgZero 24)).heap.size ((w.alloc (.cells (sgCells ⟨pl, st, nx, 2, tt, ho, he, ak, wa, sp⟩) 24)).alloc (.cells sgZero 24)) w') =>
    And.intro (show w'.heap[w.heap.size]? = some (.cells (sgCells ⟨pl, st, nx, 2, tt, ho, he, ak, wa, sp⟩) 24 (0, 0)) from (hb.block w.heap.size (by simp; omega)).trans ((Below.heap_alloc _ _ _ (by simp)).trans (heap_alloc_new w _))) (show w'.heap[w.heap.size + 1]? = some (.cells sgZero 24 (0, 0)) from (hb.block (w.heap.size + 1) (by simp)).trans (by have := heap_alloc_new (w.alloc (.cells (sgCells ⟨pl, st, nx, 2, tt, ho, he, ak, wa, sp⟩) 24)) (.cells sgZero 24); simpa using this)))
  have HQ := Lib.hid hq
  unfold sgCells sgZero at *
  dsimp only at *
  clear hr hG hB hm hK hq
  go_enter Tryd.func23, Tryd.ntmps23
  go_upto_region 4 with (go_at_call 22; (with_reducible refine HM.out.mono ?_); rintro e w2 ⟨rfl, hb⟩; obtain ⟨hs, hz⟩ := HC.out w2 hb; obtain ⟨x0, x1, x2, x3, x4, x5, x6, x7, x8, x9⟩ := sgCells_of (s := ⟨pl, st, nx, 2, tt, ho, he, ak, wa, sp⟩) hs; dsimp only at x0 x1 x2 x3 x4 x5 x6 x7 x8 x9; have HZ := Lib.hid hz; have HS := Lib.hid hs; have HB2 := Lib.hid hb; clear hs hz hb)
  have hsz : w.heap.size + 1 < w2.heap.size := by have := HB2.out.size; simp at this; omega
  clear x0 x1 x2 x3 x4 x5 x6 x7 x8 x9
  have HB3 := Lib.hid (show Below w.heap.size w (w2.alloc (.cells #[.func (.func 46) #[] #[], .func (.func 47) #[] #[], .func (.func 48) #[] #[]] 60)) from (HB.out.trans (HB2.out.mono (by simp; omega))).alloc (by omega) _)
  have HF3 := Lib.hid (heap_alloc_new w2 (.cells #[.func (.func 46) #[] #[], .func (.func 47) #[] #[], .func (.func 48) #[] #[]] 60))
  have HS3 := Lib.hid ((Below.heap_alloc w2 (.cells #[.func (.func 46) #[] #[], .func (.func 47) #[] #[], .func (.func 48) #[] #[]] 60) w.heap.size (by omega)).trans HS.out)
  have HZ3 := Lib.hid ((Below.heap_alloc w2 (.cells #[.func (.func 46) #[] #[], .func (.func 47) #[] #[], .func (.func 48) #[] #[]] 60) (w.heap.size + 1) (by omega)).trans HZ.out)
  clear HB2 HC HZ HS
  generalize hw3 : w2.alloc (.cells #[.func (.func 46) #[] #[], .func (.func 47) #[] #[], .func (.func 48) #[] #[]] 60) = w3 at HB3 HF3 HS3 HZ3 ⊢
  have hsz3 : w3.heap.size = w2.heap.size + 1 := by rw [← hw3]; simp
  have Hw3 := Lib.hid hsz3
  clear hw3 hsz3
  obtain ⟨x0, x1, x2, x3, x4, x5, x6, x7, x8, x9⟩ := sgCells_of (s := ⟨pl, st, nx, 2, tt, ho, he, ak, wa, sp⟩) HS3.out
  dsimp only at x0 x1 x2 x3 x4 x5 x6 x7 x8 x9
  go_upto_region 5 with fail
  clear x0 x1 x2 x3 x4 x5 x6 x7 x8 x9
  have HB4 := Lib.hid (show Below w3.heap.size w3 (w3.alloc (.cells (boxCells A c l ⟨pl, st, nx, 2, tt, ho, he, ak, wa, sp⟩) 62)) from (Below.refl _ w3).alloc (Nat.le_refl _) _)
  have HX4 := Lib.hid (show BoxAt w3.heap.size A c l ⟨pl, st, nx, 2, tt, ho, he, ak, wa, sp⟩ (w3.alloc (.cells (boxCells A c l ⟨pl, st, nx, 2, tt, ho, he, ak, wa, sp⟩) 62)) from heap_alloc_new w3 _)
  unfold boxCells at HB4 HX4
  dsimp only at HB4 HX4
  generalize w3.alloc (.cells #[.slice A l.length c, .int .i64 pl, .int .i64 st, .int .i64 nx, .int .i64 2, .int .i64 tt, .int .i64 ho, .int .i64 he, .int .i64 ak, .int .i64 wa, .bool sp] 62) = w4 at HB4 HX4 ⊢
  have x3 : w4.cell? ⟨w.heap.size, 3, none⟩ = some (.int .i64 2) := zcell ((HB4.out.block w.heap.size (by rw [Hw3.out]; omega)).trans HS3.out) 3
  have hff := (HB4.out.block w2.heap.size (by rw [Hw3.out]; omega)).trans HF3.out
  have x4 := zcell hff 2
  have HQ4 := Lib.hid (HQ.out w3 w4 HB3.out HB4.out HX4.out)
  clear hff HX4
  go_wp2_with (go_at_call 48; (with_reducible refine HQ4.out.mono ?_); rintro e w5 ⟨rfl, hx5, hb5⟩; obtain ⟨v0, v1, v2, v3, v4, v5, v6, v7, v8, v9⟩ := boxSg hx5; have HZ5 := Lib.hid ((hb5.block (w.heap.size + 1) (by rw [Hw3.out]; omega)).trans HZ3.out); have HB5 := Lib.hid hb5; clear hx5 hb5; have y0 := zcell HZ5.out 0; have z0 := zfrozen HZ5.out 0; have y1 := zcell HZ5.out 1; have z1 := zfrozen HZ5.out 1; have y2 := zcell HZ5.out 2; have z2 := zfrozen HZ5.out 2; have y3 := zcell HZ5.out 3; have z3 := zfrozen HZ5.out 3; have y4 := zcell HZ5.out 4; have z4 := zfrozen HZ5.out 4; have y5 := zcell HZ5.out 5; have z5 := zfrozen HZ5.out 5; have y6 := zcell HZ5.out 6; have z6 := zfrozen HZ5.out 6; have y7 := zcell HZ5.out 7; have z7 := zfrozen HZ5.out 7; have y8 := zcell HZ5.out 8; have z8 := zfrozen HZ5.out 8; have y9 := zcell HZ5.out 9; have z9 := zfrozen HZ5.out 9)
  change bodyPost _ _ _ _ _ (sgPut w5 (w.heap.size + 1) s')
  refine bodyPost_ret (results_cell_row rfl _ _ (w.heap.size + 1) 24 (sgCells s') (0, 0) _ rfl (sgPut_heap HZ5.out) Tryd.underlying24 rfl (by kernel_rfl)) rfl ?_
  exact ⟨rfl, sgPut_below (HB3.out.trans (HB5.out.mono (by rw [Hw3.out]; omega))) (by omega)⟩
/-- **stage.Tick: what a tick makes of a machine.** -/
theorem tick_calls (A : Option Addr) (c : Nat) (l : List S39) (s : Sg) (w : World) (hr : Kd.C k39 w A l.length l) (hc : l.length ≤ c) (hG : GlobOk w) :
    Calls Tryd.prog 23 #[.slice A l.length c, .agg (sgCells s)] w fun e w' => e = .returned (.agg (sgCells (stage_tickB.f l s))) ∧ Below w.heap.size w w' := by
  unfold stage_tickB.f
  cases hm : stage_mayB.f l s with
  | false =>
    rw [if_neg (by simp)]
    exact tick_no A c l s w hr hc hG hm
  | true =>
    rw [if_pos rfl]
    obtain ⟨h1, h2, h3, h4, h5, h6, h7, h8, h9, h10⟩ := mayB_parts hm
    obtain ⟨hf, -⟩ := may_plan (mayB_all hm) h1.1 h1.2
    have hho := hf.hold
    by_cases p0 : s.phase = 0
    · rw [if_pos p0]
      refine tick_green A c l s _ w hr hc hG hm p0 fun w3 W h3 hW hB => ?_
      by_cases hh : 0 < s.hold
      · have e : stage_greenB.f (rd_T39 l s.plan) s = { s with t := wrap64 (s.t + 1), hold := s.hold - 1, held := s.held + 1 } := by unfold stage_greenB.f; rw [if_pos hh]
        rw [e]
        exact boxGreen_hold _ A c l s w3 W hW (Nat.le_refl _) hB ⟨hh, by omega⟩ ⟨by omega, by omega⟩
      · exact boxGreen_go _ A c l s w3 W hW (Nat.le_refl _) hB (Kd.C_below hr h3) (hG.below h3) h1 h2 (by omega) (next_tmod hf h2.1 h2.2)
    · rw [if_neg p0]
      obtain ⟨g1, g2, g3, g4, g5⟩ := h10 p0
      have ha := hf.amber
      have hre := hf.red
      by_cases p1 : s.phase = 1
      · rw [if_pos p1]
        rw [if_pos p1] at g5
        exact tick_amber A c l s _ w hr hc hG hm p1 fun w3 W h3 hW hB => boxAmber_calls _ A c l s w3 W hW (Nat.le_refl _) hB (Kd.C_below hr h3) h1 ⟨g4, by omega⟩
      · rw [if_neg p1]
        rw [if_neg p1] at g5
        exact tick_red A c l s _ w hr hc hG hm (by omega) fun w3 W h3 hW hB => boxRed_calls _ A c l s w3 W hW (Nat.le_refl _) hB (Kd.C_below hr h3) h1 ⟨g4, by omega⟩ ⟨by omega, by omega⟩
theorem stage_Tick.calls (A0 : Option Addr) (c0 : Nat) (l0 : List S39) (a1_0 a1_1 a1_2 a1_3 a1_4 a1_5 a1_6 a1_7 a1_8 : Int) (a1_9 : Bool) (r1 r2 r3 r4 r5 r6 r7 r8 r9 : Int) (r10 : Bool) (w : World) (hr0 : Kd.C k39 w A0 l0.length l0) (hc0 : l0.length ≤ c0) (hG : GlobOk w) (h : stage_Tick.f l0 a1_0 a1_1 a1_2 a1_3 a1_4 a1_5 a1_6 a1_7 a1_8 a1_9 = some (r1, r2, r3, r4, r5, r6, r7, r8, r9, r10)) :
    Calls Tryd.prog 23 #[.slice A0 l0.length c0, .agg #[.int .i64 a1_0, .int .i64 a1_1, .int .i64 a1_2, .int .i64 a1_3, .int .i64 a1_4, .int .i64 a1_5, .int .i64 a1_6, .int .i64 a1_7, .int .i64 a1_8, .bool a1_9]] w fun e w' => e = .returned (.agg #[.int .i64 r1, .int .i64 r2, .int .i64 r3, .int .i64 r4, .int .i64 r5, .int .i64 r6, .int .i64 r7, .int .i64 r8, .int .i64 r9, .bool r10]) ∧ Below w.heap.size w w' := by
  have h := Option.some.inj h
  unfold stage_flat.f at h
  simp only [Prod.mk.injEq] at h
  obtain ⟨rfl, rfl, rfl, rfl, rfl, rfl, rfl, rfl, rfl, rfl⟩ := h
  exact tick_calls A0 c0 l0 ⟨a1_0, a1_1, a1_2, a1_3, a1_4, a1_5, a1_6, a1_7, a1_8, a1_9⟩ w hr0 hc0 hG
end Go.Proofs.YtechgjbhgeddjaaDoor.F
