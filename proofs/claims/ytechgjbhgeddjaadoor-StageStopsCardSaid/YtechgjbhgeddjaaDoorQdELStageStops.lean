/- StageStops walked by the engine (own text). -/
import Derived.Test.YtechgjbhgeddjaaDoorQdER
namespace Go.Proofs.YtechgjbhgeddjaaDoor.E
open Go Go.RowKit Go.Proofs Go.Proofs.YtechgjbhgeddjaaDoorW.PrintWords Go.Proofs.YtechgjbhgeddjaaDoorW.PrintLast Go.Proofs.YtechgjbhgeddjaaDoorW.PrintMore Go.Proofs.YtechgjbhgeddjaaDoor.F
set_option linter.unusedVariables false
set_option linter.unusedSimpArgs false
set_option maxRecDepth 100000
set_option maxHeartbeats 8000000
attribute [local irreducible] acode callR
namespace Stops
theorem wr64 {x : Int} (h0 : -9223372036854775808 ≤ x) (h1 : x ≤ 9223372036854775807) : IntKind.i64.wrap x = x := (i64_w x).trans (PG.wr h0 h1)
theorem ΓS : ΓOk Tryd.prog (look [(14, SpAwake), (15, SpFewAll), (22, SpMay), (17, SpRun)]) :=
  (((ΓOk.nil.cons run_ok Tryd.func17 (by kernel_rfl)).cons may_ok Tryd.func22 (by kernel_rfl)).cons fewAll_ok Tryd.func15 (by kernel_rfl)).cons awake_ok Tryd.func14 (by kernel_rfl)
theorem rows_len {l : List S39} : ∀ (n : Nat) {s : Sg}, PU.May l s → ∀ y ∈ PV.rowsN l n s, y.length ≤ 100
  | 0, s, _ => by intro y hy; cases hy
  | n + 1, s, h => by
    intro y hy
    rw [PV.rowsN] at hy
    have h2 := PU.tick_may h
    rcases List.mem_cons.1 hy with rfl | hy
    · have h3 := h2.rows.2.1
      have := PL.may_len h3
      omega
    · exact rows_len n h2 y hy
theorem zero_at {two : List (List Int)} (h : ∀ y ∈ two, y.length ≤ 100 ∧ ∀ v ∈ y, v = 0) (i : Nat) (hi : i < two.length) : (two.getD i []).length ≤ 100 ∧ ∀ g, g < (two.getD i []).length → (two.getD i []).getD g 0 = 0 := by
  have e : two.getD i [] = two[i] := by rw [List.getD_eq_getElem?_getD, List.getElem?_eq_getElem hi]; rfl
  rw [e]
  have := h _ (List.getElem_mem hi)
  exact ⟨this.1, fun g hg => by rw [List.getD_eq_getElem?_getD, List.getElem?_eq_getElem hg]; exact this.2 _ (List.getElem_mem hg)⟩
/-- What the law says, without the program. -/
structure Facts (l : List S39) (s a : Sg) (n : Int) (one two : List (List Int)) : Prop where
  run1 : Ev (fun k => stage_Run.f k l s.plan s.stage s.next s.phase s.t s.hold s.held s.ask s.want s.stop (IntKind.i64.wrap (IntKind.i64.wrap (((l.getD s.plan.toNat z39).f1.getD s.stage.toNat z41).f2 + (l.getD s.plan.toNat z39).f2) + (l.getD s.plan.toNat z39).f3))) (PV.rn a one)
  run2 : Ev (fun k => stage_Run.f k l a.plan a.stage a.next a.phase a.t a.hold a.held a.ask a.want a.stop n) (PV.rn a two)
  phase : a.phase = 2
  t : a.t = (l.getD s.plan.toNat z39).f3
  len : (two.length : Int) = n
  zero : ∀ y ∈ two, (y.length ≤ 100) ∧ ∀ v ∈ y, v = 0
theorem facts {l : List S39} {s : Sg} {n : Int} (h : PU.May l s) (hs : s.stop = true) (h0 : 0 ≤ n) (h6 : n ≤ 60) : ∃ a one two, Facts l s a n one two := by
  have hf := h.fits
  have ha := hf.amber
  have hr := hf.red
  have hsp := h.span
  obtain ⟨K, hK⟩ := Int.eq_ofNat_of_zero_le (a := (PU.St l s).f2 + (PU.P l s).f2 + (PU.P l s).f3) (by omega)
  have e : IntKind.i64.wrap (IntKind.i64.wrap (((l.getD s.plan.toNat z39).f1.getD s.stage.toNat z41).f2 + (l.getD s.plan.toNat z39).f2) + (l.getD s.plan.toNat z39).f3) = (K : Int) := by
    show IntKind.i64.wrap (IntKind.i64.wrap ((PU.St l s).f2 + (PU.P l s).f2) + (PU.P l s).f3) = (K : Int)
    rw [wr64 (x := (PU.St l s).f2 + (PU.P l s).f2) (by omega) (by omega), wr64 (by omega) (by omega), hK]
  have hM := PV.tickN_may K h
  obtain ⟨z0, z1, z2⟩ := PV.stop_run K h hs (by have := PV.left_le h; rw [hK] at this; exact this)
  have hst := PV.stop_stays hM z1 z0
  have hd := PV.stop_done hM z0
  obtain ⟨m, rfl⟩ := Int.eq_ofNat_of_zero_le h0
  refine ⟨PV.tickN l K s, PV.rowsN l K s, PV.rowsN l m (PV.tickN l K s), ?_, ?_, hd.1, ?_, ?_, fun y hy => ⟨?_, ?_⟩⟩
  · rw [e]
    exact PV.run_ev h (by omega)
  · have := PV.run_ev hM (n := m) (by omega)
    rw [hst m] at this
    exact this
  · rw [hd.2]
    show (rd_T39 l (PV.tickN l K s).plan).f3 = _
    rw [z2]
    rfl
  · exact congrArg Int.ofNat (PV.rowsN_len l m _)
  · exact rows_len m hM y hy
  · exact PV.rows_red m hM (fun j hj => by rw [hst (j + 1)]; exact hd.1) y hy
theorem fI_eq {a b : Int} (h : a = b) : some (fI a) = some (fI b) := by rw [h]
def SpStops : List FV → FV → Prop := fun a r => ∃ l s n, PU.Wf s ∧ a = [fPls l, fSg s, fI n] ∧ r = vB true
theorem ok : SpecOk Tryd.prog 6 (.pure SpStops) := by
  refine spec_of_code TYok ΓS mixed Tryd.func6 rfl ?_
  rintro args pre r post ⟨⟨l, s, n, hw, rfl, rfl⟩, rfl, rfl⟩
  refine ⟨rfl, ?_⟩
  obtain ⟨few, hfew⟩ := PU.fewAll_ev l
  repeat' (first | refine st_v rfl rfl rfl rfl (fun _ => rfl) rfl (fun _ => rfl) ?_ | refine st_skip rfl rfl rfl ?_ | refine st_b rfl rfl rfl rfl (fun _ => rfl) rfl (fun h1 => ?_) (fun h1 => ?_) | refine st_n rfl rfl rfl rfl (fun _ => rfl) rfl (fun _ => rfl) ?_ | refine st_s rfl rfl rfl rfl (fun _ => rfl) rfl (fun _ => rfl) ?_ | refine c_seq ?_ | refine c_region ?_ | refine c_plain rfl ?_ | refine c_drawn rfl (by kernel_rfl) ?_ | refine st_nil ?_ | refine c_norm ?_ | refine c_cret ?_ | refine c_ret ?_ | refine c_true rfl ?_ | refine c_false rfl ?_ | refine c_skip ?_ | refine c_block ?_ | refine c_bnorm ?_ | refine c_bret ?_ | refine c_bexit rfl ?_ | refine c_bpass rfl ?_ | refine c_exit ?_ | refine c_cexit ?_ | refine c_lret ?_ | refine c_lexit ?_ | refine st_call rfl rfl rfl rfl rfl rfl rfl (call_v (vB true) rfl ⟨rfl, rfl⟩ rfl rfl rfl (cb_v rfl (fun _ => rfl) ?_)) | refine st_call rfl rfl rfl rfl rfl rfl rfl (call_v (vB few) rfl ⟨l, few, rfl, rfl, hfew⟩ rfl rfl rfl (cb_b rfl (fun h1 => ?_) (fun h1 => ?_))) | refine st_call rfl rfl rfl rfl rfl rfl rfl (call_v (vB (stage_mayB.f l s)) rfl ⟨l, s, rfl, rfl⟩ rfl rfl rfl (cb_b rfl (fun h1 => ?_) (fun h1 => ?_))) | refine st_pv rfl rfl rfl rfl (fun _ => rfl) (by clear hw hfew; simp only [decide_eq_true_eq, decide_eq_false_iff_not, ge_iff_le, Int.not_lt, Int.not_le] at *; omega) rfl (fun _ => rfl) ?_)
  all_goals try exact ⟨rfl, rfl, rfl, trivial⟩
  obtain ⟨a, one, two, F⟩ := facts (n := n) (PU.may_of hw (by assumption)) (by assumption) (by simp only [decide_eq_true_eq, decide_eq_false_iff_not, ge_iff_le, Int.not_lt, Int.not_le] at *; omega) (by simp only [decide_eq_true_eq, decide_eq_false_iff_not, ge_iff_le, gt_iff_lt, Int.not_lt, Int.not_le] at *; omega)
  have hph : (a.phase != 2) = false := by simp [F.phase]
  have ht : (a.t != (l.getD s.plan.toNat z39).f3) = false := by simp [F.t]
  have hlen : (((two.length : Nat) : Int) != n) = false := by simp [F.len]
  repeat' (first | refine st_v rfl rfl rfl rfl (fun _ => rfl) rfl (fun _ => rfl) ?_ | refine st_skip rfl rfl rfl ?_ | refine st_b rfl rfl rfl rfl (fun _ => rfl) rfl (fun h1 => ?_) (fun h1 => ?_) | refine st_n rfl rfl rfl rfl (fun _ => rfl) rfl (fun _ => rfl) ?_ | refine st_s rfl rfl rfl rfl (fun _ => rfl) rfl (fun _ => rfl) ?_ | refine c_seq ?_ | refine c_region ?_ | refine c_plain rfl ?_ | refine c_drawn rfl (by kernel_rfl) ?_ | refine st_nil ?_ | refine c_norm ?_ | refine c_cret ?_ | refine c_ret ?_ | refine c_true rfl ?_ | refine c_false rfl ?_ | refine c_skip ?_ | refine c_block ?_ | refine c_bnorm ?_ | refine c_bret ?_ | refine c_bexit rfl ?_ | refine c_bpass rfl ?_ | refine c_exit ?_ | refine c_cexit ?_ | refine c_lret ?_ | refine c_lexit ?_ | refine st_call rfl rfl rfl rfl rfl rfl rfl (call_s (fRun a one) rfl ⟨l, s, _, a, one, rfl, rfl, F.run1⟩ rfl rfl rfl rfl (cb_v rfl (fun _ => rfl) ?_)) | refine st_call rfl rfl rfl rfl rfl rfl rfl (call_s (fRun a two) rfl ⟨l, a, _, a, two, rfl, rfl, F.run2⟩ rfl rfl rfl rfl (cb_v rfl (fun _ => rfl) ?_)))
  all_goals try (exfalso; clear hw hfew F; simp_all; done)
  have hb0 : 0 ≤ n := by clear hw hfew; simp only [decide_eq_true_eq, decide_eq_false_iff_not, ge_iff_le, Int.not_lt, Int.not_le] at *; omega
  have hb6 : n ≤ 60 := by clear hw hfew; simp only [decide_eq_true_eq, decide_eq_false_iff_not, ge_iff_le, gt_iff_lt, Int.not_lt, Int.not_le] at *; omega
  have hL := F.len
  have hz := zero_at F.zero
  clear hw hfew F hph ht hlen
  refine c_loop (fun i : Nat => (i : Int) ≤ n) (fun i => [(14, fI (i : Int)), (2, fI n), (13, .t (.one (cRows two))), (10, .t (.one (.ptr 0 0))), (12, .t (.one (.ptr 1 0)))]) (fun _ => [(0, some (.var 24 (sgCells a))), (1, some (.var 24 (sgCells a)))]) (fun i => n.toNat - i) [87, 97] 0 hb0 rfl ⟨rfl, rfl, rfl, rfl, rfl, rfl, rfl, rfl, rfl, rfl, trivial⟩ ⟨⟨rfl, rfl, rfl⟩, ⟨rfl, rfl, rfl⟩, trivial⟩ rfl (fun i hi => ?_)
  repeat' (first | refine st_v rfl rfl rfl rfl (fun _ => rfl) rfl (fun _ => rfl) ?_ | refine st_skip rfl rfl rfl ?_ | refine st_b rfl rfl rfl rfl (fun _ => rfl) rfl (fun h1 => ?_) (fun h1 => ?_) | refine st_n rfl rfl rfl rfl (fun _ => rfl) rfl (fun _ => rfl) ?_ | refine st_s rfl rfl rfl rfl (fun _ => rfl) rfl (fun _ => rfl) ?_ | refine c_seq ?_ | refine c_region ?_ | refine c_plain rfl ?_ | refine c_drawn rfl (by kernel_rfl) ?_ | refine st_nil ?_ | refine c_norm ?_ | refine c_cret ?_ | refine c_ret ?_ | refine c_true rfl ?_ | refine c_false rfl ?_ | refine c_skip ?_ | refine c_block ?_ | refine c_bnorm ?_ | refine c_bret ?_ | refine c_bexit rfl ?_ | refine c_bpass rfl ?_ | refine c_exit ?_ | refine c_cexit ?_ | refine c_lret ?_ | refine c_lexit ?_)
  all_goals try exact ⟨rfl, rfl, rfl, trivial⟩
  rotate_left
  · exact absurd (by assumption : eqV _ _ = false) (by simp [eqV])
  have hi' : i < two.length := by simp only [decide_eq_true_eq, decide_eq_false_iff_not] at *; omega
  obtain ⟨hy, hz'⟩ := hz i hi'
  clear hz
  refine c_loop (fun g : Nat => g ≤ (two.getD i []).length) (fun g => [(15, fI (g : Int)), (14, fI (i : Int)), (2, fI n), (13, .t (.one (cRows two))), (10, .t (.one (.ptr 0 0))), (12, .t (.one (.ptr 1 0)))]) (fun _ => [(0, some (.var 24 (sgCells a))), (1, some (.var 24 (sgCells a)))]) (fun g => (two.getD i []).length - g) [0, 1] 0 (Nat.zero_le _) rfl ⟨rfl, rfl, rfl, rfl, rfl, rfl, rfl, rfl, rfl, rfl, rfl, rfl, trivial⟩ ⟨⟨rfl, rfl, rfl⟩, ⟨rfl, rfl, rfl⟩, trivial⟩ rfl (fun g hg => ?_)
  repeat' (first | refine st_v rfl rfl rfl rfl (fun _ => rfl) rfl (fun _ => rfl) ?_ | refine st_skip rfl rfl rfl ?_ | refine st_b rfl rfl rfl rfl (fun _ => rfl) rfl (fun h1 => ?_) (fun h1 => ?_) | refine st_n rfl rfl rfl rfl (fun _ => rfl) rfl (fun _ => rfl) ?_ | refine st_s rfl rfl rfl rfl (fun _ => rfl) rfl (fun _ => rfl) ?_ | refine c_seq ?_ | refine c_region ?_ | refine c_plain rfl ?_ | refine c_drawn rfl (by kernel_rfl) ?_ | refine st_nil ?_ | refine c_norm ?_ | refine c_cret ?_ | refine c_ret ?_ | refine c_true rfl ?_ | refine c_false rfl ?_ | refine c_skip ?_ | refine c_block ?_ | refine c_bnorm ?_ | refine c_bret ?_ | refine c_bexit rfl ?_ | refine c_bpass rfl ?_ | refine c_exit ?_ | refine c_cexit ?_ | refine c_lret ?_ | refine c_lexit ?_ | refine st_pv rfl rfl rfl rfl (fun _ => rfl) (by simp only [decide_eq_true_eq, decide_eq_false_iff_not, ge_iff_le, Int.not_lt, Int.not_le, Int.toNat_natCast] at *; omega) rfl (fun _ => rfl) ?_)
  · exfalso
    have hg' : g < (two.getD i []).length := by simp only [decide_eq_true_eq, decide_eq_false_iff_not, Int.toNat_natCast] at *; omega
    have hv := hz' g hg'
    have h2 : ((two.getD (i : Int).toNat []).getD (g : Int).toNat 0 != 0) = true := by assumption
    rw [Int.toNat_natCast, Int.toNat_natCast, hv] at h2
    cases h2
  · have hg' : g < (two.getD i []).length := by simp only [decide_eq_true_eq, decide_eq_false_iff_not, Int.toNat_natCast] at *; omega
    exact c_lnorm [0, 1] (g + 1) hg' (by show _ - (g + 1) < _ - g; omega) rfl ⟨fI_eq ((wr64 (by omega) (by omega)).trans (by omega : (g : Int) + 1 = ((g + 1 : Nat) : Int))), rfl, rfl, rfl, rfl, rfl, rfl, rfl, rfl, rfl, rfl, rfl, trivial⟩ ⟨⟨rfl, rfl, rfl⟩, ⟨rfl, rfl, rfl⟩, trivial⟩ rfl
  · exact c_lnorm [0, 1] (i + 1) (by show ((i + 1 : Nat) : Int) ≤ n; omega) (by show _ - (i + 1) < _ - i; omega) rfl ⟨fI_eq ((wr64 (by omega) (by omega)).trans (by omega : (i : Int) + 1 = ((i + 1 : Nat) : Int))), rfl, rfl, rfl, rfl, rfl, rfl, rfl, rfl, rfl, trivial⟩ ⟨⟨rfl, rfl, rfl⟩, ⟨rfl, rfl, rfl⟩, trivial⟩ rfl
end Stops
theorem StageStops_calls (A0 : Option Addr) (c0 : Nat) (l0 : List S39) (a0 a1 a2 a3 a4 a5 a6 a7 a8 : Int) (a9 : Bool) (n : Int) (w : World) (hr0 : k39.C w A0 l0.length l0) (hc0 : l0.length ≤ c0) (hG : GlobOk w) (hw : PU.Wf ⟨a0, a1, a2, a3, a4, a5, a6, a7, a8, a9⟩) :
    Calls Tryd.prog 6 #[.slice A0 l0.length c0, .agg #[.int .i64 a0, .int .i64 a1, .int .i64 a2, .int .i64 a3, .int .i64 a4, .int .i64 a5, .int .i64 a6, .int .i64 a7, .int .i64 a8, .bool a9], .int .i64 n] w fun e w' => e = .returned (.bool true) ∧ Below w.heap.size w w' :=
  law_of Stops.ok ⟨l0, _, n, hw, rfl, rfl⟩ hG ⟨⟨C_pls hc0 hr0, rfl⟩, val_sg _, ⟨rfl, rfl⟩, trivial⟩
end Go.Proofs.YtechgjbhgeddjaaDoor.E
