/- StageTells walked by the engine (own text). -/
import Derived.Test.YtechgjbhgeddjaaDoorQsE19
import Derived.Test.YtechgjbhgeddjaaDoorQsECA
import Derived.Test.YtechgjbhgeddjaaDoorQsPQ
namespace Go.Proofs.YtechgjbhgeddjaaDoor.E
open Go Go.RowKit Go.Proofs Go.Proofs.YtechgjbhgeddjaaDoorW.PrintWords Go.Proofs.YtechgjbhgeddjaaDoorW.PrintLast Go.Proofs.YtechgjbhgeddjaaDoorW.PrintMore Go.Proofs.YtechgjbhgeddjaaDoor.F
set_option linter.unusedVariables false
set_option linter.unusedSimpArgs false
set_option maxRecDepth 100000
set_option maxHeartbeats 8000000
attribute [local irreducible] acode callR
namespace Tells
open St
def newS : Sg := ⟨0, 0, 0, 2, 0, 0, 0, -1, -1, false⟩
def SpNew : Spec := .pure fun a r => a = [] ∧ r = fSg newS
theorem rnew_ok : SpecOk Tryd.prog 26 SpNew := by
  refine spec_of_code TYok ΓOk.nil mixed Tryd.func26 rfl ?_
  rintro args pre r post ⟨⟨rfl, rfl⟩, rfl, rfl⟩
  refine ⟨rfl, ?_⟩
  repeat' (first | refine st_v rfl rfl rfl rfl (fun _ => rfl) rfl (fun _ => rfl) ?_ | refine st_skip rfl rfl rfl ?_ | refine st_b rfl rfl rfl rfl (fun _ => rfl) rfl (fun h1 => ?_) (fun h1 => ?_) | refine st_n rfl rfl rfl rfl (fun _ => rfl) rfl (fun _ => rfl) ?_ | refine st_s rfl rfl rfl rfl (fun _ => rfl) rfl (fun _ => rfl) ?_ | refine c_seq ?_ | refine c_region ?_ | refine c_plain rfl ?_ | refine c_drawn rfl (by kernel_rfl) ?_ | refine st_nil ?_ | refine c_norm ?_ | refine c_cret ?_ | refine c_ret ?_ | refine c_true rfl ?_ | refine c_false rfl ?_ | refine c_skip ?_ | refine c_block ?_ | refine c_bnorm ?_ | refine c_bret ?_ | refine c_bexit rfl ?_ | refine c_bpass rfl ?_ | refine c_exit ?_ | refine c_cexit ?_ | refine c_lret ?_ | refine c_lexit ?_ | refine c_scope ?_ | refine c_label ?_ | refine c_snorm ?_ | refine c_sret ?_ | refine c_sexit ?_ | fail)
  exact ⟨ret_cell rfl rfl rfl rfl rfl rfl rfl, rfl, rfl, trivial⟩
theorem new_ok : SpecOk Tryd.prog 25 SpNew := by
  refine spec_of_code TYok ΓOk.nil mixed Tryd.func25 rfl ?_
  rintro args pre r post ⟨⟨rfl, rfl⟩, rfl, rfl⟩
  refine ⟨rfl, ?_⟩
  repeat' (first | refine st_v rfl rfl rfl rfl (fun _ => rfl) rfl (fun _ => rfl) ?_ | refine st_skip rfl rfl rfl ?_ | refine st_b rfl rfl rfl rfl (fun _ => rfl) rfl (fun h1 => ?_) (fun h1 => ?_) | refine st_n rfl rfl rfl rfl (fun _ => rfl) rfl (fun _ => rfl) ?_ | refine st_s rfl rfl rfl rfl (fun _ => rfl) rfl (fun _ => rfl) ?_ | refine c_seq ?_ | refine c_region ?_ | refine c_plain rfl ?_ | refine c_drawn rfl (by kernel_rfl) ?_ | refine st_nil ?_ | refine c_norm ?_ | refine c_cret ?_ | refine c_ret ?_ | refine c_true rfl ?_ | refine c_false rfl ?_ | refine c_skip ?_ | refine c_block ?_ | refine c_bnorm ?_ | refine c_bret ?_ | refine c_bexit rfl ?_ | refine c_bpass rfl ?_ | refine c_exit ?_ | refine c_cexit ?_ | refine c_lret ?_ | refine c_lexit ?_ | refine c_scope ?_ | refine c_label ?_ | refine c_snorm ?_ | refine c_sret ?_ | refine c_sexit ?_ | fail)
  exact ⟨ret_cell rfl rfl rfl rfl rfl rfl rfl, rfl, rfl, trivial⟩
open Rw
theorem rows_len {l : List S39} : ∀ (n : Nat) {s : Sg}, PU.May l s → ∀ y ∈ PV.rowsN l n s, y.length ≤ 100
  | 0, s, _ => by intro y hy; cases hy
  | n + 1, s, h => by
    intro y hy
    rw [PV.rowsN] at hy
    have h2 := PU.tick_may h
    rcases List.mem_cons.1 hy with rfl | hy
    · have h3 := h2.rows.2.1
      have := PL.may_len h3
      omega
    · exact rows_len n h2 y hy
structure Facts (l : List S39) (s t : Sg) (n : Int) (rows : List (List Int)) : Prop where
  ref : (∃ m : Nat, stage_mayB.f l s = true ∧ m ≤ 2000 ∧ n = (m : Int) ∧ t = PV.tickN l m s ∧ rows = PV.rowsN l m s) ∨ (¬ (stage_mayB.f l s = true ∧ 0 ≤ n ∧ n ≤ 2000) ∧ t = s ∧ rows = [])
  len : rows.length ≤ 1000 ∧ ∀ i, (rows.getD i []).length ≤ 1000
theorem facts {l : List S39} {s : Sg} {n : Int} (hw : PU.Wf s) (hn : ¬ (60 < n ∧ n ≤ 2000)) : ∃ t rows, Facts l s t n rows := by
  by_cases hc : stage_mayB.f l s = true ∧ 0 ≤ n ∧ n ≤ 2000
  · obtain ⟨hm, h0, h2⟩ := hc
    have h := PU.may_of hw hm
    obtain ⟨m, rfl⟩ := Int.eq_ofNat_of_zero_le h0
    refine ⟨_, _, .inl ⟨m, hm, by omega, rfl, rfl, rfl⟩, by rw [PV.rowsN_len]; omega, fun i => ?_⟩
    by_cases hi : i < (PV.rowsN l m s).length
    · rw [List.getD_eq_getElem?_getD, List.getElem?_eq_getElem hi]
      have := rows_len m h _ (List.getElem_mem hi)
      show ((PV.rowsN l m s)[i]).length ≤ 1000
      omega
    · rw [List.getD_eq_getElem?_getD, List.getElem?_eq_none (by omega)]
      exact Nat.zero_le _
  · exact ⟨s, [], .inr ⟨hc, rfl, rfl⟩, Nat.zero_le _, fun i => Nat.zero_le _⟩
theorem lamps_len {l : List S39} {s : Sg} (hw : PU.Wf s) : (PU.lampsB l s).length ≤ 1000 := by
  cases hm : stage_mayB.f l s with
  | false =>
    unfold PU.lampsB
    rw [if_neg (by rw [hm]; decide)]
    exact Nat.zero_le _
  | true =>
    have := PL.may_len (PU.may_of hw hm).rows.2.1
    omega
theorem ΓT : ΓOk Tryd.prog (look [(14, SpAwake), (15, SpFewAll), (16, Ref.SpMay), (17, E.SpRun), (18, Ref.SpRun), (19, .pure SpRowsG), (20, Ref.SpLamps), (21, Ref.SpLamps), (22, E.SpMay), (23, E.SpTick), (24, Ref.SpTick), (25, SpNew), (26, SpNew)]) :=
  ((((((((((((ΓOk.nil.cons rnew_ok Tryd.func26 (by kernel_rfl)).cons new_ok Tryd.func25 (by kernel_rfl)).cons Ref.tick_ok Tryd.func24 (by kernel_rfl)).cons E.tick_ok Tryd.func23 (by kernel_rfl)).cons E.may_ok Tryd.func22 (by kernel_rfl)).cons Ref.lamps_ok Tryd.func21 (by kernel_rfl)).cons Ref.slamps_ok Tryd.func20 (by kernel_rfl)).cons rowsG_ok Tryd.func19 (by kernel_rfl)).cons Ref.run16_ok Tryd.func18 (by kernel_rfl)).cons E.run_ok Tryd.func17 (by kernel_rfl)).cons Ref.may_ok Tryd.func16 (by kernel_rfl)).cons fewAll_ok Tryd.func15 (by kernel_rfl)).cons awake_ok Tryd.func14 (by kernel_rfl)
def SpLaw : List FV → FV → Prop := fun a r => ∃ l s n, PU.Wf s ∧ a = [fPls l, fSg s, fI n] ∧ r = vB true
theorem ok : SpecOk Tryd.prog 3 (.pure SpLaw) := by
  refine spec_of_code TYok ΓT mixed Tryd.func3 rfl ?_
  rintro args pre r post ⟨⟨l, s, n, hw, rfl, rfl⟩, rfl, rfl⟩
  refine ⟨rfl, ?_⟩
  obtain ⟨few, hfew⟩ := PU.fewAll_ev l
  repeat' (first | refine st_v rfl rfl rfl rfl (fun _ => rfl) rfl (fun _ => rfl) ?_ | refine st_skip rfl rfl rfl ?_ | refine st_b rfl rfl rfl rfl (fun _ => rfl) rfl (fun h1 => ?_) (fun h1 => ?_) | refine st_n rfl rfl rfl rfl (fun _ => rfl) rfl (fun _ => rfl) ?_ | refine st_s rfl rfl rfl rfl (fun _ => rfl) rfl (fun _ => rfl) ?_ | refine c_seq ?_ | refine c_region ?_ | refine c_plain rfl ?_ | refine c_drawn rfl (by kernel_rfl) ?_ | refine st_nil ?_ | refine c_norm ?_ | refine c_cret ?_ | refine c_ret ?_ | refine c_true rfl ?_ | refine c_false rfl ?_ | refine c_skip ?_ | refine c_block ?_ | refine c_bnorm ?_ | refine c_bret ?_ | refine c_bexit rfl ?_ | refine c_bpass rfl ?_ | refine c_exit ?_ | refine c_cexit ?_ | refine c_lret ?_ | refine c_lexit ?_ | refine c_scope ?_ | refine c_label ?_ | refine c_snorm ?_ | refine c_sret ?_ | refine c_sexit ?_ | refine st_call rfl rfl rfl rfl rfl rfl rfl (call_v (vB true) rfl ⟨rfl, rfl⟩ rfl rfl rfl (cb_v rfl (fun _ => rfl) ?_)) | refine st_call rfl rfl rfl rfl rfl rfl rfl (call_v (vB few) rfl ⟨l, few, rfl, rfl, hfew⟩ rfl rfl rfl (cb_b rfl (fun h1 => ?_) (fun h1 => ?_))) | fail)
  all_goals try exact ⟨rfl, rfl, rfl, trivial⟩
  all_goals (
    obtain ⟨t, rows, F⟩ := facts (l := l) (n := n) hw (by simp only [decide_eq_true_eq, decide_eq_false_iff_not] at *; omega)
    have hll := lamps_len (l := l) hw)
  all_goals (
    have hlr : ([PU.lampsB l s] : List (List Int)).length ≤ 1000 ∧ ∀ i, (([PU.lampsB l s] : List (List Int)).getD i []).length ≤ 1000 := ⟨(by decide : 1 ≤ 1000), fun i => match i with
      | 0 => hll
      | i + 1 => Nat.zero_le _⟩
    have hel : ∀ i, i < 1 → i = 0 := fun i hi => by omega
    obtain ⟨b, hb⟩ : ∃ b, stage_mayB.f l s = b := ⟨_, rfl⟩
    cases b)
  all_goals (repeat' (first | refine st_v rfl rfl rfl rfl (fun _ => rfl) rfl (fun _ => rfl) ?_ | refine st_skip rfl rfl rfl ?_ | refine st_b rfl rfl rfl rfl (fun _ => rfl) rfl (fun h1 => ?_) (fun h1 => ?_) | refine st_n rfl rfl rfl rfl (fun _ => rfl) rfl (fun _ => rfl) ?_ | refine st_s rfl rfl rfl rfl (fun _ => rfl) rfl (fun _ => rfl) ?_ | refine c_seq ?_ | refine c_region ?_ | refine c_plain rfl ?_ | refine c_drawn rfl (by kernel_rfl) ?_ | refine st_nil ?_ | refine c_norm ?_ | refine c_cret ?_ | refine c_ret ?_ | refine c_true rfl ?_ | refine c_false rfl ?_ | refine c_skip ?_ | refine c_block ?_ | refine c_bnorm ?_ | refine c_bret ?_ | refine c_bexit rfl ?_ | refine c_bpass rfl ?_ | refine c_exit ?_ | refine c_cexit ?_ | refine c_lret ?_ | refine c_lexit ?_ | refine c_scope ?_ | refine c_label ?_ | refine c_snorm ?_ | refine c_sret ?_ | refine c_sexit ?_ | refine st_call rfl rfl rfl rfl rfl rfl rfl (call_v (vB true) rfl ⟨l, s, hw, rfl, (congrArg vB hb).symm⟩ rfl rfl rfl (cb_v rfl (fun _ => rfl) ?_)) | refine st_call rfl rfl rfl rfl rfl rfl rfl (call_v (vB false) rfl ⟨l, s, hw, rfl, (congrArg vB hb).symm⟩ rfl rfl rfl (cb_v rfl (fun _ => rfl) ?_)) | refine st_call rfl rfl rfl rfl rfl rfl rfl (call_v (vB true) rfl ⟨l, s, rfl, (congrArg vB hb).symm⟩ rfl rfl rfl (cb_v rfl (fun _ => rfl) ?_)) | refine st_call rfl rfl rfl rfl rfl rfl rfl (call_v (vB false) rfl ⟨l, s, rfl, (congrArg vB hb).symm⟩ rfl rfl rfl (cb_v rfl (fun _ => rfl) ?_)) | refine st_call rfl rfl rfl rfl rfl rfl rfl (call_s (fRun t rows) rfl ⟨l, s, n, t, rows, hw, rfl, rfl, F.ref⟩ rfl rfl rfl rfl (cb_v rfl (fun _ => rfl) ?_)) | refine st_call rfl rfl rfl rfl rfl rfl rfl (call_s (fRun t rows) rfl ⟨l, s, n, t, rows, hw, rfl, rfl, F.ref⟩ rfl rfl rfl rfl (cb_v rfl (fun _ => rfl) ?_)) | refine st_call rfl rfl rfl rfl rfl rfl rfl (call_v (vB true) rfl ⟨rows, _, _, F.len, rfl, rfl, fun i _ => ⟨rfl, rfl⟩⟩ rfl rfl rfl (cb_v rfl (fun _ => rfl) ?_)) | refine st_call rfl rfl rfl rfl rfl rfl rfl (call_v (vB true) rfl ⟨[PU.lampsB l s], _, _, hlr, rfl, rfl, fun i hi => (hel i hi).symm ▸ ⟨rfl, rfl⟩⟩ rfl rfl rfl (cb_v rfl (fun _ => rfl) ?_)) | refine st_call rfl rfl rfl rfl rfl rfl rfl (call_s (Ref.fInts (PU.lampsB l s)) rfl ⟨l, s, hw, rfl, rfl⟩ rfl rfl rfl rfl (cb_v rfl (fun _ => rfl) ?_)) | refine st_call rfl rfl rfl rfl rfl rfl rfl (call_v (fSg (stage_tickB.f l s)) rfl ⟨l, s, rfl, rfl⟩ rfl rfl rfl (cb_v rfl (fun _ => rfl) ?_)) | refine st_call rfl rfl rfl rfl rfl rfl rfl (call_v (fSg (stage_tickB.f l s)) rfl ⟨l, s, hw, rfl, rfl⟩ rfl rfl rfl (cb_v rfl (fun _ => rfl) ?_)) | refine st_call rfl rfl rfl rfl rfl rfl rfl (call_v (fSg newS) rfl ⟨rfl, rfl⟩ rfl rfl rfl (cb_v rfl (fun _ => rfl) ?_)) | fail))
  all_goals first
    | exact ⟨rfl, rfl, rfl, trivial⟩
    | exact absurd (by assumption : eqV _ _ = false) (by simp [eqV])
    | skip
end Tells
theorem StageTells_calls (A0 : Option Addr) (c0 : Nat) (l0 : List S39) (a0 a1 a2 a3 a4 a5 a6 a7 a8 : Int) (a9 : Bool) (n : Int) (w : World) (hr0 : k39.C w A0 l0.length l0) (hc0 : l0.length ≤ c0) (hG : GlobOk w) (hw : PU.Wf ⟨a0, a1, a2, a3, a4, a5, a6, a7, a8, a9⟩) :
    Calls Tryd.prog 3 #[.slice A0 l0.length c0, .agg #[.int .i64 a0, .int .i64 a1, .int .i64 a2, .int .i64 a3, .int .i64 a4, .int .i64 a5, .int .i64 a6, .int .i64 a7, .int .i64 a8, .bool a9], .int .i64 n] w fun e w' => e = .returned (.bool true) ∧ Below w.heap.size w w' :=
  law_of Tells.ok ⟨l0, _, n, hw, rfl, rfl⟩ hG ⟨⟨C_pls hc0 hr0, rfl⟩, val_sg _, ⟨rfl, rfl⟩, trivial⟩
end Go.Proofs.YtechgjbhgeddjaaDoor.E
