/- SafePlan walked by the engine (own text). -/
import Derived.Test.YtpciieagafddcaaDoorQbESW
namespace Go.Proofs.YtpciieagafddcaaDoor.E
open Go Go.RowKit Go.Proofs Go.Proofs.YtpciieagafddcaaDoorW.PrintWords Go.Proofs.YtpciieagafddcaaDoorW.PrintLast Go.Proofs.YtpciieagafddcaaDoorW.PrintMore Go.Proofs.YtpciieagafddcaaDoor.F
set_option linter.unusedVariables false
set_option linter.unusedSimpArgs false
set_option maxRecDepth 100000
set_option maxHeartbeats 8000000
attribute [local irreducible] acode callR
namespace PlanL
open St Rw Safe
theorem Γp : ΓOk Tryd.prog (look [(28, SpAwake17), (29, SpFewAll), (30, SpDo), (41, SpTick)]) :=
  ((((ΓOk.nil.cons tick_ok Tryd.func41 (by kernel_rfl)).cons do_ok Tryd.func30 (by kernel_rfl)).cons fewAll_ok Tryd.func29 (by kernel_rfl)).cons Safe.awake_ok Tryd.func28 (by kernel_rfl))
/-- A plan that is asked for. -/
structure Asked (l : List S25) (s t : Sg) (k : Int) : Prop where
  may : PU.May l t
  rng : 0 ≤ k ∧ k < (l.length : Int)
  plan : t.plan = s.plan
  want : t.want = k
  ne : k ≠ s.plan
theorem asked_of {l : List S25} {s t : Sg} {k : Int} (hw : PU.Wf s) (h : PW.doB l s 4 k = (t, 0)) : Asked l s t k := by
  by_cases hm : stage_mayB.f l s = true ∧ PW.turnsB 4 = true
  · have hM := PU.may_of hw hm.1
    have hd := PW.do_may (c := 4) (arg := k) hM
    rw [h] at hd
    rw [PW.doB_act hm.1 hm.2] at h
    rcases PW.act4 (l := l) (s := s) (arg := k) with ⟨h1, ⟨h2, h3⟩, e⟩ | ⟨-, e⟩ | ⟨-, -, e⟩
    · rw [e] at h
      injection h with h4 h5
      subst h4
      exact ⟨hd, h1, rfl, rfl, h3⟩
    · rw [e] at h; cases h
    · rw [e] at h; cases h
  · rw [PW.doB_no hm] at h
    cases h
/-- A tick of a machine of which another plan is asked. -/
theorem step {l : List S25} {t : Sg} {k : Int} (hM : PU.May l t) (hk : 0 ≤ k) (hw : t.want = k) (hn : k ≠ t.plan) :
    ((stage_tickB.f l t).plan = k ∧ (stage_tickB.f l t).stage = 0 ∧ (stage_tickB.f l t).phase = 0 ∧ (stage_tickB.f l t).t = 0 ∧ (stage_tickB.f l t).want = -1 ∧ t.phase = 2) ∨
    ((stage_tickB.f l t).plan = t.plan ∧ (stage_tickB.f l t).want = k ∧ ¬ (t.phase = 2 ∧ (stage_tickB.f l t).phase = 0)) := by
  have hph := hM.phase
  have hh := hM.hold
  rcases (by omega : t.phase = 0 ∨ t.phase = 1 ∨ t.phase = 2) with hp | hp | hp
  · refine .inr ?_
    by_cases h1 : 0 < t.hold
    · rw [PV.tick_hold hM hp h1]
      exact ⟨rfl, hw, fun h => by omega⟩
    · have hz : t.hold = 0 := by omega
      by_cases h2 : t.t + 1 < (PU.St l t).f1
      · rw [PV.tick_green_stay hM hp hz (.inl h2)]
        exact ⟨rfl, hw, fun h => by omega⟩
      · rw [PV.tick_green_end hM hp hz (by omega) (.inl (St.asked_of (.inr (.inr (by omega)))))]
        exact ⟨rfl, hw, fun h => by omega⟩
  · refine .inr ?_
    by_cases h1 : t.t + 1 = (PU.P l t).f2
    · rw [PV.tick_amber_end hM hp h1]
      exact ⟨rfl, hw, fun h => by omega⟩
    · rw [PV.tick_amber_stay hM hp h1]
      exact ⟨rfl, hw, fun h => by omega⟩
  · by_cases h1 : t.t + 1 < (PU.P l t).f3
    · rw [PV.tick_red_stay hM hp h1]
      exact .inr ⟨rfl, hw, fun h => by have h2 : t.phase = 0 := h.2; omega⟩
    · cases hs : t.stop with
      | true =>
        rw [PV.tick_red_stop hM hp (by omega) hs]
        exact .inr ⟨rfl, hw, fun h => by have h2 : t.phase = 0 := h.2; omega⟩
      | false =>
        rw [PV.tick_red_want hM hp (by omega) hs (by omega)]
        exact .inl ⟨hw, rfl, rfl, rfl, rfl, hp⟩
theorem blk_eq2 {hp : HP} {id : Nat} {ids : List Nat} {t t' : Sg} (h : look hp id = some (some ((sgB t).ren ids))) (ht : t = t') : look hp id = some (some ((sgB t').ren ids)) := by subst ht; exact h
def SpPlanL : List FV → FV → Prop := fun z r => ∃ l s k n, PU.Wf s ∧ z = [fPls l, fSg s, fI k, fI n] ∧ r = vB true
theorem ok : SpecOk Tryd.prog 12 (.pure SpPlanL) := by
  refine spec_of_code TYok Γp mixed Tryd.func12 rfl ?_
  rintro args pre r post ⟨⟨l, s, k, n, hw, rfl, rfl⟩, rfl, rfl⟩
  refine ⟨rfl, ?_⟩
  obtain ⟨few, hfew⟩ := PU.fewAll_ev l
  obtain ⟨t, e, hte⟩ : ∃ t e, PW.doB l s 4 k = (t, e) := ⟨_, _, rfl⟩
  by_cases he : e = 0
  · subst he
    have hA := asked_of hw hte
    repeat' (first | refine st_v rfl rfl rfl rfl (fun _ => rfl) rfl (fun _ => rfl) ?_ | refine st_skip rfl rfl rfl ?_ | refine st_b rfl rfl rfl rfl (fun _ => rfl) rfl (fun h1 => ?_) (fun h1 => ?_) | refine st_n rfl rfl rfl rfl (fun _ => rfl) rfl (fun _ => rfl) ?_ | refine st_s rfl rfl rfl rfl (fun _ => rfl) rfl (fun _ => rfl) ?_ | refine c_seq ?_ | refine c_region ?_ | refine c_plain rfl ?_ | refine c_drawn rfl (by kernel_rfl) ?_ | refine st_nil ?_ | refine c_norm ?_ | refine c_cret ?_ | refine c_ret ?_ | refine c_true rfl ?_ | refine c_false rfl ?_ | refine c_skip ?_ | refine c_block ?_ | refine c_bnorm ?_ | refine c_bret ?_ | refine c_bexit rfl ?_ | refine c_bpass rfl ?_ | refine c_exit ?_ | refine c_cexit ?_ | refine c_lret ?_ | refine c_lexit ?_ | refine c_scope ?_ | refine c_label ?_ | refine c_snorm ?_ | refine c_sret ?_ | refine c_sexit ?_ | refine st_call rfl rfl rfl rfl rfl rfl rfl (call_v (vB true) rfl ⟨rfl, rfl⟩ rfl rfl rfl (cb_v rfl (fun _ => rfl) ?_)) | refine st_call rfl rfl rfl rfl rfl rfl rfl (call_v (vB few) rfl ⟨l, few, rfl, rfl, hfew⟩ rfl rfl rfl (cb_b rfl (fun h1 => ?_) (fun h1 => ?_))) | refine st_call rfl rfl rfl rfl rfl rfl rfl (call_v (fDo (t, 0)) rfl ⟨l, s, 4, k, hw, rfl, by rw [hte]⟩ rfl rfl rfl (cb_v rfl (fun _ => rfl) ?_)) | fail)
    all_goals first
      | exact ⟨rfl, rfl, rfl, trivial⟩
      | skip
    have hn0 : 0 ≤ n ∧ n ≤ 60 := by
      clear hw hfew hA hte
      simp only [decide_eq_true_eq, decide_eq_false_iff_not] at *
      omega
    obtain ⟨m, rfl⟩ := Int.eq_ofNat_of_zero_le hn0.1
    refine c_loop (fun i : Nat => i ≤ m ∧ (PV.tickN l i t).plan = s.plan ∧ (PV.tickN l i t).want = k) (fun i => [(13, fI (i : Int)), (0, fPls l), (2, fI k), (3, fI (m : Int)), (5, .t (.one (.ptr 0 0))), (11, .t (.one (.ptr 1 0)))])
      (fun i => [(0, some (sgB s)), (1, some (sgB (PV.tickN l i t)))]) (fun i => m - i) [0, 28] 0 ⟨Nat.zero_le _, hA.plan, hA.want⟩ rfl ⟨rfl, rfl, rfl, rfl, rfl, rfl, rfl, rfl, rfl, rfl, rfl, rfl, trivial⟩ ⟨⟨rfl, rfl, rfl⟩, ⟨rfl, rfl, rfl⟩, trivial⟩ rfl (fun i hi => ?_)
    obtain ⟨hi, hpl, hwa⟩ := hi
    have hMi := PV.tickN_may i hA.may
    have hst := step hMi hA.rng.1 hwa (by rw [hpl]; exact hA.ne)
    have htk : PV.tickN l (i + 1) t = stage_tickB.f l (PV.tickN l i t) := PV.tickN_add l i 1 t
    have hwi := hMi.wf
    obtain ⟨x, hx⟩ : ∃ x, PV.tickN l i t = x := ⟨_, rfl⟩
    rw [hx] at hst htk hpl hwa hwi ⊢
    obtain ⟨u, hu⟩ : ∃ u, stage_tickB.f l x = u := ⟨_, rfl⟩
    rw [hu] at hst htk
    have hne := hA.ne
    clear hA hMi hx
    repeat' (first | refine st_v rfl rfl rfl rfl (fun _ => rfl) rfl (fun _ => rfl) ?_ | refine st_skip rfl rfl rfl ?_ | refine st_b rfl rfl rfl rfl (fun _ => rfl) rfl (fun h1 => ?_) (fun h1 => ?_) | refine st_n rfl rfl rfl rfl (fun _ => rfl) rfl (fun _ => rfl) ?_ | refine st_s rfl rfl rfl rfl (fun _ => rfl) rfl (fun _ => rfl) ?_ | refine c_seq ?_ | refine c_region ?_ | refine c_plain rfl ?_ | refine c_drawn rfl (by kernel_rfl) ?_ | refine st_nil ?_ | refine c_norm ?_ | refine c_cret ?_ | refine c_ret ?_ | refine c_true rfl ?_ | refine c_false rfl ?_ | refine c_skip ?_ | refine c_block ?_ | refine c_bnorm ?_ | refine c_bret ?_ | refine c_bexit rfl ?_ | refine c_bpass rfl ?_ | refine c_exit ?_ | refine c_cexit ?_ | refine c_lret ?_ | refine c_lexit ?_ | refine c_scope ?_ | refine c_label ?_ | refine c_snorm ?_ | refine c_sret ?_ | refine c_sexit ?_ | refine st_call rfl rfl rfl rfl rfl rfl rfl (call_v (fSg u) rfl ⟨l, x, hwi, rfl, by rw [hu]⟩ rfl rfl rfl (cb_v rfl (fun _ => rfl) ?_)) | fail)
    · exact ⟨rfl, rfl, rfl, trivial⟩
    all_goals first
      | exact ⟨rfl, rfl, rfl, trivial⟩
      | (exfalso
         clear hw hfew hte hwi hu htk
         rcases hst with ⟨g1, g2, g3, g4, g5, g6⟩ | ⟨g1, g2, g3⟩ <;> (simp_all; done))
      | (have hg : u.plan = x.plan ∧ u.want = k := by
           clear hw hfew hte hwi hu htk
           rcases hst with ⟨g1, g2, g3, g4, g5, g6⟩ | ⟨g1, g2, g3⟩
           · exfalso
             simp_all
           · exact ⟨g1, g2⟩
         have him : i < m := by have := of_decide_eq_true (by assumption : decide ((i : Int) < (m : Int)) = true); omega
         exact c_lnorm [0, 1] (i + 1) ⟨him, by rw [htk, hg.1, hpl], by rw [htk]; exact hg.2⟩ (by show m - (i + 1) < m - i; omega) rfl ⟨fI_eq' ((St.wr64 (by omega) (by omega)).trans (by omega : (i : Int) + 1 = ((i + 1 : Nat) : Int))), rfl, rfl, rfl, rfl, rfl, rfl, rfl, rfl, rfl, rfl, rfl, trivial⟩ ⟨⟨rfl, rfl, rfl⟩, ⟨blk_eq2 (t := u) rfl htk.symm, rfl, rfl⟩, trivial⟩ rfl)
  · have hs : s = t := by
      have h1 := PW.do_err (l := l) (s := s) (c := 4) (arg := k) (by rw [hte]; exact he)
      rw [hte] at h1
      exact h1.symm
    subst hs
    repeat' (first | refine st_v rfl rfl rfl rfl (fun _ => rfl) rfl (fun _ => rfl) ?_ | refine st_skip rfl rfl rfl ?_ | refine st_b rfl rfl rfl rfl (fun _ => rfl) rfl (fun h1 => ?_) (fun h1 => ?_) | refine st_n rfl rfl rfl rfl (fun _ => rfl) rfl (fun _ => rfl) ?_ | refine st_s rfl rfl rfl rfl (fun _ => rfl) rfl (fun _ => rfl) ?_ | refine c_seq ?_ | refine c_region ?_ | refine c_plain rfl ?_ | refine c_drawn rfl (by kernel_rfl) ?_ | refine st_nil ?_ | refine c_norm ?_ | refine c_cret ?_ | refine c_ret ?_ | refine c_true rfl ?_ | refine c_false rfl ?_ | refine c_skip ?_ | refine c_block ?_ | refine c_bnorm ?_ | refine c_bret ?_ | refine c_bexit rfl ?_ | refine c_bpass rfl ?_ | refine c_exit ?_ | refine c_cexit ?_ | refine c_lret ?_ | refine c_lexit ?_ | refine c_scope ?_ | refine c_label ?_ | refine c_snorm ?_ | refine c_sret ?_ | refine c_sexit ?_ | refine st_call rfl rfl rfl rfl rfl rfl rfl (call_v (vB true) rfl ⟨rfl, rfl⟩ rfl rfl rfl (cb_v rfl (fun _ => rfl) ?_)) | refine st_call rfl rfl rfl rfl rfl rfl rfl (call_v (vB few) rfl ⟨l, few, rfl, rfl, hfew⟩ rfl rfl rfl (cb_b rfl (fun h1 => ?_) (fun h1 => ?_))) | refine st_call rfl rfl rfl rfl rfl rfl rfl (call_v (fDo (s, e)) rfl ⟨l, s, 4, k, hw, rfl, by rw [hte]⟩ rfl rfl rfl (cb_v rfl (fun _ => rfl) ?_)) | fail)
    all_goals first
      | exact ⟨rfl, rfl, rfl, trivial⟩
      | exact absurd (by assumption : eqV _ _ = false) (by simp [eqV])
      | exact absurd (by assumption : (e != 0) = false) (by simpa using he)
end PlanL
theorem SafePlan_calls (A0 : Option Addr) (c0 : Nat) (l0 : List S25) (a0 a1 a2 a3 a4 a5 a6 a7 a8 : Int) (a9 : Bool) (k n : Int) (w : World) (hr0 : k25.C w A0 l0.length l0) (hc0 : l0.length ≤ c0) (hG : GlobOk w) (hw : PU.Wf ⟨a0, a1, a2, a3, a4, a5, a6, a7, a8, a9⟩) :
    Calls Tryd.prog 12 #[.slice A0 l0.length c0, .agg #[.int .i64 a0, .int .i64 a1, .int .i64 a2, .int .i64 a3, .int .i64 a4, .int .i64 a5, .int .i64 a6, .int .i64 a7, .int .i64 a8, .bool a9], .int .i64 k, .int .i64 n] w fun e w' => e = .returned (.bool true) ∧ Below w.heap.size w w' :=
  law_of PlanL.ok ⟨l0, _, k, n, hw, rfl, rfl⟩ hG ⟨⟨C_pls hc0 hr0, rfl⟩, val_sg _, ⟨rfl, rfl⟩, ⟨rfl, rfl⟩, trivial⟩
end Go.Proofs.YtpciieagafddcaaDoor.E
