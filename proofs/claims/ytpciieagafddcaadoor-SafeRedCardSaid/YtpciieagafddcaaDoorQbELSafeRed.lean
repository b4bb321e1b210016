/- SafeRed walked by the engine (own text). -/
import Derived.Test.YtpciieagafddcaaDoorQbESW
namespace Go.Proofs.YtpciieagafddcaaDoor.E
open Go Go.RowKit Go.Proofs Go.Proofs.YtpciieagafddcaaDoorW.PrintWords Go.Proofs.YtpciieagafddcaaDoorW.PrintLast Go.Proofs.YtpciieagafddcaaDoorW.PrintMore Go.Proofs.YtpciieagafddcaaDoor.F
set_option linter.unusedVariables false
set_option linter.unusedSimpArgs false
set_option maxRecDepth 100000
set_option maxHeartbeats 8000000
attribute [local irreducible] acode callR
namespace Red
open St Rw Safe
theorem Γr : ΓOk Tryd.prog (look [(28, SpAwake17), (29, SpFewAll), (30, SpDo), (40, SpMay)]) :=
  ((((ΓOk.nil.cons may_ok Tryd.func40 (by kernel_rfl)).cons do_ok Tryd.func30 (by kernel_rfl)).cons fewAll_ok Tryd.func29 (by kernel_rfl)).cons Safe.awake_ok Tryd.func28 (by kernel_rfl))
def stp (s : Sg) : Sg := { s with stop := true, hold := 0 }
theorem red_do {l : List S25} {s : Sg} (h : PU.May l s) : PW.doB l s 5 0 = (stp s, 0) := by
  rw [PW.doB_act (PU.may_to h) (by decide)]
  rfl
theorem red_may {l : List S25} {s : Sg} (h : PU.May l s) : PU.May l (stp s) := by
  have := PW.do_may (c := 5) (arg := 0) h
  rwa [red_do h] at this
theorem no_hold {l : List S25} {s : Sg} {arg : Int} (h : PU.May l s) : ∃ t e, PW.doB l (stp s) 1 arg = (t, e) ∧ e ≠ 0 := by
  rw [PW.doB_act (PU.may_to (red_may h)) (by decide)]
  rcases PW.act1 (l := l) (s := stp s) (arg := arg) with ⟨-, ⟨h1, -⟩, -⟩ | ⟨-, e⟩ | ⟨-, -, e⟩
  · unfold PW.free stp at h1; simp at h1
  · exact ⟨_, _, e, by decide⟩
  · exact ⟨_, _, e, by decide⟩
theorem no_next {l : List S25} {s : Sg} {arg : Int} (h : PU.May l s) : ∃ t e, PW.doB l (stp s) 3 arg = (t, e) ∧ e ≠ 0 := by
  rw [PW.doB_act (PU.may_to (red_may h)) (by decide)]
  rcases PW.act3 (l := l) (s := stp s) (arg := arg) with ⟨-, ⟨h1, -⟩, -⟩ | ⟨-, e⟩ | ⟨-, -, e⟩
  · unfold PW.free stp at h1; simp at h1
  · exact ⟨_, _, e, by decide⟩
  · exact ⟨_, _, e, by decide⟩
theorem no_plan {l : List S25} {s : Sg} {arg : Int} (h : PU.May l s) : ∃ t e, PW.doB l (stp s) 4 arg = (t, e) ∧ e ≠ 0 := by
  rw [PW.doB_act (PU.may_to (red_may h)) (by decide)]
  rcases PW.act4 (l := l) (s := stp s) (arg := arg) with ⟨-, ⟨h1, -⟩, -⟩ | ⟨-, e⟩ | ⟨-, -, e⟩
  · unfold stp at h1; simp at h1
  · exact ⟨_, _, e, by decide⟩
  · exact ⟨_, _, e, by decide⟩
theorem clr {l : List S25} {s : Sg} (h : PU.May l s) : ∃ u e, PW.doB l (stp s) 6 0 = (u, e) ∧ ((s.phase = 2 ∧ e = 0 ∧ u.stop = false) ∨ (s.phase ≠ 2 ∧ e = 11)) := by
  rw [PW.doB_act (PU.may_to (red_may h)) (by decide)]
  rcases PW.act6 (l := l) (s := stp s) (arg := 0) with ⟨-, ⟨-, h1⟩, e⟩ | ⟨h1, e⟩ | ⟨-, h1, e⟩
  · exact ⟨_, _, e, .inl ⟨h1, rfl, rfl⟩⟩
  · exact absurd rfl h1
  · exact ⟨_, _, e, .inr ⟨fun hp => h1 ⟨rfl, hp⟩, rfl⟩⟩
def SpRed : List FV → FV → Prop := fun a r => ∃ l s arg, PU.Wf s ∧ a = [fPls l, fSg s, fI arg] ∧ r = vB true
theorem ok : SpecOk Tryd.prog 10 (.pure SpRed) := by
  refine spec_of_code TYok Γr mixed Tryd.func10 rfl ?_
  rintro args pre r post ⟨⟨l, s, arg, hw, rfl, rfl⟩, rfl, rfl⟩
  refine ⟨rfl, ?_⟩
  obtain ⟨few, hfew⟩ := PU.fewAll_ev l
  cases hm : stage_mayB.f l s with
  | false =>
    repeat' (first | refine st_v rfl rfl rfl rfl (fun _ => rfl) rfl (fun _ => rfl) ?_ | refine st_skip rfl rfl rfl ?_ | refine st_b rfl rfl rfl rfl (fun _ => rfl) rfl (fun h1 => ?_) (fun h1 => ?_) | refine st_n rfl rfl rfl rfl (fun _ => rfl) rfl (fun _ => rfl) ?_ | refine st_s rfl rfl rfl rfl (fun _ => rfl) rfl (fun _ => rfl) ?_ | refine c_seq ?_ | refine c_region ?_ | refine c_plain rfl ?_ | refine c_drawn rfl (by kernel_rfl) ?_ | refine st_nil ?_ | refine c_norm ?_ | refine c_cret ?_ | refine c_ret ?_ | refine c_true rfl ?_ | refine c_false rfl ?_ | refine c_skip ?_ | refine c_block ?_ | refine c_bnorm ?_ | refine c_bret ?_ | refine c_bexit rfl ?_ | refine c_bpass rfl ?_ | refine c_exit ?_ | refine c_cexit ?_ | refine c_lret ?_ | refine c_lexit ?_ | refine c_scope ?_ | refine c_label ?_ | refine c_snorm ?_ | refine c_sret ?_ | refine c_sexit ?_ | refine st_call rfl rfl rfl rfl rfl rfl rfl (call_v (vB true) rfl ⟨rfl, rfl⟩ rfl rfl rfl (cb_v rfl (fun _ => rfl) ?_)) | refine st_call rfl rfl rfl rfl rfl rfl rfl (call_v (vB few) rfl ⟨l, few, rfl, rfl, hfew⟩ rfl rfl rfl (cb_b rfl (fun h1 => ?_) (fun h1 => ?_))) | refine st_call rfl rfl rfl rfl rfl rfl rfl (call_v (vB false) rfl ⟨l, s, rfl, by rw [hm]⟩ rfl rfl rfl (cb_v rfl (fun _ => rfl) ?_)) | fail)
    all_goals exact ⟨rfl, rfl, rfl, trivial⟩
  | true =>
    have hM := PU.may_of hw hm
    have hd := red_do hM
    have hwt := (red_may hM).wf
    obtain ⟨t1, e1, d1, n1⟩ := no_hold (arg := arg) hM
    obtain ⟨t2, e2, d2, n2⟩ := no_next (arg := arg) hM
    obtain ⟨t3, e3, d3, n3⟩ := no_plan (arg := arg) hM
    obtain ⟨u, e4, d4, n4⟩ := clr hM
    repeat' (first | refine st_v rfl rfl rfl rfl (fun _ => rfl) rfl (fun _ => rfl) ?_ | refine st_skip rfl rfl rfl ?_ | refine st_b rfl rfl rfl rfl (fun _ => rfl) rfl (fun h1 => ?_) (fun h1 => ?_) | refine st_n rfl rfl rfl rfl (fun _ => rfl) rfl (fun _ => rfl) ?_ | refine st_s rfl rfl rfl rfl (fun _ => rfl) rfl (fun _ => rfl) ?_ | refine c_seq ?_ | refine c_region ?_ | refine c_plain rfl ?_ | refine c_drawn rfl (by kernel_rfl) ?_ | refine st_nil ?_ | refine c_norm ?_ | refine c_cret ?_ | refine c_ret ?_ | refine c_true rfl ?_ | refine c_false rfl ?_ | refine c_skip ?_ | refine c_block ?_ | refine c_bnorm ?_ | refine c_bret ?_ | refine c_bexit rfl ?_ | refine c_bpass rfl ?_ | refine c_exit ?_ | refine c_cexit ?_ | refine c_lret ?_ | refine c_lexit ?_ | refine c_scope ?_ | refine c_label ?_ | refine c_snorm ?_ | refine c_sret ?_ | refine c_sexit ?_ | refine st_call rfl rfl rfl rfl rfl rfl rfl (call_v (vB true) rfl ⟨rfl, rfl⟩ rfl rfl rfl (cb_v rfl (fun _ => rfl) ?_)) | refine st_call rfl rfl rfl rfl rfl rfl rfl (call_v (vB few) rfl ⟨l, few, rfl, rfl, hfew⟩ rfl rfl rfl (cb_b rfl (fun h1 => ?_) (fun h1 => ?_))) | refine st_call rfl rfl rfl rfl rfl rfl rfl (call_v (vB true) rfl ⟨l, s, rfl, by rw [hm]⟩ rfl rfl rfl (cb_v rfl (fun _ => rfl) ?_)) | refine st_call rfl rfl rfl rfl rfl rfl rfl (call_v (fDo (stp s, 0)) rfl ⟨l, s, 5, 0, hw, rfl, by rw [hd]⟩ rfl rfl rfl (cb_v rfl (fun _ => rfl) ?_)) | refine st_call rfl rfl rfl rfl rfl rfl rfl (call_v (fDo (t1, e1)) rfl ⟨l, stp s, 1, arg, hwt, rfl, by rw [d1]⟩ rfl rfl rfl (cb_v rfl (fun _ => rfl) ?_)) | refine st_call rfl rfl rfl rfl rfl rfl rfl (call_v (fDo (t2, e2)) rfl ⟨l, stp s, 3, arg, hwt, rfl, by rw [d2]⟩ rfl rfl rfl (cb_v rfl (fun _ => rfl) ?_)) | refine st_call rfl rfl rfl rfl rfl rfl rfl (call_v (fDo (t3, e3)) rfl ⟨l, stp s, 4, arg, hwt, rfl, by rw [d3]⟩ rfl rfl rfl (cb_v rfl (fun _ => rfl) ?_)) | refine st_call rfl rfl rfl rfl rfl rfl rfl (call_v (fDo (u, e4)) rfl ⟨l, stp s, 6, 0, hwt, rfl, by rw [d4]⟩ rfl rfl rfl (cb_v rfl (fun _ => rfl) ?_)) | fail)
    all_goals first
      | exact ⟨rfl, rfl, rfl, trivial⟩
      | (exfalso
         clear hw hfew hM hm hd hwt d1 d2 d3 d4
         rcases n4 with ⟨g1, g2, g3⟩ | ⟨g1, g2⟩ <;> (first | subst g2 | skip) <;> simp_all [stp])
end Red
theorem SafeRed_calls (A0 : Option Addr) (c0 : Nat) (l0 : List S25) (a0 a1 a2 a3 a4 a5 a6 a7 a8 : Int) (a9 : Bool) (arg : Int) (w : World) (hr0 : k25.C w A0 l0.length l0) (hc0 : l0.length ≤ c0) (hG : GlobOk w) (hw : PU.Wf ⟨a0, a1, a2, a3, a4, a5, a6, a7, a8, a9⟩) :
    Calls Tryd.prog 10 #[.slice A0 l0.length c0, .agg #[.int .i64 a0, .int .i64 a1, .int .i64 a2, .int .i64 a3, .int .i64 a4, .int .i64 a5, .int .i64 a6, .int .i64 a7, .int .i64 a8, .bool a9], .int .i64 arg] w fun e w' => e = .returned (.bool true) ∧ Below w.heap.size w w' :=
  law_of Red.ok ⟨l0, _, arg, hw, rfl, rfl⟩ hG ⟨⟨C_pls hc0 hr0, rfl⟩, val_sg _, ⟨rfl, rfl⟩, trivial⟩
end Go.Proofs.YtpciieagafddcaaDoor.E
