/- SafeNext walked by the engine (own text). -/
import Derived.Test.YtpciieagafddcaaDoorQbESW
namespace Go.Proofs.YtpciieagafddcaaDoor.E
open Go Go.RowKit Go.Proofs Go.Proofs.YtpciieagafddcaaDoorW.PrintWords Go.Proofs.YtpciieagafddcaaDoorW.PrintLast Go.Proofs.YtpciieagafddcaaDoorW.PrintMore Go.Proofs.YtpciieagafddcaaDoor.F
set_option linter.unusedVariables false
set_option linter.unusedSimpArgs false
set_option maxRecDepth 100000
set_option maxHeartbeats 8000000
attribute [local irreducible] acode callR
namespace Next
open St Rw Safe
theorem Γx : ΓOk Tryd.prog (look [(28, SpAwake17), (29, SpFewAll), (30, SpDo), (41, SpTick)]) :=
  ((((ΓOk.nil.cons tick_ok Tryd.func41 (by kernel_rfl)).cons do_ok Tryd.func30 (by kernel_rfl)).cons fewAll_ok Tryd.func29 (by kernel_rfl)).cons Safe.awake_ok Tryd.func28 (by kernel_rfl))
/-- A stage that is asked for. -/
structure Asked (l : List S25) (s x : Sg) (a : Int) : Prop where
  may : PU.May l s
  rng : 0 ≤ a ∧ a < ((PU.P l s).f1.length : Int)
  free : PW.free s = true
  want : s.want = -1
  x : x = { s with ask := a }
theorem asked_of {l : List S25} {s x : Sg} {a : Int} (hw : PU.Wf s) (h : PW.doB l s 3 a = (x, 0)) : Asked l s x a := by
  by_cases hm : stage_mayB.f l s = true ∧ PW.turnsB 3 = true
  · have hM := PU.may_of hw hm.1
    rw [PW.doB_act hm.1 hm.2] at h
    rcases PW.act3 (l := l) (s := s) (arg := a) with ⟨h1, ⟨h2, h3, -⟩, e⟩ | ⟨-, e⟩ | ⟨-, -, e⟩
    · rw [e] at h
      injection h with h4 h5
      exact ⟨hM, h1, h2, h3, h4.symm⟩
    · rw [e] at h; cases h
    · rw [e] at h; cases h
  · rw [PW.doB_no hm] at h
    cases h
theorem then_of {l : List S25} {s : Sg} (hM : PU.May l s) (hf : PW.free s = true) (ha : 0 ≤ s.ask) : ((stage_tickB.f l s).phase = 0 ∧ (stage_tickB.f l s).ask = s.ask) ∨ ((stage_tickB.f l s).phase = 1 ∧ (stage_tickB.f l s).next = s.ask ∧ (stage_tickB.f l s).ask = -1) := by
  have hp : s.phase = 0 := by
    unfold PW.free at hf
    simp only [Bool.and_eq_true, decide_eq_true_eq] at hf
    exact hf.1
  have hh := hM.hold
  by_cases h1 : 0 < s.hold
  · rw [PV.tick_hold hM hp h1]
    exact .inl ⟨hp, rfl⟩
  · have hz : s.hold = 0 := by omega
    by_cases h2 : s.t + 1 < (PU.St l s).f1
    · rw [PV.tick_green_stay hM hp hz (.inl h2)]
      exact .inl ⟨hp, rfl⟩
    · rw [PV.tick_green_end hM hp hz (by omega) (.inl (St.asked_of (.inr (.inl (by omega))))), if_neg (by omega)]
      exact .inr ⟨rfl, rfl, rfl⟩
def SpNextL : List FV → FV → Prop := fun z r => ∃ l s a b, PU.Wf s ∧ z = [fPls l, fSg s, fI a, fI b] ∧ r = vB true
theorem ok : SpecOk Tryd.prog 11 (.pure SpNextL) := by
  refine spec_of_code TYok Γx mixed Tryd.func11 rfl ?_
  rintro args pre r post ⟨⟨l, s, a, b, hw, rfl, rfl⟩, rfl, rfl⟩
  refine ⟨rfl, ?_⟩
  obtain ⟨few, hfew⟩ := PU.fewAll_ev l
  obtain ⟨x, e, hx⟩ : ∃ x e, PW.doB l s 3 a = (x, e) := ⟨_, _, rfl⟩
  have hwx : PU.Wf x := by have := PW.do_wf (l := l) (c := 3) (arg := a) hw; rw [hx] at this; exact this
  obtain ⟨y, f, hy⟩ : ∃ y f, PW.doB l x 3 b = (y, f) := ⟨_, _, rfl⟩
  have hwy : PU.Wf y := by have := PW.do_wf (l := l) (c := 3) (arg := b) hwx; rw [hy] at this; exact this
  by_cases hef : e = 0 ∧ f = 0
  · obtain ⟨rfl, rfl⟩ := hef
    obtain ⟨hM, hra, hf, hwn, rfl⟩ := asked_of hw hx
    obtain ⟨hM2, hrb, hf2, hwn2, rfl⟩ := asked_of hwx hy
    have hMy : PU.May l { { s with ask := a } with ask := b } := by have := PW.do_may (c := 3) (arg := b) hM2; rw [hy] at this; exact this
    obtain ⟨u, hu⟩ : ∃ u, stage_tickB.f l { { s with ask := a } with ask := b } = u := ⟨_, rfl⟩
    have ht := then_of hMy hf2 hrb.1
    rw [hu] at ht
    repeat' (first | refine st_v rfl rfl rfl rfl (fun _ => rfl) rfl (fun _ => rfl) ?_ | refine st_skip rfl rfl rfl ?_ | refine st_b rfl rfl rfl rfl (fun _ => rfl) rfl (fun h1 => ?_) (fun h1 => ?_) | refine st_n rfl rfl rfl rfl (fun _ => rfl) rfl (fun _ => rfl) ?_ | refine st_s rfl rfl rfl rfl (fun _ => rfl) rfl (fun _ => rfl) ?_ | refine c_seq ?_ | refine c_region ?_ | refine c_plain rfl ?_ | refine c_drawn rfl (by kernel_rfl) ?_ | refine st_nil ?_ | refine c_norm ?_ | refine c_cret ?_ | refine c_ret ?_ | refine c_true rfl ?_ | refine c_false rfl ?_ | refine c_skip ?_ | refine c_block ?_ | refine c_bnorm ?_ | refine c_bret ?_ | refine c_bexit rfl ?_ | refine c_bpass rfl ?_ | refine c_exit ?_ | refine c_cexit ?_ | refine c_lret ?_ | refine c_lexit ?_ | refine c_scope ?_ | refine c_label ?_ | refine c_snorm ?_ | refine c_sret ?_ | refine c_sexit ?_ | refine st_call rfl rfl rfl rfl rfl rfl rfl (call_v (vB true) rfl ⟨rfl, rfl⟩ rfl rfl rfl (cb_v rfl (fun _ => rfl) ?_)) | refine st_call rfl rfl rfl rfl rfl rfl rfl (call_v (vB few) rfl ⟨l, few, rfl, rfl, hfew⟩ rfl rfl rfl (cb_b rfl (fun h1 => ?_) (fun h1 => ?_))) | refine st_call rfl rfl rfl rfl rfl rfl rfl (call_v (fDo ({ s with ask := a }, 0)) rfl ⟨l, s, 3, a, hw, rfl, by rw [hx]⟩ rfl rfl rfl (cb_v rfl (fun _ => rfl) ?_)) | refine st_call rfl rfl rfl rfl rfl rfl rfl (call_v (fDo ({ { s with ask := a } with ask := b }, 0)) rfl ⟨l, { s with ask := a }, 3, b, hwx, rfl, by rw [hy]⟩ rfl rfl rfl (cb_v rfl (fun _ => rfl) ?_)) | refine st_call rfl rfl rfl rfl rfl rfl rfl (call_v (fSg u) rfl ⟨l, { { s with ask := a } with ask := b }, hwy, rfl, by rw [hu]⟩ rfl rfl rfl (cb_v rfl (fun _ => rfl) ?_)) | fail)
    all_goals first
      | exact ⟨rfl, rfl, rfl, trivial⟩
      | (exfalso
         clear hw hfew hM hM2 hMy hx hy hu hwx hwy hf hf2 hwn hwn2 hra hrb
         rcases ht with ⟨g1, g2⟩ | ⟨g1, g2, g3⟩ <;> simp_all)
  · repeat' (first | refine st_v rfl rfl rfl rfl (fun _ => rfl) rfl (fun _ => rfl) ?_ | refine st_skip rfl rfl rfl ?_ | refine st_b rfl rfl rfl rfl (fun _ => rfl) rfl (fun h1 => ?_) (fun h1 => ?_) | refine st_n rfl rfl rfl rfl (fun _ => rfl) rfl (fun _ => rfl) ?_ | refine st_s rfl rfl rfl rfl (fun _ => rfl) rfl (fun _ => rfl) ?_ | refine c_seq ?_ | refine c_region ?_ | refine c_plain rfl ?_ | refine c_drawn rfl (by kernel_rfl) ?_ | refine st_nil ?_ | refine c_norm ?_ | refine c_cret ?_ | refine c_ret ?_ | refine c_true rfl ?_ | refine c_false rfl ?_ | refine c_skip ?_ | refine c_block ?_ | refine c_bnorm ?_ | refine c_bret ?_ | refine c_bexit rfl ?_ | refine c_bpass rfl ?_ | refine c_exit ?_ | refine c_cexit ?_ | refine c_lret ?_ | refine c_lexit ?_ | refine c_scope ?_ | refine c_label ?_ | refine c_snorm ?_ | refine c_sret ?_ | refine c_sexit ?_ | refine st_call rfl rfl rfl rfl rfl rfl rfl (call_v (vB true) rfl ⟨rfl, rfl⟩ rfl rfl rfl (cb_v rfl (fun _ => rfl) ?_)) | refine st_call rfl rfl rfl rfl rfl rfl rfl (call_v (vB few) rfl ⟨l, few, rfl, rfl, hfew⟩ rfl rfl rfl (cb_b rfl (fun h1 => ?_) (fun h1 => ?_))) | refine st_call rfl rfl rfl rfl rfl rfl rfl (call_v (fDo (x, e)) rfl ⟨l, s, 3, a, hw, rfl, by rw [hx]⟩ rfl rfl rfl (cb_v rfl (fun _ => rfl) ?_)) | refine st_call rfl rfl rfl rfl rfl rfl rfl (call_v (fDo (y, f)) rfl ⟨l, x, 3, b, hwx, rfl, by rw [hy]⟩ rfl rfl rfl (cb_v rfl (fun _ => rfl) ?_)) | fail)
    all_goals first
      | exact ⟨rfl, rfl, rfl, trivial⟩
      | (exfalso
         exact hef ⟨by simpa using (by assumption : (e != 0) = false), by simpa using (by assumption : (f != 0) = false)⟩)
end Next
theorem SafeNext_calls (A0 : Option Addr) (c0 : Nat) (l0 : List S25) (a0 a1 a2 a3 a4 a5 a6 a7 a8 : Int) (a9 : Bool) (a b : Int) (w : World) (hr0 : k25.C w A0 l0.length l0) (hc0 : l0.length ≤ c0) (hG : GlobOk w) (hw : PU.Wf ⟨a0, a1, a2, a3, a4, a5, a6, a7, a8, a9⟩) :
    Calls Tryd.prog 11 #[.slice A0 l0.length c0, .agg #[.int .i64 a0, .int .i64 a1, .int .i64 a2, .int .i64 a3, .int .i64 a4, .int .i64 a5, .int .i64 a6, .int .i64 a7, .int .i64 a8, .bool a9], .int .i64 a, .int .i64 b] w fun e w' => e = .returned (.bool true) ∧ Below w.heap.size w w' :=
  law_of Next.ok ⟨l0, _, a, b, hw, rfl, rfl⟩ hG ⟨⟨C_pls hc0 hr0, rfl⟩, val_sg _, ⟨rfl, rfl⟩, ⟨rfl, rfl⟩, trivial⟩
end Go.Proofs.YtpciieagafddcaaDoor.E
