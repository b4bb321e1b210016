/- The plain law of StageStays: what may be stays so; what it shows has a lamp for each group, and never clashes. -/
import Derived.Test.YtechgjbhgeddjaaDoorDStageStays
import Derived.Test.YtechgjbhgeddjaaDoorPU
namespace Go.Proofs.YtechgjbhgeddjaaDoor.Pure
open Go.RowKit Go.Proofs.YtechgjbhgeddjaaDoorW.PrintWords Go.Proofs.YtechgjbhgeddjaaDoorW.PrintLast Go.Proofs.YtechgjbhgeddjaaDoorW.PrintMore Go.Proofs.YtechgjbhgeddjaaDoor.F Go.Proofs.YtechgjbhgeddjaaDoor.PG Go.Proofs.YtechgjbhgeddjaaDoor.PM Go.Proofs.YtechgjbhgeddjaaDoor.PP Go.Proofs.YtechgjbhgeddjaaDoor.PQ Go.Proofs.YtechgjbhgeddjaaDoor.PL Go.Proofs.YtechgjbhgeddjaaDoor.PT Go.Proofs.YtechgjbhgeddjaaDoor.PU
theorem StageStays (l0 : List S39) (a1_0 a1_1 a1_2 a1_3 a1_4 a1_5 a1_6 a1_7 a1_8 : Int) (a1_9 : Bool) (hw : Wf ⟨a1_0, a1_1, a1_2, a1_3, a1_4, a1_5, a1_6, a1_7, a1_8, a1_9⟩) : ∃ k, pelicanlaw16_StageStays.f k l0 a1_0 a1_1 a1_2 a1_3 a1_4 a1_5 a1_6 a1_7 a1_8 a1_9 = some true := by
  refine Ev.rounds ?_
  obtain ⟨b, hb⟩ := fewAll_ev l0
  refine Ev.congr (fun n => rfl) (Ev.bind awake16_ev (Ev.bind hb ?_))
  simp only [if_true]
  have hup : Ev (fun n => pelicanlaw16_StageStays.j0 n l0 true true a1_0 a1_1 a1_2 a1_3 a1_4 a1_5 a1_6 a1_7 a1_8 a1_9) true := Ev.step (f := fun _ => some true) (fun n => by simp only [pelicanlaw16_StageStays.j0, if_true]) (Ev.now _)
  cases b with
  | false => exact hup
  | true =>
    obtain ⟨s, hs⟩ : ∃ s : Sg, s = ⟨a1_0, a1_1, a1_2, a1_3, a1_4, a1_5, a1_6, a1_7, a1_8, a1_9⟩ := ⟨_, rfl⟩
    rw [← hs] at hw
    have key : Ev (fun n => pelicanlaw16_StageStays.j0 n l0 true false s.plan s.stage s.next s.phase s.t s.hold s.held s.ask s.want s.stop) true := by
      refine Ev.step (fun n => ?_) (Ev.bind (may_rounds l0 s) (f := fun n t619 => if t619 = true then ((stage_May.f n l0 (stage_tickB.f l0 s).plan (stage_tickB.f l0 s).stage (stage_tickB.f l0 s).next (stage_tickB.f l0 s).phase (stage_tickB.f l0 s).t (stage_tickB.f l0 s).hold (stage_tickB.f l0 s).held (stage_tickB.f l0 s).ask (stage_tickB.f l0 s).want (stage_tickB.f l0 s).stop).bind fun t623 => if t623 = true then (if (stage_tickB.f l0 s).plan < 0 then (pelicanlaw16_StageStays.j1 n l0 true (stage_tickB.f l0 s).plan (stage_tickB.f l0 s).stage (stage_tickB.f l0 s).next (stage_tickB.f l0 s).phase (stage_tickB.f l0 s).t (stage_tickB.f l0 s).hold (stage_tickB.f l0 s).held (stage_tickB.f l0 s).ask (stage_tickB.f l0 s).want (stage_tickB.f l0 s).stop) else (pelicanlaw16_StageStays.j1 n l0 (decide ((stage_tickB.f l0 s).plan ≥ (l0.length : Int))) (stage_tickB.f l0 s).plan (stage_tickB.f l0 s).stage (stage_tickB.f l0 s).next (stage_tickB.f l0 s).phase (stage_tickB.f l0 s).t (stage_tickB.f l0 s).hold (stage_tickB.f l0 s).held (stage_tickB.f l0 s).ask (stage_tickB.f l0 s).want (stage_tickB.f l0 s).stop)) else (pelicanlaw16_StageStays.j1 n l0 true (stage_tickB.f l0 s).plan (stage_tickB.f l0 s).stage (stage_tickB.f l0 s).next (stage_tickB.f l0 s).phase (stage_tickB.f l0 s).t (stage_tickB.f l0 s).hold (stage_tickB.f l0 s).held (stage_tickB.f l0 s).ask (stage_tickB.f l0 s).want (stage_tickB.f l0 s).stop)) else (if ((stage_tickB.f l0 s).plan == s.plan && ((stage_tickB.f l0 s).stage == s.stage && ((stage_tickB.f l0 s).next == s.next && ((stage_tickB.f l0 s).phase == s.phase && ((stage_tickB.f l0 s).t == s.t && ((stage_tickB.f l0 s).hold == s.hold && ((stage_tickB.f l0 s).held == s.held && ((stage_tickB.f l0 s).ask == s.ask && ((stage_tickB.f l0 s).want == s.want && ((stage_tickB.f l0 s).stop == s.stop)))))))))) = true then ((stage_Lamps.f n l0 s.plan s.stage s.next s.phase s.t s.hold s.held s.ask s.want s.stop).bind fun t620 => (some ((t620.length : Int) == 0))) else (some false))) ?_)
      · simp only [pelicanlaw16_StageStays.j0, Bool.false_eq_true, if_false, tick_f, Option.bind_some]
      · cases hm : stage_mayB.f l0 s with
        | false =>
          have ht : stage_tickB.f l0 s = s := by unfold stage_tickB.f; rw [if_neg (by rw [hm]; simp)]
          simp only [ht, beq_self_eq_true, Bool.and_self, Bool.false_eq_true, if_false, if_true]
          have hl := lamps_ev l0 s hw
          have e : lampsB l0 s = [] := by unfold lampsB; rw [hm]; rfl
          rw [e] at hl
          exact Ev.bind hl (Ev.now _)
        | true =>
          have h := may_of hw hm
          have h2 := tick_may h
          have hr := h2.rows
          have hmay := may_rounds l0 (stage_tickB.f l0 s)
          generalize stage_tickB.f l0 s = t at *
          rw [may_to h2] at hmay
          have h3 := h2.plan
          have c1 : ¬ (t.plan < 0) := by omega
          have c2 : ¬ (t.plan ≥ (l0.length : Int)) := by omega
          simp only [if_true]
          refine Ev.bind hmay ?_
          simp only [if_true, c1, c2, if_false, decide_false]
          refine Ev.step (fun n => ?_) (Ev.bind (f := fun n t624 => if (t624.length : Int) = (((rd_T39 l0 0).f0).length : Int) then ((lamp_May.f t624).bind fun t628 => (if t628 = true then ((lamp_Clash.f n (P l0 t).f0 (P l0 t).f1 (P l0 t).f2 (P l0 t).f3 (P l0 t).f4 t624).bind fun t630 => (some (!t630))) else (some false))) else (some false)) (lamps_ev l0 t h2.wf) ?_)
          · have c3 : (0 : Int) < (l0.length : Int) := by omega
            simp only [pelicanlaw16_StageStays.j1, Bool.false_eq_true, if_false]
            simp only [c3, h3.1, h3.2, if_true]
          · have e1 : ((lampsB l0 t).length : Int) = (((rd_T39 l0 0).f0).length : Int) := by rw [hr.1]
            simp only [e1, if_true]
            have e2 : lamp_May.f (lampsB l0 t) = some true := by unfold lamp_May.f; rw [hr.2.1]
            simp only [e2, Option.bind_some, if_true]
            have hc := clash_ev (P l0 t).f0 (P l0 t).f1 (P l0 t).f2 (P l0 t).f3 (P l0 t).f4 (lampsB l0 t) (by have := h2.fits.few; omega)
            rw [hr.2.2] at hc
            exact Ev.bind hc (Ev.now _)
    rw [hs] at key
    exact key
end Go.Proofs.YtechgjbhgeddjaaDoor.Pure
