/- The plain law of LampTells: what a plan shows, rows, their texts, and whether they clash, are what the document says. -/
import Derived.Test.YtechgjbhgeddjaaDoorDLampTells
import Derived.Test.YtechgjbhgeddjaaDoorRL
namespace Go.Proofs.YtechgjbhgeddjaaDoor.Pure
open Go.RowKit Go.Proofs.YtechgjbhgeddjaaDoorW.PrintWords Go.Proofs.YtechgjbhgeddjaaDoorW.PrintLast Go.Proofs.YtechgjbhgeddjaaDoorW.PrintMore Go.Proofs.YtechgjbhgeddjaaDoor.F Go.Proofs.YtechgjbhgeddjaaDoor.PG Go.Proofs.YtechgjbhgeddjaaDoor.PM Go.Proofs.YtechgjbhgeddjaaDoor.PP Go.Proofs.YtechgjbhgeddjaaDoor.PQ Go.Proofs.YtechgjbhgeddjaaDoor.PL Go.Proofs.YtechgjbhgeddjaaDoor.RF Go.Proofs.YtechgjbhgeddjaaDoor.RL
theorem LampTells (l0_0 : List Int) (l0_1 : List S41) (a0_2 a0_3 a0_4 a1 a2 : Int) (l3 : List Int) (a4 : ByteArray) : ∃ k, pelicanlaw15_LampTells.f k l0_0 l0_1 a0_2 a0_3 a0_4 a1 a2 l3 a4 = some true := by
  refine Ev.rounds ?_
  refine Ev.congr (fun n => rfl) (Ev.bind PL.awake_ev ?_)
  have hup : Ev (fun n => pelicanlaw15_LampTells.j0 n a1 a2 l3 a4 true true l0_0 l0_1 a0_2 a0_3 a0_4) true := Ev.step (f := fun _ => some true) (fun n => by simp only [pelicanlaw15_LampTells.j0, if_true]) (Ev.now _)
  simp only [if_true, few_f, Option.bind_some]
  by_cases hfew : l0_0.length ≤ 10 ∧ l0_1.length ≤ 10
  · rw [decide_eq_true hfew]
    simp only [if_true]
    by_cases c1 : (l3.length : Int) > 20
    · simp only [c1, if_true]; exact hup
    by_cases c2 : (a4.size : Int) > 40
    · simp only [c1, c2, if_false, decide_true]; exact hup
    simp only [c1, c2, if_false, decide_false]
    obtain ⟨v, hv, hvr⟩ := read15_ev a4
    obtain ⟨u, hu, hur⟩ := show15_ev l0_0 l0_1 a0_2 a0_3 a0_4 a1 a2
    have hv8 : v.1.length ≤ 8 := by
      rcases read_some a4 with h | ⟨y, h, hm, _⟩
      · rw [h] at hvr; obtain rfl := Option.some.inj hvr; simp
      · rw [h] at hvr; obtain rfl := Option.some.inj hvr; exact (may_len hm).2
    have hul : u.length ≤ 10 := by
      unfold lamp_Show.f at hur
      obtain rfl := Option.some.inj hur
      split
      · rw [show_len]; exact hfew.1
      · simp
    refine Ev.step (fun n => by simp only [pelicanlaw15_LampTells.j0, Bool.false_eq_true, if_false]; rfl) ?_
    simp only [hvr, hur, Option.bind_some]
    refine Ev.bind hv (Ev.bind (ints_ev v.1 v.1 (by omega)) (Ev.bind hu (Ev.bind (ints_ev u u (by omega)) (Ev.bind (may15_ev l3 (by omega)) (Ev.bind (clash15_ev l0_0 l0_1 a0_2 a0_3 a0_4 l3 (by omega)) ?_)))))
    simp only [decide_true, if_true, beq_self_eq_true, lamp_May.f, lamp_Text.f, Option.bind_some]
    refine Ev.bind (text15_ev l3 (by omega)) ?_
    simp only [if_true]
    refine Ev.bind (clash_ev l0_0 l0_1 a0_2 a0_3 a0_4 l3 (by omega)) ?_
    simp only [beq_self_eq_true]
    exact Ev.now _
  · rw [decide_eq_false hfew]
    simp only [Bool.false_eq_true, if_false]
    exact hup
end Go.Proofs.YtechgjbhgeddjaaDoor.Pure
