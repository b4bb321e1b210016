/- The plain law of LampFree: what a plan shows may be, has a lamp for each group, and never clashes. -/
import Derived.Test.YtechgjbhgeddjaaDoorDLampFree
import Derived.Test.YtechgjbhgeddjaaDoorPL
namespace Go.Proofs.YtechgjbhgeddjaaDoor.Pure
open Go.RowKit Go.Proofs.YtechgjbhgeddjaaDoorW.PrintWords Go.Proofs.YtechgjbhgeddjaaDoorW.PrintLast Go.Proofs.YtechgjbhgeddjaaDoorW.PrintMore Go.Proofs.YtechgjbhgeddjaaDoor.F Go.Proofs.YtechgjbhgeddjaaDoor.PG Go.Proofs.YtechgjbhgeddjaaDoor.PM Go.Proofs.YtechgjbhgeddjaaDoor.PP Go.Proofs.YtechgjbhgeddjaaDoor.PQ Go.Proofs.YtechgjbhgeddjaaDoor.PL
theorem LampFree (l0_0 : List Int) (l0_1 : List S41) (a0_2 a0_3 a0_4 a1 a2 : Int) : ∃ k, pelicanlaw15_LampFree.f k l0_0 l0_1 a0_2 a0_3 a0_4 a1 a2 = some true := by
  refine Ev.rounds ?_
  refine Ev.congr (fun n => rfl) (Ev.bind PL.awake_ev ?_)
  have hup : Ev (fun n => pelicanlaw15_LampFree.j0 n a1 a2 true true l0_0 l0_1 a0_2 a0_3 a0_4) true := Ev.step (f := fun _ => some true) (fun n => by simp only [pelicanlaw15_LampFree.j0, if_true]) (Ev.now _)
  simp only [if_true, few_f, Option.bind_some]
  by_cases hfew : l0_0.length ≤ 10 ∧ l0_1.length ≤ 10
  · rw [decide_eq_true hfew]
    have hfit := fit_ev l0_0 l0_1 a0_2 a0_3 a0_4 (by omega)
    cases hf : plan_fitB.f l0_0 l0_1 a0_2 a0_3 a0_4 with
    | false =>
      rw [hf] at hfit
      refine Ev.step (fun n => by simp only [pelicanlaw15_LampFree.j0, Bool.not_true, Bool.false_eq_true, if_false]; rfl) ?_
      have hsn := show_none (m := l0_0) (ss := l0_1) (am := a0_2) (red := a0_3) (hold := a0_4) (a := a1) (ph := a2) (fun hh => by rw [hf] at hh; cases hh.1)
      simp only [hsn, Option.bind_some]
      refine Ev.bind hfit ?_
      simp only [Bool.false_eq_true, if_false]
      exact Ev.now _
    | true =>
      have h := (fits_iff _ _ _ _ _).1 hf
      rw [hf] at hfit
      refine Ev.step (fun n => by simp only [pelicanlaw15_LampFree.j0, Bool.not_true, Bool.false_eq_true, if_false]; rfl) ?_
      by_cases hin : 0 ≤ a1 ∧ a1 < (l0_1.length : Int) ∧ 0 ≤ a2 ∧ a2 < 3
      · obtain ⟨h1, h2, h3, h4⟩ := hin
        have hc := clash_ev l0_0 l0_1 a0_2 a0_3 a0_4 (lamp_showL.f l0_0.length (rd_T41 l0_1 a1).f0 (lamp_on.f a2)) (by omega)
        rw [show_clash h ⟨h1, h2⟩] at hc
        have hm := show_may l0_0.length (rd_T41 l0_1 a1).f0 (lamp_on.f a2) ⟨h.may.len1, h.may.len8⟩ (on_rng a2)
        simp only [show_eq h ⟨h1, h2⟩ ⟨h3, h4⟩, Option.bind_some]
        refine Ev.bind hfit ?_
        have c1 : a1 ≥ 0 := h1
        have c3 : a2 ≥ 0 := h3
        simp only [if_true, c1, h2, c3, h4, show_len, lamp_May.f, Option.bind_some, hm]
        refine Ev.bind hc ?_
        exact Ev.now _
      · have hsn := show_none (m := l0_0) (ss := l0_1) (am := a0_2) (red := a0_3) (hold := a0_4) (a := a1) (ph := a2) (fun hh => hin hh.2)
        simp only [hsn, Option.bind_some]
        refine Ev.bind hfit ?_
        simp only [if_true, List.length_nil]
        by_cases c1 : a1 ≥ 0
        · by_cases c2 : a1 < (l0_1.length : Int)
          · by_cases c3 : a2 ≥ 0
            · have c4 : ¬ a2 < 3 := fun c4 => hin ⟨c1, c2, c3, c4⟩
              simp only [c1, c2, c3, c4, if_true, if_false]
              exact Ev.now _
            · simp only [c1, c2, c3, if_true, if_false]
              exact Ev.now _
          · simp only [c1, c2, if_true, if_false]
            exact Ev.now _
        · simp only [c1, if_false]
          exact Ev.now _
  · rw [decide_eq_false hfew]
    exact hup
end Go.Proofs.YtechgjbhgeddjaaDoor.Pure
