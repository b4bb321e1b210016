/- The plain law of LampShow: just the groups of the stage are green, or amber, in that phase, and all are red in the red one. -/
import Derived.Test.YtechgjbhgeddjaaDoorDLampShow
import Derived.Test.YtechgjbhgeddjaaDoorPL
namespace Go.Proofs.YtechgjbhgeddjaaDoor.Pure
open Go.RowKit Go.Proofs.YtechgjbhgeddjaaDoorW.PrintWords Go.Proofs.YtechgjbhgeddjaaDoorW.PrintLast Go.Proofs.YtechgjbhgeddjaaDoorW.PrintMore Go.Proofs.YtechgjbhgeddjaaDoor.F Go.Proofs.YtechgjbhgeddjaaDoor.PG Go.Proofs.YtechgjbhgeddjaaDoor.PM Go.Proofs.YtechgjbhgeddjaaDoor.PP Go.Proofs.YtechgjbhgeddjaaDoor.PQ Go.Proofs.YtechgjbhgeddjaaDoor.PL
theorem LampShow (l0_0 : List Int) (l0_1 : List S41) (a0_2 a0_3 a0_4 a1 a2 : Int) : ∃ k, pelicanlaw15_LampShow.f k l0_0 l0_1 a0_2 a0_3 a0_4 a1 a2 = some true := by
  refine Ev.rounds ?_
  refine Ev.congr (fun n => rfl) (Ev.bind PL.awake_ev ?_)
  have hup : Ev (fun n => pelicanlaw15_LampShow.j0 n a1 a2 true true l0_0 l0_1 a0_2 a0_3 a0_4) true := Ev.step (f := fun _ => some true) (fun n => by simp only [pelicanlaw15_LampShow.j0, if_true]) (Ev.now _)
  simp only [if_true, few_f, Option.bind_some]
  by_cases hfew : l0_0.length ≤ 10 ∧ l0_1.length ≤ 10
  · rw [decide_eq_true hfew]
    simp only [if_true]
    refine Ev.bind (fit_ev l0_0 l0_1 a0_2 a0_3 a0_4 (by omega)) ?_
    cases hf : plan_fitB.f l0_0 l0_1 a0_2 a0_3 a0_4 with
    | false => simp only [Bool.false_eq_true, if_false]; exact hup
    | true =>
      have h := (fits_iff _ _ _ _ _).1 hf
      simp only [if_true]
      by_cases c1 : a1 < 0
      · simp only [c1, if_true]; exact hup
      by_cases d1 : a1 ≥ (l0_1.length : Int)
      · simp only [c1, d1, if_true, if_false]; exact hup
      by_cases c2 : a2 < 0
      · simp only [c1, d1, c2, if_true, if_false]; exact hup
      by_cases d2 : a2 ≥ (l0_0.length : Int)
      · simp only [c1, d1, c2, d2, if_false, decide_true]; exact hup
      simp only [c1, d1, c2, d2, if_false, decide_false]
      obtain ⟨k, rfl⟩ := Int.eq_ofNat_of_zero_le (show 0 ≤ a1 by omega)
      obtain ⟨g, rfl⟩ := Int.eq_ofNat_of_zero_le (show 0 ≤ a2 by omega)
      have hk : k < l0_1.length := by omega
      have hg : g < l0_0.length := by omega
      have h8 := h.may.len8
      have hp8 := h.may.p8
      obtain ⟨G, hG, hlt, _⟩ := stage_set h hk
      have e0 := show_eq h (a := (k : Int)) (ph := 0) ⟨by omega, by omega⟩ ⟨by omega, by omega⟩
      have e1 := show_eq h (a := (k : Int)) (ph := 1) ⟨by omega, by omega⟩ ⟨by omega, by omega⟩
      have e2 := show_eq h (a := (k : Int)) (ph := 2) ⟨by omega, by omega⟩ ⟨by omega, by omega⟩
      rw [hG] at e0 e1 e2
      have hr : ∀ on : Int, rd (lamp_showL.f l0_0.length (G : Int) on) (g : Int) = if G.testBit g then on else 0 := fun on => by
        have := show_get l0_0.length (G : Int) on g hg
        rw [Int.toNat_natCast] at this
        rw [← this]
        simp [rd]
      have hb := bit_facts G (by omega) g (by omega)
      refine Ev.step (f := fun _ => some true) (fun n => ?_) (Ev.now _)
      simp only [pelicanlaw15_LampShow.j0, Bool.false_eq_true, if_false, e0, e1, e2, Option.bind_some, show_len, if_true, hG, hr, hb]
      have p1 : (0 : Int) ≤ (k : Int) := by omega
      have p2 : (k : Int) < (l0_1.length : Int) := by omega
      have p3 : (0 : Int) ≤ (g : Int) := by omega
      have p4 : (g : Int) < (l0_0.length : Int) := by omega
      simp only [p1, p2, p3, p4, if_true]
      cases G.testBit g <;> simp [lamp_on.f]
  · rw [decide_eq_false hfew]
    simp only [Bool.false_eq_true, if_false]
    exact hup
end Go.Proofs.YtechgjbhgeddjaaDoor.Pure
