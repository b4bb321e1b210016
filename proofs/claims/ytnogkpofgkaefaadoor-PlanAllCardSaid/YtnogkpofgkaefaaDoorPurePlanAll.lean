/- The plain law of PlanAll: some plans fit together just if each fits, there are from 1 to 3, and all have as many groups; the order is the same. -/
import Derived.Test.YtnogkpofgkaefaaDoorDPlanAll
import Derived.Test.YtnogkpofgkaefaaDoorPQ
namespace Go.Proofs.YtnogkpofgkaefaaDoor.Pure
open Go.RowKit Go.Proofs.YtnogkpofgkaefaaDoorW.PrintWords Go.Proofs.YtnogkpofgkaefaaDoorW.PrintLast Go.Proofs.YtnogkpofgkaefaaDoorW.PrintMore Go.Proofs.YtnogkpofgkaefaaDoor.F Go.Proofs.YtnogkpofgkaefaaDoor.PG Go.Proofs.YtnogkpofgkaefaaDoor.PM Go.Proofs.YtnogkpofgkaefaaDoor.PP Go.Proofs.YtnogkpofgkaefaaDoor.PQ
namespace PlanAll
def fitP (x : S37) : Bool := plan_fitB.f x.f0 x.f1 x.f2 x.f3 x.f4
theorem all1 (x : S37) : plan_All.f [x] = some (fitP x) := by
  have hr : rd_T37 [x] 0 = x := rfl
  unfold plan_All.f
  rw [hr]
  simp only [List.any_cons, List.any_nil, plan_badB.f, Bool.or_false, ne_eq, not_true, decide_false, Bool.not_not, fitP]
  simp
theorem all3 (x y z : S37) : plan_All.f [x, y, z] = some (fitP x && (fitP y && (fitP z && (decide (x.f0.length = y.f0.length) && decide (y.f0.length = z.f0.length))))) := by
  have hr : rd_T37 [x, y, z] 0 = x := rfl
  unfold plan_All.f
  rw [hr]
  congr 1
  have e : decide (1 ≤ [x, y, z].length ∧ [x, y, z].length ≤ 3) = true := decide_eq_true (by simp)
  rw [e, Bool.true_and]
  simp only [List.any_cons, List.any_nil, plan_badB.f, Bool.or_false, ne_eq, not_true, decide_false, fitP]
  cases plan_fitB.f x.f0 x.f1 x.f2 x.f3 x.f4 <;> cases plan_fitB.f y.f0 y.f1 y.f2 y.f3 y.f4 <;> cases plan_fitB.f z.f0 z.f1 z.f2 z.f3 z.f4 <;> simp only [Bool.not_false, Bool.not_true, Bool.true_or, Bool.or_true, Bool.false_or, Bool.false_and, Bool.and_false, Bool.true_and]
  by_cases h1 : x.f0.length = y.f0.length
  · by_cases h2 : y.f0.length = z.f0.length
    · simp [h1, h2]
    · have h3 : ¬ z.f0.length = x.f0.length := by omega
      simp [h2, h3]
  · have h3 : ¬ y.f0.length = x.f0.length := by omega
    simp [h1, h3]
theorem all4 (x y z t : S37) : plan_All.f [x, y, z, t] = some false := by
  unfold plan_All.f
  rw [decide_eq_false (by simp), Bool.false_and]
end PlanAll
open PlanAll
theorem PlanAll (l0_0 : List Int) (l0_1 : List S47) (a0_2 a0_3 a0_4 : Int) (l1_0 : List Int) (l1_1 : List S47) (a1_2 a1_3 a1_4 : Int) (l2_0 : List Int) (l2_1 : List S47) (a2_2 a2_3 a2_4 : Int) : ∃ k, pelicanlaw14_PlanAll.f k l0_0 l0_1 a0_2 a0_3 a0_4 l1_0 l1_1 a1_2 a1_3 a1_4 l2_0 l2_1 a2_2 a2_3 a2_4 = some true := by
  refine Ev.rounds ?_
  refine Ev.congr (fun n => rfl) (Ev.bind PQ.awake_ev ?_)
  have h0 : plan_All.f ([] : List S37) = some false := by unfold plan_All.f; rfl
  have hup : Ev (fun n => pelicanlaw14_PlanAll.j0 n true true l0_0 l0_1 a0_2 a0_3 a0_4 l1_0 l1_1 a1_2 a1_3 a1_4 l2_0 l2_1 a2_2 a2_3 a2_4) true := Ev.step (f := fun _ => some true) (fun n => by simp only [pelicanlaw14_PlanAll.j0, if_true, h0, Option.bind_some, Bool.not_false]) (Ev.now _)
  simp only [if_true, few_f, Option.bind_some, h0]
  by_cases h1 : l0_0.length ≤ 10 ∧ l0_1.length ≤ 10
  · by_cases h2 : l1_0.length ≤ 10 ∧ l1_1.length ≤ 10
    · by_cases h3 : l2_0.length ≤ 10 ∧ l2_1.length ≤ 10
      · rw [decide_eq_true h1, decide_eq_true h2, decide_eq_true h3]
        simp only [if_true]
        have hj2 : ∀ m : Bool, m = (decide (l0_0.length = l1_0.length) && decide (l1_0.length = l2_0.length)) → Ev (fun n => pelicanlaw14_PlanAll.j2 n (fitP ⟨l0_0, l0_1, a0_2, a0_3, a0_4⟩ && (fitP ⟨l1_0, l1_1, a1_2, a1_3, a1_4⟩ && fitP ⟨l2_0, l2_1, a2_2, a2_3, a2_4⟩)) m l0_0 l0_1 a0_2 a0_3 a0_4 l1_0 l1_1 a1_2 a1_3 a1_4 l2_0 l2_1 a2_2 a2_3 a2_4) true := by
          intro m hm
          have hs : (decide (l2_0.length = l0_0.length) && decide (l0_0.length = l1_0.length)) = m := by
            rw [hm, Bool.eq_iff_iff]
            simp only [Bool.and_eq_true, decide_eq_true_eq]
            omega
          have ha := all3 ⟨l0_0, l0_1, a0_2, a0_3, a0_4⟩ ⟨l1_0, l1_1, a1_2, a1_3, a1_4⟩ ⟨l2_0, l2_1, a2_2, a2_3, a2_4⟩
          have hb := all3 ⟨l2_0, l2_1, a2_2, a2_3, a2_4⟩ ⟨l0_0, l0_1, a0_2, a0_3, a0_4⟩ ⟨l1_0, l1_1, a1_2, a1_3, a1_4⟩
          simp only at ha hb
          rw [← hm] at ha
          rw [hs] at hb
          have hfit := fit_ev l0_0 l0_1 a0_2 a0_3 a0_4 (by omega)
          have hend : Ev (fun n => (plan_Fit.f n l0_0 l0_1 a0_2 a0_3 a0_4).bind fun t => if (fitP ⟨l0_0, l0_1, a0_2, a0_3, a0_4⟩ == t) = true then some (!false) else some false) true := by
            refine Ev.bind hfit ?_
            have e : (fitP ⟨l0_0, l0_1, a0_2, a0_3, a0_4⟩ == plan_fitB.f l0_0 l0_1 a0_2 a0_3 a0_4) = true := beq_self_eq_true _
            rw [e]
            exact Ev.now _
          refine Ev.step (fun n => ?_) hend
          simp only [pelicanlaw14_PlanAll.j2, ha, hb, all1, all4, Option.bind_some]
          cases fitP ⟨l0_0, l0_1, a0_2, a0_3, a0_4⟩ <;> cases fitP ⟨l1_0, l1_1, a1_2, a1_3, a1_4⟩ <;> cases fitP ⟨l2_0, l2_1, a2_2, a2_3, a2_4⟩ <;> cases m <;> rfl
        have hj1 : Ev (fun n => pelicanlaw14_PlanAll.j1 n (fitP ⟨l0_0, l0_1, a0_2, a0_3, a0_4⟩ && (fitP ⟨l1_0, l1_1, a1_2, a1_3, a1_4⟩ && fitP ⟨l2_0, l2_1, a2_2, a2_3, a2_4⟩)) l0_0 l0_1 a0_2 a0_3 a0_4 l1_0 l1_1 a1_2 a1_3 a1_4 l2_0 l2_1 a2_2 a2_3 a2_4) true := by
          by_cases e : l0_0.length = l1_0.length
          · refine Ev.step (fun n => ?_) (hj2 ((l1_0.length : Int) == (l2_0.length : Int)) ?_)
            · simp only [pelicanlaw14_PlanAll.j1]
              rw [if_pos (by omega)]
            · rw [Bool.eq_iff_iff]
              simp only [beq_iff_eq, Bool.and_eq_true, decide_eq_true_eq]
              omega
          · refine Ev.step (fun n => ?_) (hj2 false ?_)
            · simp only [pelicanlaw14_PlanAll.j1]
              rw [if_neg (by omega)]
            · rw [decide_eq_false e, Bool.false_and]
        have g0 := fit_ev l0_0 l0_1 a0_2 a0_3 a0_4 (by omega)
        have g1 := fit_ev l1_0 l1_1 a1_2 a1_3 a1_4 (by omega)
        have g2 := fit_ev l2_0 l2_1 a2_2 a2_3 a2_4 (by omega)
        unfold fitP at hj1
        simp only at hj1
        refine Ev.step (fun n => by simp only [pelicanlaw14_PlanAll.j0, Bool.false_eq_true, if_false]; rfl) (Ev.bind g0 ?_)
        cases e0 : plan_fitB.f l0_0 l0_1 a0_2 a0_3 a0_4 with
        | false => rw [e0] at hj1; simp only [Bool.false_eq_true, if_false]; exact hj1
        | true =>
          rw [e0] at hj1
          simp only [if_true]
          refine Ev.bind g1 ?_
          cases e1 : plan_fitB.f l1_0 l1_1 a1_2 a1_3 a1_4 with
          | false => rw [e1] at hj1; simp only [Bool.false_eq_true, if_false]; exact hj1
          | true =>
            rw [e1] at hj1
            simp only [if_true]
            refine Ev.bind g2 ?_
            exact hj1
      · rw [decide_eq_true h1, decide_eq_true h2, decide_eq_false h3]
        simp only [Bool.false_eq_true, if_true, if_false]
        exact hup
    · rw [decide_eq_true h1, decide_eq_false h2]
      simp only [Bool.false_eq_true, if_true, if_false]
      exact hup
  · rw [decide_eq_false h1]
    simp only [Bool.false_eq_true, if_false]
    exact hup
end Go.Proofs.YtnogkpofgkaefaaDoor.Pure
