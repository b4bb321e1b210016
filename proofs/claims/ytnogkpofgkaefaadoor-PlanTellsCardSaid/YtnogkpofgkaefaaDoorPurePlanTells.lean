/- The plain law of PlanTells: what a plan is, alone and with others, is what the document says. -/
import Derived.Test.YtnogkpofgkaefaaDoorDPlanTells
import Derived.Test.YtnogkpofgkaefaaDoorDR14
import Derived.Test.YtnogkpofgkaefaaDoorRT
namespace Go.Proofs.YtnogkpofgkaefaaDoor.Pure
open Go.RowKit Go.Proofs.YtnogkpofgkaefaaDoorW.PrintWords Go.Proofs.YtnogkpofgkaefaaDoorW.PrintLast Go.Proofs.YtnogkpofgkaefaaDoorW.PrintMore Go.Proofs.YtnogkpofgkaefaaDoor.F Go.Proofs.YtnogkpofgkaefaaDoor.PG Go.Proofs.YtnogkpofgkaefaaDoor.PM Go.Proofs.YtnogkpofgkaefaaDoor.PP Go.Proofs.YtnogkpofgkaefaaDoor.PQ Go.Proofs.YtnogkpofgkaefaaDoor.RT
namespace PlanTells
theorem least_eq (m : List Int) (ss : List S47) (am red hold a : Int) (hm : m.length ≤ 10) (hl : ss.length ≤ 10) : ∃ v, Ev (fun n => plan_Least.f n m ss am red hold a) v ∧ Ev (fun n => pelicanref14_Least.f n m ss am red hold a) v := by
  have hno : Ev (fun n => pelicanref14_Least.j0 n a true m ss am red hold) 0 := Ev.step (f := fun _ => some 0) (fun n => by simp only [pelicanref14_Least.j0, if_true]) (Ev.now _)
  have hno' : Ev (fun n => plan_Least.j0 n a true m ss am red hold) 0 := Ev.step (f := fun _ => some 0) (fun n => by simp only [plan_Least.j0, if_true]) (Ev.now _)
  cases hf : plan_fitB.f m ss am red hold with
  | false =>
    refine ⟨0, Ev.congr (fun n => rfl) (Ev.bind (fit_ev m ss am red hold (by omega)) ?_), Ev.congr (fun n => rfl) (Ev.bind (rfit_ev m ss am red hold) ?_)⟩
    · rw [hf]; simp only [Bool.false_eq_true, if_false]; exact hno'
    · rw [hf]; simp only [Bool.false_eq_true, if_false]; exact hno
  | true =>
    have h := (fits_iff _ _ _ _ _).1 hf
    have h8 := h.may.len8
    by_cases hk : 0 ≤ a ∧ a < (m.length : Int)
    · obtain ⟨g, rfl⟩ := Int.eq_ofNat_of_zero_le hk.1
      have hg : g < m.length := by omega
      refine ⟨_, PlanLeast.least_ev h hg, Ev.congr (fun n => rfl) (Ev.bind (rfit_ev m ss am red hold) ?_)⟩
      have c1 : ¬ ((g : Int) < 0) := by omega
      have c2 : ¬ ((g : Int) ≥ (m.length : Int)) := by omega
      rw [hf]
      simp only [if_true, c1, c2, if_false, decide_false]
      have key := rleast_loop m am red hold (PlanLeast.stage_lt h) h.few.2 (g := g) (by omega) ss.length 0 (Nat.zero_add _) 0
      rw [List.drop_zero, rleast_zero g ss (fun s hs => (h.stage s hs).2.2.1) (PlanLeast.had_bit h hg)] at key
      refine Ev.step (fun n => ?_) key
      simp only [pelicanref14_Least.j0, Bool.false_eq_true, if_false]
      rfl
    · refine ⟨0, Ev.congr (fun n => rfl) (Ev.bind (fit_ev m ss am red hold (by omega)) ?_), Ev.congr (fun n => rfl) (Ev.bind (rfit_ev m ss am red hold) ?_)⟩
      · rw [hf]
        simp only [if_true, in_some, Option.bind_some]
        rw [wr (by omega) (by omega), decide_eq_false (show ¬ ((0 : Int) ≤ a ∧ a ≤ (m.length : Int) - 1) by omega)]
        exact hno'
      · rw [hf]
        simp only [if_true]
        by_cases c1 : a < 0
        · simp only [c1, if_true]; exact hno
        · have c2 : a ≥ (m.length : Int) := by omega
          simp only [c1, c2, if_false, decide_true]; exact hno
theorem fewAll_loop (l : List S37) : ∀ d k : Nat, k + d = 6 → ∃ b, Ev (fun n => pelicanlaw14_FewAll.l0 n l (k : Int)) b := by
  have hj : ∀ k : Nat, Ev (fun n => pelicanlaw14_FewAll.j1 n l (k : Int) false) (decide ((l.length : Int) ≤ 5)) := fun k => Ev.step (f := fun _ => some (decide ((l.length : Int) ≤ 5))) (fun n => by simp only [pelicanlaw14_FewAll.j1, Bool.false_eq_true, if_false]) (Ev.now _)
  intro d
  induction d with
  | zero =>
    intro k hk
    refine ⟨_, Ev.step (fun n => ?_) (hj k)⟩
    simp only [pelicanlaw14_FewAll.l0]
    rw [decide_eq_false (show ¬ ((k : Int) ≤ 5) by omega), ite_self]
  | succ d ih =>
    intro k hk
    by_cases hlt : k < l.length
    · obtain ⟨b, hb⟩ := ih (k + 1) (by omega)
      have e1 : ((k : Int) + 1) = ((k + 1 : Nat) : Int) := by omega
      have key : ∃ b, Ev (fun n => pelicanlaw14_FewAll.j1 n l (k : Int) true) b := by
        cases hfw : decide ((rd_T37 l (k : Int)).f0.length ≤ 10 ∧ (rd_T37 l (k : Int)).f1.length ≤ 10) with
        | true =>
          refine ⟨b, Ev.step (fun n => ?_) hb⟩
          simp only [pelicanlaw14_FewAll.j1, if_true, few_f, Option.bind_some]
          rw [if_pos (by omega), if_pos (by omega), hfw, if_pos rfl, wr (by omega) (by omega), e1]
        | false =>
          refine ⟨false, Ev.step (f := fun _ => some false) (fun n => ?_) (Ev.now _)⟩
          simp only [pelicanlaw14_FewAll.j1, if_true, few_f, Option.bind_some]
          rw [if_pos (by omega), if_pos (by omega), hfw, if_neg (by simp)]
      obtain ⟨b, hb⟩ := key
      refine ⟨b, Ev.step (fun n => ?_) hb⟩
      simp only [pelicanlaw14_FewAll.l0]
      rw [if_pos (by omega), decide_eq_true (show (k : Int) ≤ 5 by omega)]
    · refine ⟨_, Ev.step (fun n => ?_) (hj k)⟩
      simp only [pelicanlaw14_FewAll.l0]
      rw [if_neg (by omega)]
end PlanTells
open PlanTells
theorem PlanTells (l0_0 : List Int) (l0_1 : List S47) (a0_2 a0_3 a0_4 : Int) (l1_0 : List Int) (l1_1 : List S47) (a1_2 a1_3 a1_4 : Int) (l2 : List S37) (a3 a4 : Int) : ∃ k, pelicanlaw14_PlanTells.f k l0_0 l0_1 a0_2 a0_3 a0_4 l1_0 l1_1 a1_2 a1_3 a1_4 l2 a3 a4 = some true := by
  refine Ev.rounds ?_
  refine Ev.congr (fun n => rfl) (Ev.bind PQ.awake_ev ?_)
  have hup : Ev (fun n => pelicanlaw14_PlanTells.j0 n l2 a3 a4 true true l0_0 l0_1 a0_2 a0_3 a0_4 l1_0 l1_1 a1_2 a1_3 a1_4) true := Ev.step (f := fun _ => some true) (fun n => by simp only [pelicanlaw14_PlanTells.j0, if_true]) (Ev.now _)
  obtain ⟨b, hb⟩ := fewAll_loop l2 6 0 (by omega)
  simp only [if_true, few_f, Option.bind_some]
  refine Ev.bind (f := fun n t334 => if decide (l0_0.length ≤ 10 ∧ l0_1.length ≤ 10) = true then (if decide (l1_0.length ≤ 10 ∧ l1_1.length ≤ 10) = true then pelicanlaw14_PlanTells.j0 n l2 a3 a4 true (!t334) l0_0 l0_1 a0_2 a0_3 a0_4 l1_0 l1_1 a1_2 a1_3 a1_4 else pelicanlaw14_PlanTells.j0 n l2 a3 a4 true true l0_0 l0_1 a0_2 a0_3 a0_4 l1_0 l1_1 a1_2 a1_3 a1_4) else pelicanlaw14_PlanTells.j0 n l2 a3 a4 true true l0_0 l0_1 a0_2 a0_3 a0_4 l1_0 l1_1 a1_2 a1_3 a1_4) hb ?_
  by_cases h1 : l0_0.length ≤ 10 ∧ l0_1.length ≤ 10
  · by_cases h2 : l1_0.length ≤ 10 ∧ l1_1.length ≤ 10
    · rw [decide_eq_true h1, decide_eq_true h2]
      simp only [if_true]
      cases b with
      | false => exact hup
      | true =>
        obtain ⟨s, hs1, hs2⟩ := same_eq l0_0 l0_1 a0_2 a0_3 a0_4 l1_0 l1_1 a1_2 a1_3 a1_4 h1.1 h1.2
        obtain ⟨x, hx1, hx2⟩ := next_eq l0_0 l0_1 a0_2 a0_3 a0_4 a3 h1.2
        obtain ⟨y, hy1, hy2⟩ := least_eq l0_0 l0_1 a0_2 a0_3 a0_4 a4 h1.1 h1.2
        obtain ⟨z, hz1, hz2⟩ := cycle_eq l0_0 l0_1 a0_2 a0_3 a0_4 h1.2
        refine Ev.step (fun n => by simp only [pelicanlaw14_PlanTells.j0, Bool.not_true, Bool.false_eq_true, if_false]; rfl) (Ev.bind (rfit_ev l0_0 l0_1 a0_2 a0_3 a0_4) (Ev.bind (rall_ev l2) (Ev.bind hs2 (Ev.bind (fit_ev l0_0 l0_1 a0_2 a0_3 a0_4 (by omega)) ?_))))
        simp only [beq_self_eq_true, if_true, plan_All.f, Option.bind_some]
        refine Ev.bind hs1 ?_
        simp only [beq_self_eq_true, if_true]
        refine Ev.bind hx1 (Ev.bind hx2 ?_)
        simp only [if_true]
        refine Ev.bind hy1 (Ev.bind hy2 ?_)
        simp only [if_true]
        refine Ev.bind hz1 (Ev.bind hz2 ?_)
        simp only [beq_self_eq_true]
        exact Ev.now _
    · rw [decide_eq_true h1, decide_eq_false h2]
      simp only [Bool.false_eq_true, if_true, if_false]
      exact hup
  · rw [decide_eq_false h1]
    simp only [Bool.false_eq_true, if_false]
    exact hup
end Go.Proofs.YtnogkpofgkaefaaDoor.Pure
