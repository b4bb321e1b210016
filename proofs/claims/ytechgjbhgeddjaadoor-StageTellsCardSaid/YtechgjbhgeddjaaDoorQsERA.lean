/- The document's layer 14 for lists of plans, and its Next (own text, out of RT.lean). -/
import Derived.Test.YtechgjbhgeddjaaDoorQsRF
namespace Go.Proofs.YtechgjbhgeddjaaDoor.ERA
open Go.RowKit Go.Proofs.YtechgjbhgeddjaaDoorW.PrintWords Go.Proofs.YtechgjbhgeddjaaDoorW.PrintLast Go.Proofs.YtechgjbhgeddjaaDoorW.PrintMore Go.Proofs.YtechgjbhgeddjaaDoor.F Go.Proofs.YtechgjbhgeddjaaDoor.PG Go.Proofs.YtechgjbhgeddjaaDoor.PM Go.Proofs.YtechgjbhgeddjaaDoor.PP Go.Proofs.YtechgjbhgeddjaaDoor.PQ Go.Proofs.YtechgjbhgeddjaaDoor.RF
set_option linter.unusedVariables false
set_option linter.unusedSimpArgs false
theorem rd_plan (l : List S39) {k : Nat} (h : k < l.length) : rd_T39 l (k : Int) = l[k] := by simp [rd_T39, h]
theorem rall_ev (l : List S39) : Ev (fun n => pelicanref14_All.f n l) (decide (1 ≤ l.length ∧ l.length ≤ 3) && !(l.any (plan_badB.f (rd_T39 l 0).f0.length))) := by
  have hno : Ev (fun n => pelicanref14_All.j0 n l true) false := Ev.step (f := fun _ => some false) (fun n => by simp only [pelicanref14_All.j0, if_true]) (Ev.now _)
  by_cases h : 1 ≤ l.length ∧ l.length ≤ 3
  · have key := loop_all (n := l.length) (g := fun n k => pelicanref14_All.l0 n l (k : Int)) (ok := fun k => !(plan_badB.f (rd_T39 l 0).f0.length (rd_T39 l (k : Int)))) (C := true) (fun _ => ?_) (fun k hk hok r hE => ?_) (fun k hk hok => ?_) l.length 0 (Nat.zero_add _) (fun j hj => absurd hj (Nat.not_lt_zero j))
    · have heq : (decide (1 ≤ l.length ∧ l.length ≤ 3) && !(l.any (plan_badB.f (rd_T39 l 0).f0.length))) = ((List.range' 0 l.length).all (fun k => !(plan_badB.f (rd_T39 l 0).f0.length (rd_T39 l (k : Int)))) && true) := by
        rw [decide_eq_true h, Bool.true_and, Bool.and_true, Bool.eq_iff_iff, all_range, Bool.not_eq_true', List.any_eq_false]
        constructor
        · intro hh j hj
          rw [rd_plan l hj]
          simpa using hh _ (List.getElem_mem hj)
        · intro hh x hx
          obtain ⟨j, hj, rfl⟩ := List.mem_iff_getElem.1 hx
          have := hh j hj
          rw [rd_plan l hj] at this
          simpa using this
      rw [heq]
      refine Ev.congr (f := fun n => pelicanref14_All.j0 n l false) (fun n => ?_) (Ev.step (fun n => ?_) key)
      · unfold pelicanref14_All.f
        rw [if_neg (by omega), decide_eq_false (by omega)]
      · simp only [pelicanref14_All.j0, Bool.false_eq_true, if_false]
        rfl
    · refine Ev.step (f := fun _ => some true) (fun n => ?_) (Ev.now _)
      simp only [pelicanref14_All.l0]
      rw [if_neg (by omega)]
    all_goals
      have e1 : ((k : Int) + 1) = ((k + 1 : Nat) : Int) := by omega
      have hl : (((rd_T39 l (k : Int)).f0.length : Int) = ((rd_T39 l 0).f0.length : Int)) ↔ ((rd_T39 l (k : Int)).f0.length = (rd_T39 l 0).f0.length) := by omega
      refine Ev.step (fun n => ?_) (Ev.bind (f := fun n t => if t = true then (if ((rd_T39 l (k : Int)).f0.length : Int) = ((rd_T39 l 0).f0.length : Int) then pelicanref14_All.l0 n l ((k + 1 : Nat) : Int) else some false) else some false) (rfit_ev (rd_T39 l (k : Int)).f0 (rd_T39 l (k : Int)).f1 (rd_T39 l (k : Int)).f2 (rd_T39 l (k : Int)).f3 (rd_T39 l (k : Int)).f4) ?_)
      · have hpos : (0 : Int) < (l.length : Int) := by omega
        simp only [pelicanref14_All.l0]
        rw [if_pos (by omega), if_pos (by omega), wr (by omega) (by omega), e1]
        simp only [hpos, if_true]
    · simp only [plan_badB.f, Bool.not_or, Bool.not_not, Bool.and_eq_true, Bool.not_eq_true', decide_eq_false_iff_not, ne_eq, Decidable.not_not] at hok
      simp only [hok.1, hok.2, if_true]
      exact hE
    · simp only [plan_badB.f, Bool.not_or, Bool.not_not, Bool.and_eq_false_iff] at hok
      rcases hok with hok | hok
      · simp only [hok, Bool.false_eq_true, if_false]; exact Ev.now _
      · have : ¬ ((rd_T39 l (k : Int)).f0.length = (rd_T39 l 0).f0.length) := by simpa using hok
        simp only [hl, this, if_false, ite_self]; exact Ev.now _
  · rw [decide_eq_false h, Bool.false_and]
    refine Ev.congr (f := fun n => pelicanref14_All.j0 n l true) (fun n => ?_) hno
    unfold pelicanref14_All.f
    by_cases c : (l.length : Int) < 1
    · rw [if_pos c]
    · rw [if_neg c, decide_eq_true (by omega)]
theorem next_ev {m : List Int} {ss : List S41} {am red hold : Int} (h : Fits m ss am red hold) {k : Nat} (hk : k < ss.length) : Ev (fun n => pelicanref14_Next.f n m ss am red hold (k : Int)) (((k + 1) % ss.length : Nat) : Int) := by
  have hf := (fits_iff _ _ _ _ _).2 h
  have hfew := h.few
  refine Ev.congr (fun n => rfl) (Ev.bind (rfit_ev m ss am red hold) ?_)
  have c1 : ¬ ((k : Int) < 0) := by omega
  have c2 : ¬ ((k : Int) ≥ (ss.length : Int)) := by omega
  rw [hf]
  simp only [if_true, c1, c2, if_false, decide_false]
  refine Ev.step (f := fun _ => some (((k + 1) % ss.length : Nat) : Int)) (fun n => ?_) (Ev.now _)
  simp only [pelicanref14_Next.j0, Bool.false_eq_true, if_false]
  rw [wr (x := (ss.length : Int) - 1) (by omega) (by omega), wr (by omega) (by omega)]
  by_cases e : k + 1 = ss.length
  · rw [if_pos (by omega), e, Nat.mod_self]; rfl
  · rw [if_neg (by omega), Nat.mod_eq_of_lt (by omega)]; rfl
end Go.Proofs.YtechgjbhgeddjaaDoor.ERA
