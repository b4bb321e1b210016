/- Plain laws on what package plan's functions compute: numbers and lists alone (own text). -/
import Derived.Test.YtpciieagafddcaaDoorQjPG
namespace Go.Proofs.YtpciieagafddcaaDoor.PP
open Go.RowKit Go.Proofs.YtpciieagafddcaaDoorW.PrintWords Go.Proofs.YtpciieagafddcaaDoorW.PrintLast Go.Proofs.YtpciieagafddcaaDoorW.PrintMore Go.Proofs.YtpciieagafddcaaDoor.F Go.Proofs.YtpciieagafddcaaDoor.PG Go.Proofs.YtpciieagafddcaaDoor.PM
theorem in_some (a b c : Int) : plan_in.f a b c = some (decide (b ≤ a ∧ a ≤ c)) := by
  unfold plan_in.f
  by_cases h : a ≥ b
  · rw [if_pos h]; simp [h]
  · rw [if_neg h]; simp; omega
theorem stage_eq (m : List Int) (s : S87) : plan_stageB.f m s = (freeB m s.f0 && (decide (s.f0 ≠ 0) && (decide (1 ≤ s.f1 ∧ s.f1 ≤ 200) && decide (s.f1 ≤ s.f2 ∧ s.f2 ≤ 200)))) := rfl
theorem rd_stage (ss : List S87) {k : Nat} (h : k < ss.length) : rd_T87 ss (k : Int) = ss[k] := by simp [rd_T87, h]
theorem stages_loop (m : List Int) (ss : List S87) (am red hold : Int) (hl : ss.length ≤ 9223372036854775807) : ∀ d k : Nat, k + d = ss.length → ∀ o : Int, ∃ r, Ev (fun n => plan_draft_stages.l0 n o true ss (ss.length : Int) (k : Int) m ss am red hold) (r, (ss.drop k).all (plan_stageB.f m)) ∧ ((ss.drop k).all (plan_stageB.f m) = true → r = (ss.drop k).foldl (fun o s => Go.bits .or .i64 o s.f0) o) := by
  intro d
  induction d with
  | zero =>
    intro k hk o
    rw [List.drop_of_length_le (by omega)]
    refine ⟨o, Ev.step (f := fun _ => some (o, true)) (fun n => ?_) (Ev.now _), fun _ => rfl⟩
    simp only [plan_draft_stages.l0]
    rw [if_neg (by omega)]
  | succ d ih =>
    intro k hk o
    have hlt : k < ss.length := by omega
    rw [List.drop_eq_getElem_cons hlt, List.all_cons, List.foldl_cons, stage_eq]
    have hstep : ∀ r b, Ev (fun n => if freeB m ss[k].f0 = true then (if ss[k].f0 = 0 then some (o, false) else (if decide (1 ≤ ss[k].f1 ∧ ss[k].f1 ≤ 200) = true then (if decide (ss[k].f1 ≤ ss[k].f2 ∧ ss[k].f2 ≤ 200) = true then plan_draft_stages.l0 n (Go.bits .or .i64 o ss[k].f0) true ss (ss.length : Int) ((k + 1 : Nat) : Int) m ss am red hold else some (o, false)) else some (o, false))) else some (o, false)) (r, b) → Ev (fun n => plan_draft_stages.l0 n o true ss (ss.length : Int) (k : Int) m ss am red hold) (r, b) := by
      intro r b h
      refine Ev.step (fun n => ?_) h
      simp only [plan_draft_stages.l0]
      rw [if_pos (by omega), if_pos (by omega), if_pos (by omega), rd_stage ss hlt, free_f, Option.bind_some, in_some, in_some, wr (by omega) (by omega)]
      rfl
    obtain ⟨r, hr, he⟩ := ih (k + 1) (by omega) (Go.bits .or .i64 o ss[k].f0)
    cases h1 : freeB m ss[k].f0 with
    | false => rw [h1] at hstep; exact ⟨o, hstep _ _ (by simp only [Bool.false_eq_true, if_false, Bool.false_and]; exact Ev.now _), fun h => by cases h⟩
    | true =>
      rw [h1] at hstep
      by_cases h2 : ss[k].f0 = 0
      · rw [decide_eq_false (by simp [h2])]
        exact ⟨o, hstep _ _ (by simp only [h2, if_true, Bool.false_and, Bool.and_false]; exact Ev.now _), fun h => by cases h⟩
      · rw [decide_eq_true h2]
        cases h3 : decide (1 ≤ ss[k].f1 ∧ ss[k].f1 ≤ 200) with
        | false => rw [h3] at hstep; exact ⟨o, hstep _ _ (by simp only [h2, Bool.false_eq_true, if_true, if_false, Bool.false_and, Bool.and_false]; exact Ev.now _), fun h => by cases h⟩
        | true =>
          rw [h3] at hstep
          cases h4 : decide (ss[k].f1 ≤ ss[k].f2 ∧ ss[k].f2 ≤ 200) with
          | false => rw [h4] at hstep; exact ⟨o, hstep _ _ (by simp only [h2, Bool.false_eq_true, if_true, if_false, Bool.false_and, Bool.and_false]; exact Ev.now _), fun h => by cases h⟩
          | true =>
            rw [h4] at hstep
            refine ⟨r, hstep _ _ (by simp only [h2, if_true, if_false, Bool.true_and]; exact hr), fun h => he (by simpa using h)⟩
theorem fit_ev (m : List Int) (ss : List S87) (am red hold : Int) (hl : ss.length ≤ 9223372036854775807) : Ev (fun n => plan_Fit.f n m ss am red hold) (plan_fitB.f m ss am red hold) := by
  obtain ⟨r, hr, he⟩ := stages_loop m ss am red hold hl ss.length 0 (Nat.zero_add _) 0
  rw [List.drop_zero] at hr he
  refine Ev.congr (fun n => rfl) (Ev.bind hr (Ev.congr (f := fun _ => some (plan_fitB.f m ss am red hold)) (fun n => ?_) (Ev.now _)))
  unfold plan_fitB.f
  cases h1 : ss.all (plan_stageB.f m) with
  | false => simp
  | true =>
    rw [he h1]
    simp only [if_true, group_May.f, Option.bind_some, in_some, plan_draft_times.f]
    cases h2 : Sp.may m with
    | false => simp
    | true =>
      have e : decide ((2 : Int) ≤ (ss.length : Int) ∧ (ss.length : Int) ≤ 6) = decide (2 ≤ ss.length ∧ ss.length ≤ 6) := by
        rw [decide_eq_decide]; omega
      rw [e]
      cases h3 : decide (2 ≤ ss.length ∧ ss.length ≤ 6) with
      | false => simp
      | true =>
        by_cases h4 : ss.foldl (fun o s => Go.bits .or .i64 o s.f0) 0 = wrap64 ((shl .i64 1 (m.length : Int)) - 1)
        · simp only [h4, if_true, decide_true, Bool.true_and]
          cases h5 : decide (1 ≤ am ∧ am ≤ 200) with
          | false => simp
          | true =>
            cases h6 : decide (1 ≤ red ∧ red ≤ 200) <;> simp
        · simp [h4]
end Go.Proofs.YtpciieagafddcaaDoor.PP
