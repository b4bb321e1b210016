/- Plain laws on signal machines: what may be (own text). -/
import Derived.Test.YtechgjbhgeddjaaDoorQeD
import Derived.Test.YtechgjbhgeddjaaDoorQePQ
namespace Go.Proofs.YtechgjbhgeddjaaDoor.PT
open Go.RowKit Go.Proofs.YtechgjbhgeddjaaDoorW.PrintWords Go.Proofs.YtechgjbhgeddjaaDoorW.PrintLast Go.Proofs.YtechgjbhgeddjaaDoorW.PrintMore Go.Proofs.YtechgjbhgeddjaaDoor.F
set_option linter.unusedSimpArgs false
theorem stin_some (a b c : Int) : stage_in.f a b c = some (decide (b ≤ a ∧ a ≤ c)) := by
  unfold stage_in.f
  by_cases h : a ≥ b
  · rw [if_pos h]; congr 1; rw [decide_eq_decide]; omega
  · rw [if_neg h]; congr 1; exact (decide_eq_false (by omega)).symm
theorem mayPhase_f (x : S39) (s : Sg) (hs : 0 ≤ s.stage ∧ s.stage < (x.f1.length : Int)) (ha : 1 ≤ x.f2 ∧ x.f2 ≤ 200) :
    stage_phase.f x.f0 x.f1 x.f2 x.f3 x.f4 s.plan s.stage s.next s.phase s.t s.hold s.held s.ask s.want s.stop = some (if s.phase = 0 then decide (s.held ≤ s.t ∧ wrap64 (s.t - s.held) < (rd_T41 x.f1 s.stage).f2) && !(s.stop && decide (0 < s.hold)) else decide (s.hold = 0 ∧ s.held = 0 ∧ s.ask = -1 ∧ 0 ≤ s.t ∧ s.t ≤ (if s.phase = 1 then x.f2 - 1 else x.f3))) := by
  unfold stage_phase.f
  by_cases h0 : s.phase = 0
  · rw [if_pos h0, if_pos h0]
    by_cases h1 : s.t ≥ s.held
    · rw [if_pos h1, if_pos hs.1, if_pos hs.2]
      by_cases h2 : wrap64 (s.t - s.held) < (rd_T41 x.f1 s.stage).f2
      · rw [if_pos h2, decide_eq_true (show s.held ≤ s.t ∧ wrap64 (s.t - s.held) < (rd_T41 x.f1 s.stage).f2 from ⟨h1, h2⟩)]
        cases s.stop <;> simp
      · rw [if_neg h2, decide_eq_false (fun h => h2 h.2), Bool.false_and]
    · rw [if_neg h1, decide_eq_false (fun h => h1 h.1), Bool.false_and]
  · rw [if_neg h0, if_neg h0]
    by_cases h1 : s.hold = 0
    · by_cases h2 : s.held = 0
      · by_cases h3 : s.ask = -1
        · rw [PG.wr (by omega) (by omega), stin_some, stin_some]
          by_cases h4 : s.phase = 1
          · rw [if_pos h4, if_pos h1, if_pos h2, if_pos h3]; simp [h1, h2, h3, h4]
          · rw [if_neg h4, if_pos h1, if_pos h2, if_pos h3]; simp [h1, h2, h3, h4]
        · simp [h1, h2, h3]
      · simp [h1, h2]
    · simp [h1]
theorem may_plan {l : List S39} (hall : (decide (1 ≤ l.length ∧ l.length ≤ 3) && !(l.any (plan_badB.f (rd_T39 l 0).f0.length))) = true) {k : Int} (h0 : 0 ≤ k) (h1 : k < (l.length : Int)) : PQ.Fits (rd_T39 l k).f0 (rd_T39 l k).f1 (rd_T39 l k).f2 (rd_T39 l k).f3 (rd_T39 l k).f4 ∧ (rd_T39 l k).f0.length = (rd_T39 l 0).f0.length := by
  rw [Bool.and_eq_true, Bool.not_eq_true', List.any_eq_false] at hall
  obtain ⟨j, rfl⟩ := Int.eq_ofNat_of_zero_le h0
  have hj : j < l.length := by omega
  have e : rd_T39 l (j : Int) = l[j] := by simp [rd_T39, hj]
  rw [e]
  have hb := hall.2 _ (List.getElem_mem hj)
  unfold plan_badB.f at hb
  simp only [Bool.or_eq_true, Bool.not_eq_true', decide_eq_true_eq, not_or, Bool.not_eq_false, ne_eq, Decidable.not_not] at hb
  exact ⟨(PQ.fits_iff _ _ _ _ _).1 hb.1, hb.2⟩
theorem dec_lt (a n : Int) (b : Int) : decide (b ≤ a ∧ a ≤ n - 1) = decide (b ≤ a ∧ a < n) := by rw [decide_eq_decide]; omega
theorem may_f (l : List S39) (s : Sg) : stage_May.f 3 l s.plan s.stage s.next s.phase s.t s.hold s.held s.ask s.want s.stop = some (stage_mayB.f l s) := by
  unfold stage_May.f stage_mayB.f plan_All.f
  rw [Option.bind_some]
  cases hall : (decide (1 ≤ l.length ∧ l.length ≤ 3) && !(l.any (plan_badB.f (rd_T39 l 0).f0.length))) with
  | false =>
    rw [if_neg (by simp), stage_May.j0, if_pos rfl, Bool.false_and]
  | true =>
    have hlen : 1 ≤ l.length ∧ l.length ≤ 3 := by
      rw [Bool.and_eq_true] at hall
      exact of_decide_eq_true hall.1
    rw [if_pos rfl, stin_some, Option.bind_some, PG.wr (x := (l.length : Int) - 1) (by omega) (by omega), dec_lt, Bool.true_and]
    by_cases hp : 0 ≤ s.plan ∧ s.plan < (l.length : Int)
    · obtain ⟨hf, -⟩ := may_plan hall hp.1 hp.2
      have hfew := hf.few
      have hho := hf.hold
      rw [decide_eq_true hp, stage_May.j0, if_neg (by simp), if_pos hp.1, if_pos hp.2]
      simp only [stin_some, Option.bind_some]
      rw [PG.wr (x := ((rd_T39 l s.plan).f1.length : Int) - 1) (by omega) (by omega), PG.wr (x := (l.length : Int) - 1) (by omega) (by omega)]
      simp only [dec_lt, Bool.true_and]
      have e3 : decide (0 ≤ s.phase ∧ s.phase ≤ 2) = decide (0 ≤ s.phase ∧ s.phase < 3) := by rw [decide_eq_decide]; omega
      rw [e3]
      by_cases h1 : 0 ≤ s.stage ∧ s.stage < ((rd_T39 l s.plan).f1.length : Int)
      · have hph := mayPhase_f (rd_T39 l s.plan) s h1 hf.amber
        rw [decide_eq_true h1]
        cases decide (0 ≤ s.next ∧ s.next < ((rd_T39 l s.plan).f1.length : Int)) with
        | false => simp [stage_May.j1]
        | true =>
          cases decide (-1 ≤ s.ask ∧ s.ask < ((rd_T39 l s.plan).f1.length : Int)) with
          | false => simp [stage_May.j1]
          | true =>
            cases decide (-1 ≤ s.want ∧ s.want < (l.length : Int)) with
            | false => simp [stage_May.j1]
            | true =>
              cases decide (0 ≤ s.phase ∧ s.phase < 3) with
              | false => simp [stage_May.j1]
              | true =>
                simp only [if_true, Bool.true_and, stage_May.j1, stin_some, Option.bind_some, Bool.not_true, Bool.false_eq_true, if_false]
                by_cases h2 : 0 ≤ s.held ∧ s.held ≤ (rd_T39 l s.plan).f4
                · rw [decide_eq_true h2, PG.wr (by omega) (by omega), if_pos rfl, Bool.true_and]
                  cases decide (0 ≤ s.hold ∧ s.hold ≤ (rd_T39 l s.plan).f4 - s.held) with
                  | false => simp
                  | true => rw [if_pos rfl, hph, Option.bind_some, Bool.true_and]
                · rw [decide_eq_false h2]; simp
      · rw [decide_eq_false h1]
        simp [stage_May.j1]
    · rw [decide_eq_false hp, stage_May.j0, if_pos (by rfl), Bool.false_and]
theorem may_rounds (l : List S39) (s : Sg) : Ev (fun n => stage_May.f n l s.plan s.stage s.next s.phase s.t s.hold s.held s.ask s.want s.stop) (stage_mayB.f l s) := Ev.of (fun k => stage_May.mono _ _ _ _ _ _ _ _ _ _ _ k) (may_f l s)
theorem mayB_parts {l : List S39} {s : Sg} (h : stage_mayB.f l s = true) :
    (0 ≤ s.plan ∧ s.plan < (l.length : Int)) ∧ (0 ≤ s.stage ∧ s.stage < ((rd_T39 l s.plan).f1.length : Int)) ∧ (0 ≤ s.next ∧ s.next < ((rd_T39 l s.plan).f1.length : Int)) ∧ (-1 ≤ s.ask ∧ s.ask < ((rd_T39 l s.plan).f1.length : Int)) ∧ (-1 ≤ s.want ∧ s.want < (l.length : Int)) ∧ (0 ≤ s.phase ∧ s.phase < 3) ∧ (0 ≤ s.held ∧ s.held ≤ (rd_T39 l s.plan).f4) ∧ (0 ≤ s.hold ∧ s.hold ≤ (rd_T39 l s.plan).f4 - s.held) ∧
    (s.phase = 0 → s.held ≤ s.t ∧ wrap64 (s.t - s.held) < (rd_T41 (rd_T39 l s.plan).f1 s.stage).f2 ∧ ¬ (s.stop = true ∧ 0 < s.hold)) ∧ (s.phase ≠ 0 → s.hold = 0 ∧ s.held = 0 ∧ s.ask = -1 ∧ 0 ≤ s.t ∧ s.t ≤ (if s.phase = 1 then (rd_T39 l s.plan).f2 - 1 else (rd_T39 l s.plan).f3)) := by
  unfold stage_mayB.f at h
  rw [Bool.and_eq_true] at h
  obtain ⟨-, h⟩ := h
  simp only [Bool.and_eq_true, decide_eq_true_eq] at h
  obtain ⟨h1, h2, h3, h4, h5, h6, h7, h8, h9⟩ := h
  refine ⟨h1, h2, h3, h4, h5, h6, h7, h8, fun hp => ?_, fun hp => ?_⟩
  · rw [if_pos hp] at h9
    simp only [Bool.and_eq_true, decide_eq_true_eq, Bool.not_eq_true', Bool.and_eq_false_iff, decide_eq_false_iff_not] at h9
    refine ⟨h9.1.1, h9.1.2, fun hh => ?_⟩
    rcases h9.2 with h | h
    · rw [hh.1] at h; cases h
    · exact h hh.2
  · rw [if_neg hp] at h9
    exact of_decide_eq_true h9
theorem mayB_all {l : List S39} {s : Sg} (h : stage_mayB.f l s = true) : (decide (1 ≤ l.length ∧ l.length ≤ 3) && !(l.any (plan_badB.f (rd_T39 l 0).f0.length))) = true := by
  unfold stage_mayB.f at h
  rw [Bool.and_eq_true] at h
  exact h.1
theorem next_tmod {m : List Int} {ss : List S41} {am red hold : Int} (h : PQ.Fits m ss am red hold) {k : Int} (h0 : 0 ≤ k) (h1 : k < (ss.length : Int)) : Ev (fun n => plan_Next.f n m ss am red hold k) (Int.tmod (k + 1) (ss.length : Int)) := by
  obtain ⟨j, rfl⟩ := Int.eq_ofNat_of_zero_le h0
  have e : Int.tmod ((j : Int) + 1) (ss.length : Int) = (((j + 1) % ss.length : Nat) : Int) := by
    rw [show (j : Int) + 1 = ((j + 1 : Nat) : Int) by omega, ← Int.ofNat_tmod]
  rw [e]
  exact PQ.next_in h (by omega)
end Go.Proofs.YtechgjbhgeddjaaDoor.PT
