/- The plain law of LampBack: a row comes back from its text, a text from its row; two rows that are not the same have other texts. -/
import Derived.Test.YtechgjbhgeddjaaDoorDLampBack
import Derived.Test.YtechgjbhgeddjaaDoorPL
namespace Go.Proofs.YtechgjbhgeddjaaDoor.Pure
open Go.RowKit Go.Proofs.YtechgjbhgeddjaaDoorW.PrintWords Go.Proofs.YtechgjbhgeddjaaDoorW.PrintLast Go.Proofs.YtechgjbhgeddjaaDoorW.PrintMore Go.Proofs.YtechgjbhgeddjaaDoor.F Go.Proofs.YtechgjbhgeddjaaDoor.PG Go.Proofs.YtechgjbhgeddjaaDoor.PM Go.Proofs.YtechgjbhgeddjaaDoor.PP Go.Proofs.YtechgjbhgeddjaaDoor.PQ Go.Proofs.YtechgjbhgeddjaaDoor.PL
namespace LampBack
theorem j1_ev (s : ByteArray) : Ev (fun n => pelicanlaw15_LampBack.j1 n s false) true := by
  refine Ev.step (f := fun _ => some true) (fun n => ?_) (Ev.now _)
  simp only [pelicanlaw15_LampBack.j1, Bool.false_eq_true, if_false]
  rcases read_some s with h | ⟨y, h, hm, ht⟩
  · rw [h]; rfl
  · rw [h]
    simp only [Option.bind_some, if_true, lamp_May.f, hm, lamp_Text.f, ht, beq_self_eq_true]
end LampBack
open LampBack
theorem LampBack (l0 l1 : List Int) (a2 : ByteArray) : ∃ k, pelicanlaw15_LampBack.f k l0 l1 a2 = some true := by
  refine Ev.rounds ?_
  refine Ev.congr (fun n => rfl) (Ev.bind PL.awake_ev ?_)
  have hup : Ev (fun n => pelicanlaw15_LampBack.j0 n l0 l1 a2 true true) true := Ev.step (f := fun _ => some true) (fun n => by simp only [pelicanlaw15_LampBack.j0, if_true]) (Ev.now _)
  simp only [if_true]
  by_cases c1 : (l0.length : Int) > 20
  · simp only [c1, if_true]; exact hup
  by_cases c2 : (l1.length : Int) > 20
  · simp only [c1, c2, if_true, if_false]; exact hup
  by_cases c3 : (a2.size : Int) > 40
  · simp only [c1, c2, c3, if_false, decide_true]; exact hup
  simp only [c1, c2, c3, if_false, decide_false]
  cases hm : lamp_mayB.f l0 with
  | false =>
    refine Ev.step (fun n => by simp only [pelicanlaw15_LampBack.j0, Bool.false_eq_true, if_false]; rfl) ?_
    simp only [lamp_Text.f, Option.bind_some, read_none hm]
    refine Ev.bind (ints_ev [] l0 (by simp)) (Ev.bind (ints_ev l0 l1 (by omega)) ?_)
    have hz : ((false != ((lamp_textB.f l0).toList != ([] : List UInt8))) = true) ↔ False := by
      rw [text_none hm, Lib.toList_data]
      simp
    simp only [lamp_May.f, hm, Option.bind_some, hz, if_false, Bool.false_eq_true]
    exact j1_ev a2
  | true =>
    have hl := may_len hm
    refine Ev.step (fun n => by simp only [pelicanlaw15_LampBack.j0, Bool.false_eq_true, if_false]; rfl) ?_
    simp only [lamp_Text.f, Option.bind_some, read_text hm]
    refine Ev.bind (ints_ev l0 l0 (by omega)) (Ev.bind (ints_ev l0 l1 (by omega)) ?_)
    have hne : (lamp_textB.f l0).toList ≠ [] := by
      rw [text_list hm]
      intro e
      have := congrArg List.length e
      simp [lamp_letters.f] at this
      rw [this] at hl
      simp at hl
    have hz : ((true != ((lamp_textB.f l0).toList != ([] : List UInt8))) = true) ↔ False := by
      have : ((lamp_textB.f l0).toList != ([] : List UInt8)) = true := by simpa using hne
      rw [this]
      simp
    have hs : ((lamp_textB.f l0).size : Int) = (l0.length : Int) := by rw [text_size hm]
    simp only [lamp_May.f, hm, Option.bind_some, hz, if_false, if_true, decide_true, hs]
    cases hm1 : lamp_mayB.f l1 with
    | false => simp only [Bool.false_eq_true, if_false]; exact j1_ev a2
    | true =>
      simp only [if_true]
      have he : ((lamp_textB.f l1).toList == (lamp_textB.f l0).toList) = decide (l0 = l1) := by
        rw [text_list hm, text_list hm1, Bool.eq_iff_iff, beq_iff_eq, decide_eq_true_eq]
        constructor
        · intro e
          rw [← read_letters (may_rng hm), ← read_letters (may_rng hm1), e]
        · rintro rfl
          rfl
      rw [he]
      simp only [bne_self_eq_false]
      exact j1_ev a2
end Go.Proofs.YtechgjbhgeddjaaDoor.Pure
