/- The plain law of GroupAgainst: a set is free just if none of its groups is against it; of more groups no fewer are against; a group is against all that are against it. -/
import Derived.Test.YtnogkpofgkaefaaDoorPM
namespace Go.Proofs.YtnogkpofgkaefaaDoor.Pure
open Go.RowKit Go.Proofs.YtnogkpofgkaefaaDoorW.PrintWords Go.Proofs.YtnogkpofgkaefaaDoorW.PrintLast Go.Proofs.YtnogkpofgkaefaaDoorW.PrintMore Go.Proofs.YtnogkpofgkaefaaDoor.F Go.Proofs.YtnogkpofgkaefaaDoor.PG Go.Proofs.YtnogkpofgkaefaaDoor.PM
namespace GroupAgainst
theorem one_bit {m : List Int} {i o : Nat} (hi : i < m.length) (hO : AgOk m (2 ^ i) o) (k : Nat) : o.testBit k = (row m i).testBit k := by
  rw [Bool.eq_iff_iff, hO.mem k]
  constructor
  · rintro ⟨j, hj, h1, h2⟩
    rw [Nat.testBit_two_pow, decide_eq_true_eq] at h1
    subst h1
    exact h2
  · intro hh
    exact ⟨i, hi, by rw [Nat.testBit_two_pow]; simp, hh⟩
theorem more_eq {m : List Int} {s i a o c : Nat} (hA : AgOk m s a) (hO : AgOk m (2 ^ i) o) (hC : AgOk m (s ||| 2 ^ i) c) : c = a ||| o := by
  refine Nat.eq_of_testBit_eq fun k => ?_
  rw [Nat.testBit_or, Bool.eq_iff_iff, Bool.or_eq_true, hA.mem, hO.mem, hC.mem]
  constructor
  · rintro ⟨j, hj, h1, h2⟩
    rw [Nat.testBit_or, Bool.or_eq_true] at h1
    exact h1.imp (fun h => ⟨j, hj, h, h2⟩) fun h => ⟨j, hj, h, h2⟩
  · rintro (⟨j, hj, h1, h2⟩ | ⟨j, hj, h1, h2⟩)
    · exact ⟨j, hj, by rw [Nat.testBit_or, h1]; rfl, h2⟩
    · exact ⟨j, hj, by rw [Nat.testBit_or, h1, Bool.or_true], h2⟩
theorem j0_ev {m : List Int} (h : MayOk m) (s : Int) {i k : Nat} (hi : i < m.length) (hk : k < m.length) : Ev (fun n => pelicanlaw13_GroupAgainst.j0 n m s (i : Int) (k : Int) true false) true := by
  have hp8 := h.p8
  have h8 := h.len8
  by_cases hs : 0 ≤ s ∧ s < ((2 ^ m.length : Nat) : Int)
  · obtain ⟨h0, h1⟩ := hs
    obtain ⟨x, rfl⟩ := Int.eq_ofNat_of_zero_le h0
    have hx : x < 2 ^ m.length := by omega
    have hpi : 2 ^ i < 2 ^ m.length := Nat.pow_lt_pow_right (by decide) hi
    have hpk : 2 ^ k < 2 ^ m.length := Nat.pow_lt_pow_right (by decide) hk
    obtain ⟨a, ea, hA⟩ := against_nat h hx
    obtain ⟨o, eo, hO⟩ := against_nat h hpi
    obtain ⟨w, ew, hW⟩ := against_nat h hpk
    obtain ⟨c, ec, hC⟩ := against_nat h (set_lt hx hi)
    have := hA.lt
    have := hO.lt
    have := hW.lt
    have hmore := more_eq hA hO hC
    have hfree : freeB m (x : Int) = (Go.bits .and .i64 (a : Int) (x : Int) == 0) := by unfold freeB; rw [ea, if_neg (by omega)]
    refine Ev.step (f := fun _ => some true) (fun n => ?_) (Ev.now _)
    simp only [pelicanlaw13_GroupAgainst.j0]
    rw [if_neg (by simp), group_Against.f, Option.bind_some, ea, if_neg (by omega), if_pos (by omega), group_Against.f, Option.bind_some, shl_one i (by omega), eo, if_pos (by omega), group_Against.f, Option.bind_some, shl_one k (by omega), ew, group_Against.f, Option.bind_some, or_nat x _ (by omega) (by omega), ec, free_f, Option.bind_some, hfree, if_pos (by simp), or_nat a o (by omega) (by omega), hmore, if_pos rfl, bit_facts o (by omega) k (by omega), bit_facts w (by omega) i (by omega), bit_facts o (by omega) i (by omega), one_bit hi hO, one_bit hk hW, one_bit hi hO, h.sym k i hk hi, if_pos (by simp), h.irr i hi]
    rfl
  · have hf := free_none (m := m) (s := s) (fun hh => hs hh.2)
    have ha := against_none (m := m) (s := s) (fun hh => hs hh.2)
    refine Ev.step (f := fun _ => some true) (fun n => ?_) (Ev.now _)
    simp only [pelicanlaw13_GroupAgainst.j0]
    rw [if_neg (by simp), group_Against.f, Option.bind_some, ha, if_pos (by decide), if_pos rfl, free_f, Option.bind_some, hf, if_neg (by simp), shl_one _ (by omega)]
    by_cases h0 : s < 0
    · rw [if_pos h0]
    · rw [if_neg h0, decide_eq_true (by omega)]
end GroupAgainst
open GroupAgainst
theorem GroupAgainst (l0 : List Int) (a1 a2 a3 : Int) : ∃ k, pelicanlaw13_GroupAgainst.f k l0 a1 a2 a3 = some true := by
  refine Ev.rounds ?_
  refine Ev.congr (fun n => rfl) (Ev.bind awake_ev ?_)
  simp only [if_true]
  have hup : Ev (fun n => pelicanlaw13_GroupAgainst.j0 n l0 a1 a2 a3 true true) true := Ev.step (f := fun _ => some true) (fun n => by simp only [pelicanlaw13_GroupAgainst.j0, if_true]) (Ev.now _)
  by_cases h10 : (l0.length : Int) > 10
  · simp only [h10, if_true]; exact hup
  simp only [h10, if_false, group_May.f, Option.bind_some]
  by_cases h : MayOk l0
  · simp only [(may_iff l0).2 h, if_true]
    by_cases c2 : a2 < 0
    · simp only [c2, if_true]; exact hup
    by_cases c3 : a3 < 0
    · simp only [c2, c3, if_true, if_false]; exact hup
    by_cases d2 : a2 ≥ (l0.length : Int)
    · simp only [c2, c3, d2, if_true, if_false]; exact hup
    by_cases d3 : a3 ≥ (l0.length : Int)
    · simp only [c2, c3, d2, d3, if_false, decide_true]; exact hup
    simp only [c2, c3, d2, d3, if_false, decide_false]
    obtain ⟨i, rfl⟩ := Int.eq_ofNat_of_zero_le (show 0 ≤ a2 by omega)
    obtain ⟨k, rfl⟩ := Int.eq_ofNat_of_zero_le (show 0 ≤ a3 by omega)
    exact j0_ev h a1 (by omega) (by omega)
  · simp only [may_false h, Bool.false_eq_true, if_false]; exact hup
end Go.Proofs.YtnogkpofgkaefaaDoor.Pure
