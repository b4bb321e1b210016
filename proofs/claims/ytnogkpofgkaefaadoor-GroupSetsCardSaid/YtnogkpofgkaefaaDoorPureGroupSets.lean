/- The plain law of GroupSets: each of the greatest free sets is free, and with any group more it is not; they rise. -/
import Derived.Test.YtnogkpofgkaefaaDoorPM
namespace Go.Proofs.YtnogkpofgkaefaaDoor.Pure
open Go.RowKit Go.Proofs.YtnogkpofgkaefaaDoorW.PrintWords Go.Proofs.YtnogkpofgkaefaaDoorW.PrintLast Go.Proofs.YtnogkpofgkaefaaDoorW.PrintMore Go.Proofs.YtnogkpofgkaefaaDoor.F Go.Proofs.YtnogkpofgkaefaaDoor.PG Go.Proofs.YtnogkpofgkaefaaDoor.PM
namespace GroupSets
theorem rd_nat (l : List Int) {k : Nat} (h : k < l.length) : rd l (k : Int) = l[k] := by simp [rd, h]
theorem some_set {m : List Int} (h : MayOk m) : 0 < (setsL m (2 ^ m.length)).length := by
  obtain ⟨t, ht, hg, _⟩ := great_more h (2 ^ m.length) 0 (Nat.two_pow_pos _) (Nat.sub_le _ _) (fun i k _ _ h1 _ => by simp at h1)
  exact List.length_pos_of_mem ((mem_sets h).2 ⟨t, rfl, ht, hg⟩)
theorem j1_ev {m : List Int} (h : MayOk m) {n i : Nat} (hn : n < (setsL m (2 ^ m.length)).length) (hi : i < m.length) : Ev (fun f => pelicanlaw13_GroupSets.j1 f m (n : Int) (i : Int) (setsL m (2 ^ m.length)) false) true := by
  have hp8 := h.p8
  have h8 := h.len8
  have hll := setsL_len m (2 ^ m.length)
  obtain ⟨s, es, hs, hg⟩ := (mem_sets h).1 (List.getElem_mem hn)
  have hfree := (free_iff h hs).2 hg.1
  refine Ev.step (f := fun _ => some true) (fun f => ?_) (Ev.now _)
  have hlast : (if (n : Int) = 0 then (some true) else (if 0 ≤ (wrap64 ((n : Int) - 1)) then (if (wrap64 ((n : Int) - 1)) < ((setsL m (2 ^ m.length)).length : Int) then (some (decide ((rd (setsL m (2 ^ m.length)) (wrap64 ((n : Int) - 1))) < ((s : Nat) : Int)))) else (none)) else (none))) = some true := by
    by_cases h0 : n = 0
    · rw [if_pos (by omega)]
    · have e1 : ((n : Int) - 1) = ((n - 1 : Nat) : Int) := by omega
      have hp := List.pairwise_iff_getElem.1 (sets_sorted m (2 ^ m.length)) (n - 1) n (by omega) hn (by omega)
      rw [es] at hp
      rw [if_neg (by omega), wr (by omega) (by omega), if_pos (by omega), if_pos (by omega), e1, rd_nat _ (show n - 1 < _ by omega), decide_eq_true hp]
  simp only [pelicanlaw13_GroupSets.j1]
  rw [if_neg (by simp), if_pos (by omega), if_pos (by omega), rd_nat _ hn, es, free_f, Option.bind_some, hfree, if_pos rfl, if_pos (by omega), bit_facts s (by omega) i (by omega)]
  cases hb : s.testBit i with
  | true => rw [if_pos (by simp)]; exact hlast
  | false =>
    have hnot : freeB m ((s ||| 2 ^ i : Nat) : Int) = false := by
      cases e : freeB m ((s ||| 2 ^ i : Nat) : Int) with
      | false => rfl
      | true => exact absurd (hg.2 i hi hb) ((free_more h hg.1 hi hs).1 ((free_iff h (set_lt hs hi)).1 e))
    have hpi : 2 ^ i < 2 ^ m.length := Nat.pow_lt_pow_right (by decide) hi
    rw [if_neg (by simp), shl_one i (by omega), or_nat s _ (by omega) (by omega), free_f, Option.bind_some, hnot, if_neg (by simp)]
    exact hlast
theorem j0_ev (m : List Int) (a1 a2 : Int) : Ev (fun f => pelicanlaw13_GroupSets.j0 f m a1 a2 true false) true := by
  refine Ev.step (fun f => ?_) (Ev.bind (sets_ev m) (f := fun f t215 => (group_May.f m).bind fun t218 => (if t218 = true then (if (t215.length : Int) = 0 then (pelicanlaw13_GroupSets.j1 f m a1 a2 t215 true) else (if a1 < 0 then (pelicanlaw13_GroupSets.j1 f m a1 a2 t215 true) else (if a1 ≥ (t215.length : Int) then (pelicanlaw13_GroupSets.j1 f m a1 a2 t215 true) else (if a2 < 0 then (pelicanlaw13_GroupSets.j1 f m a1 a2 t215 true) else (pelicanlaw13_GroupSets.j1 f m a1 a2 t215 (decide (a2 ≥ (m.length : Int)))))))) else (some ((t215.length : Int) == 0)))) ?_)
  · simp only [pelicanlaw13_GroupSets.j0, Bool.false_eq_true, if_false]
  by_cases h : MayOk m
  · have hs := some_set h
    have hup : Ev (fun f => pelicanlaw13_GroupSets.j1 f m a1 a2 (setsL m (2 ^ m.length)) true) true := by
      refine Ev.step (f := fun _ => some true) (fun f => ?_) (Ev.now _)
      simp only [pelicanlaw13_GroupSets.j1, if_true]
      rw [decide_eq_true (by omega)]
    have c0 : ¬ (((setsL m (2 ^ m.length)).length : Int) = 0) := by omega
    simp only [(may_iff m).2 h, if_true, group_May.f, Option.bind_some, c0, if_false]
    by_cases c1 : a1 < 0
    · simp only [c1, if_true]; exact hup
    by_cases d1 : a1 ≥ ((setsL m (2 ^ m.length)).length : Int)
    · simp only [c1, d1, if_true, if_false]; exact hup
    by_cases c2 : a2 < 0
    · simp only [c1, d1, c2, if_true, if_false]; exact hup
    by_cases d2 : a2 ≥ (m.length : Int)
    · simp only [c1, d1, c2, d2, if_false, decide_true]; exact hup
    simp only [c1, d1, c2, d2, if_false, decide_false]
    obtain ⟨n, rfl⟩ := Int.eq_ofNat_of_zero_le (show 0 ≤ a1 by omega)
    obtain ⟨i, rfl⟩ := Int.eq_ofNat_of_zero_le (show 0 ≤ a2 by omega)
    exact j1_ev h (by omega) (by omega)
  · simp only [may_false h, Bool.false_eq_true, if_false, group_May.f, Option.bind_some]
    exact Ev.now _
end GroupSets
open GroupSets
theorem GroupSets (l0 : List Int) (a1 a2 : Int) : ∃ k, pelicanlaw13_GroupSets.f k l0 a1 a2 = some true := by
  refine Ev.rounds ?_
  refine Ev.congr (fun n => rfl) (Ev.bind awake_ev ?_)
  simp only [if_true]
  by_cases h10 : (l0.length : Int) > 10
  · simp only [h10, decide_true]
    exact Ev.step (f := fun _ => some true) (fun n => by simp only [pelicanlaw13_GroupSets.j0, if_true]) (Ev.now _)
  simp only [h10, decide_false]
  exact j0_ev l0 a1 a2
end Go.Proofs.YtnogkpofgkaefaaDoor.Pure
