/- The plain law of PlanFree: no stage of a plan that fits has two groups that conflict; groups that conflict with all others have a stage of their own. -/
import Derived.Test.YtnogkpofgkaefaaDoorDPlanFree
import Derived.Test.YtnogkpofgkaefaaDoorPQ
namespace Go.Proofs.YtnogkpofgkaefaaDoor.Pure
open Go.RowKit Go.Proofs.YtnogkpofgkaefaaDoorW.PrintWords Go.Proofs.YtnogkpofgkaefaaDoorW.PrintLast Go.Proofs.YtnogkpofgkaefaaDoorW.PrintMore Go.Proofs.YtnogkpofgkaefaaDoor.F Go.Proofs.YtnogkpofgkaefaaDoor.PG Go.Proofs.YtnogkpofgkaefaaDoor.PM Go.Proofs.YtnogkpofgkaefaaDoor.PP Go.Proofs.YtnogkpofgkaefaaDoor.PQ
namespace PlanFree
theorem rest_facts : ∀ n : Nat, n < 9 → ∀ g : Nat, g < n → ∀ j : Nat, j < 9 → (2 ^ n - 1 - 2 ^ g).testBit j = (decide (j < n) && decide (j ≠ g)) := by decide +kernel
theorem one_bit {m : List Int} {i o : Nat} (hi : i < m.length) (hO : AgOk m (2 ^ i) o) (k : Nat) : o.testBit k = (row m i).testBit k := by
  rw [Bool.eq_iff_iff, hO.mem k]
  constructor
  · rintro ⟨j, hj, h1, h2⟩
    rw [Nat.testBit_two_pow, decide_eq_true_eq] at h1
    subst h1
    exact h2
  · intro hh
    exact ⟨i, hi, by rw [Nat.testBit_two_pow]; simp, hh⟩
theorem alone {m : List Int} (h : MayOk m) {x g o : Nat} (hg : g < m.length) (hx : x < 2 ^ m.length) (hf : FreeN m x) (hb : x.testBit g = true) (hO : AgOk m (2 ^ g) o) (ho : o = 2 ^ m.length - 1 - 2 ^ g) : x = 2 ^ g := by
  refine Nat.eq_of_testBit_eq fun j => ?_
  rw [Nat.testBit_two_pow]
  have h8 := h.len8
  by_cases e : g = j
  · subst e; rw [hb]; simp
  · rw [decide_eq_false e]
    cases hj : x.testBit j with
    | false => rfl
    | true =>
      have hlt := lt_of_testBit hx hj
      have := hf g j hg hlt hb hj
      rw [← one_bit hg hO j, ho, rest_facts m.length (by omega) g hg j (by omega), decide_eq_true hlt, decide_eq_true (show j ≠ g from fun e' => e e'.symm)] at this
      cases this
theorem j0_ev {m : List Int} {ss : List S47} {am red hold : Int} (h : Fits m ss am red hold) {k g i : Nat} (hk : k < ss.length) (hg : g < m.length) (hi : i < m.length) : Ev (fun n => pelicanlaw14_PlanFree.j0 n (k : Int) (g : Int) (i : Int) true false m ss am red hold) true := by
  have hm := h.may
  have hp8 := hm.p8
  have h8 := hm.len8
  obtain ⟨hfree, hz, _, _⟩ := h.stage _ (List.getElem_mem hk)
  have hrng : 0 ≤ ss[k].f0 ∧ ss[k].f0 < ((2 ^ m.length : Nat) : Int) := by
    refine Classical.byContradiction fun hn => ?_
    rw [free_none fun hh => hn hh.2] at hfree
    cases hfree
  obtain ⟨x, hx⟩ := Int.eq_ofNat_of_zero_le hrng.1
  rw [hx] at hfree hz hrng
  have hxl : x < 2 ^ m.length := by omega
  have hF := (free_iff hm hxl).1 hfree
  have hpg : 2 ^ g < 2 ^ m.length := Nat.pow_lt_pow_right (by decide) hg
  obtain ⟨o, eo, hO⟩ := against_nat hm hpg
  have hol := hO.lt
  have hrow := hm.row_lt hg
  have hpos := Nat.two_pow_pos m.length
  have hpos2 := Nat.two_pow_pos g
  have hR : (if Sp.against m (shl .i64 1 (g : Int)) = wrap64 (wrap64 (shl .i64 1 (m.length : Int) - 1) - shl .i64 1 (g : Int)) then (if (if x.testBit g = true then (1 : Int) else 0) = 1 then some ((x : Int) == shl .i64 1 (g : Int)) else some true) else some true) = some true := by
    rw [shl_one g (by omega), shl_one m.length (by omega), eo, wr (x := ((2 ^ m.length : Nat) : Int) - 1) (by omega) (by omega), wr (by omega) (by omega)]
    by_cases ha : (o : Int) = ((2 ^ m.length : Nat) : Int) - 1 - ((2 ^ g : Nat) : Int)
    · rw [if_pos ha]
      cases hb : x.testBit g with
      | false => simp
      | true =>
        have e := alone hm hg hxl hF hb hO (by omega)
        rw [if_pos (by simp), e, beq_self_eq_true]
    · rw [if_neg ha]
  refine Ev.step (f := fun _ => some true) (fun n => ?_) (Ev.now _)
  simp only [pelicanlaw14_PlanFree.j0]
  have erd : rd m (g : Int) = (row m g : Int) := by rw [← hm.row_eq hg]; simp [rd]
  rw [if_neg (by simp), if_pos (by omega), if_pos (by omega), if_pos (by omega), if_pos (by omega), if_pos (by omega), group_Against.f, Option.bind_some, rd_stage ss hk, hx, if_pos (by omega), free_f, Option.bind_some, hfree, if_pos rfl, erd, bit_facts (row m g) (by omega) i (by omega), bit_facts x (by omega) g (by omega), bit_facts x (by omega) i (by omega), hR]
  cases hc : (row m g).testBit i with
  | false => simp
  | true =>
    cases hb : x.testBit g with
    | false => simp
    | true =>
      cases hd : x.testBit i with
      | false => simp
      | true =>
        have := hF g i hg hi hb hd
        rw [hc] at this
        cases this
end PlanFree
open PlanFree
theorem PlanFree (l0_0 : List Int) (l0_1 : List S47) (a0_2 a0_3 a0_4 a1 a2 a3 : Int) : ∃ k, pelicanlaw14_PlanFree.f k l0_0 l0_1 a0_2 a0_3 a0_4 a1 a2 a3 = some true := by
  refine Ev.rounds ?_
  refine Ev.congr (fun n => rfl) (Ev.bind PQ.awake_ev ?_)
  have hup : Ev (fun n => pelicanlaw14_PlanFree.j0 n a1 a2 a3 true true l0_0 l0_1 a0_2 a0_3 a0_4) true := Ev.step (f := fun _ => some true) (fun n => by simp only [pelicanlaw14_PlanFree.j0, if_true]) (Ev.now _)
  simp only [if_true, few_f, Option.bind_some]
  by_cases hfew : l0_0.length ≤ 10 ∧ l0_1.length ≤ 10
  · rw [decide_eq_true hfew]
    simp only [if_true]
    refine Ev.bind (fit_ev l0_0 l0_1 a0_2 a0_3 a0_4 (by omega)) ?_
    cases hf : plan_fitB.f l0_0 l0_1 a0_2 a0_3 a0_4 with
    | false => simp only [Bool.false_eq_true, if_false]; exact hup
    | true =>
      have h := (fits_iff _ _ _ _ _).1 hf
      simp only [if_true]
      by_cases c1 : a1 < 0
      · simp only [c1, if_true]; exact hup
      by_cases d1 : a1 ≥ (l0_1.length : Int)
      · simp only [c1, d1, if_true, if_false]; exact hup
      by_cases c2 : a2 < 0
      · simp only [c1, d1, c2, if_true, if_false]; exact hup
      by_cases d2 : a2 ≥ (l0_0.length : Int)
      · simp only [c1, d1, c2, d2, if_true, if_false]; exact hup
      by_cases c3 : a3 < 0
      · simp only [c1, d1, c2, d2, c3, if_true, if_false]; exact hup
      by_cases d3 : a3 ≥ (l0_0.length : Int)
      · simp only [c1, d1, c2, d2, c3, d3, if_false, decide_true]; exact hup
      simp only [c1, d1, c2, d2, c3, d3, if_false, decide_false]
      obtain ⟨k, rfl⟩ := Int.eq_ofNat_of_zero_le (show 0 ≤ a1 by omega)
      obtain ⟨g, rfl⟩ := Int.eq_ofNat_of_zero_le (show 0 ≤ a2 by omega)
      obtain ⟨i, rfl⟩ := Int.eq_ofNat_of_zero_le (show 0 ≤ a3 by omega)
      exact j0_ev h (by omega) (by omega) (by omega)
  · rw [decide_eq_false hfew]
    simp only [Bool.false_eq_true, if_false]
    exact hup
end Go.Proofs.YtnogkpofgkaefaaDoor.Pure
