/- The plain law of PlanRound: by Next one comes through all stages, each once, and back to where one was. -/
import Derived.Test.YtnogkpofgkaefaaDoorDPlanRound
import Derived.Test.YtnogkpofgkaefaaDoorPQ
namespace Go.Proofs.YtnogkpofgkaefaaDoor.Pure
open Go.RowKit Go.Proofs.YtnogkpofgkaefaaDoorW.PrintWords Go.Proofs.YtnogkpofgkaefaaDoorW.PrintLast Go.Proofs.YtnogkpofgkaefaaDoorW.PrintMore Go.Proofs.YtnogkpofgkaefaaDoor.F Go.Proofs.YtnogkpofgkaefaaDoor.PG Go.Proofs.YtnogkpofgkaefaaDoor.PM Go.Proofs.YtnogkpofgkaefaaDoor.PP Go.Proofs.YtnogkpofgkaefaaDoor.PQ
namespace PlanRound
def seen (n k : Nat) : Nat → Nat
  | 0 => 0
  | i + 1 => seen n k i ||| 2 ^ ((k + i) % n)
theorem seen_facts : ∀ n, n < 7 → ∀ k, k < 7 → ∀ i, i < 7 → i < n → (seen n k i).testBit ((k + i) % n) = false ∧ seen n k i < 256 := by decide +kernel
theorem l0_ev {m : List Int} {ss : List S47} {am red hold : Int} (h : Fits m ss am red hold) {k : Nat} (hk : k < ss.length) : ∀ d i : Nat, i + d = ss.length →
    Ev (fun f => pelicanlaw14_PlanRound.l0 f (k : Int) (((k + i) % ss.length : Nat) : Int) ((seen ss.length k i : Nat) : Int) (i : Int) m ss am red hold) true := by
  have hf := h.few
  intro d
  induction d with
  | zero =>
    intro i hi
    obtain rfl : i = ss.length := by omega
    refine Ev.step (f := fun _ => some true) (fun f => ?_) (Ev.now _)
    simp only [pelicanlaw14_PlanRound.l0]
    rw [if_neg (by omega), Nat.add_mod_right, Nat.mod_eq_of_lt hk, beq_self_eq_true]
  | succ d ih =>
    intro i hi
    obtain ⟨hb, hs⟩ := seen_facts ss.length (by omega) k (by omega) i (by omega) (by omega)
    have hat : (k + i) % ss.length < ss.length := Nat.mod_lt _ (by omega)
    have hn := next_in h hat
    have e2 : ((k + i) % ss.length + 1) % ss.length = (k + (i + 1)) % ss.length := by rw [Nat.mod_add_mod, Nat.add_assoc]
    rw [e2] at hn
    have hbit := bit_facts (seen ss.length k i) hs ((k + i) % ss.length) (by omega)
    rw [hb] at hbit
    have hpow : 2 ^ ((k + i) % ss.length) < 256 := pow_lt (by omega)
    have e1 : ((i : Int) + 1) = ((i + 1 : Nat) : Int) := by omega
    refine Ev.step (fun f => ?_) (Ev.bind hn (f := fun f t352 => pelicanlaw14_PlanRound.l0 f (k : Int) t352 ((seen ss.length k (i + 1) : Nat) : Int) ((i + 1 : Nat) : Int) m ss am red hold) (ih (i + 1) (by omega)))
    simp only [pelicanlaw14_PlanRound.l0]
    rw [if_pos (by omega), if_neg (by omega), if_neg (by omega), if_pos (by omega), hbit, if_neg (by simp), shl_one _ (by omega), or_nat _ _ (by omega) (by omega), wr (by omega) (by omega), e1]
    rfl
end PlanRound
open PlanRound
theorem PlanRound (l0_0 : List Int) (l0_1 : List S47) (a0_2 a0_3 a0_4 a1 : Int) : ∃ k, pelicanlaw14_PlanRound.f k l0_0 l0_1 a0_2 a0_3 a0_4 a1 = some true := by
  refine Ev.rounds ?_
  refine Ev.congr (fun n => rfl) (Ev.bind PQ.awake_ev ?_)
  have hup : Ev (fun n => pelicanlaw14_PlanRound.j0 n a1 true true l0_0 l0_1 a0_2 a0_3 a0_4) true := Ev.step (f := fun _ => some true) (fun n => by simp only [pelicanlaw14_PlanRound.j0, if_true]) (Ev.now _)
  simp only [if_true, few_f, Option.bind_some]
  by_cases hfew : l0_0.length ≤ 10 ∧ l0_1.length ≤ 10
  · rw [decide_eq_true hfew]
    simp only [if_true]
    refine Ev.bind (fit_ev l0_0 l0_1 a0_2 a0_3 a0_4 (by omega)) ?_
    cases hf : plan_fitB.f l0_0 l0_1 a0_2 a0_3 a0_4 with
    | false => exact hup
    | true =>
      have h := (fits_iff _ _ _ _ _).1 hf
      have hlen := h.few
      have hbad : ¬ (0 ≤ a1 ∧ a1 < (l0_1.length : Int)) → Ev (fun n => pelicanlaw14_PlanRound.j1 n a1 true l0_0 l0_1 a0_2 a0_3 a0_4) true := fun hk =>
        Ev.step (f := fun n => (plan_Next.f n l0_0 l0_1 a0_2 a0_3 a0_4 a1).bind fun t351 => some (t351 == (-1))) (fun n => by simp only [pelicanlaw14_PlanRound.j1, if_true]) (Ev.bind (next_out h hk) (Ev.now _))
      by_cases h0 : a1 < 0
      · refine Ev.step (fun n => ?_) (hbad (by omega))
        simp only [pelicanlaw14_PlanRound.j0, Bool.not_true, Bool.false_eq_true, if_false, h0, if_true]
      · by_cases h1 : a1 ≥ (l0_1.length : Int)
        · refine Ev.step (fun n => ?_) (hbad (by omega))
          simp only [pelicanlaw14_PlanRound.j0, Bool.not_true, Bool.false_eq_true, if_false, h0, h1, decide_true]
        · obtain ⟨k, rfl⟩ := Int.eq_ofNat_of_zero_le (show 0 ≤ a1 by omega)
          have hk : k < l0_1.length := by omega
          have hl := l0_ev h hk l0_1.length 0 (Nat.zero_add _)
          rw [Nat.add_zero, Nat.mod_eq_of_lt hk] at hl
          refine Ev.step (f := fun n => pelicanlaw14_PlanRound.j1 n (k : Int) false l0_0 l0_1 a0_2 a0_3 a0_4) (fun n => ?_) (Ev.step (fun n => ?_) hl)
          · simp only [pelicanlaw14_PlanRound.j0, Bool.not_true, Bool.false_eq_true, if_false, h0, h1, decide_false]
          · simp only [pelicanlaw14_PlanRound.j1, Bool.false_eq_true, if_false]
            rfl
  · rw [decide_eq_false hfew]
    simp only [Bool.false_eq_true, if_false]
    exact hup
end Go.Proofs.YtnogkpofgkaefaaDoor.Pure
