/- The plain law of PlanCycle: a cycle is no shorter than any stage, with what stands behind it, for each stage; with longer ambers it is longer by as many as there are stages. -/
import Derived.Test.YtnogkpofgkaefaaDoorDPlanCycle
import Derived.Test.YtnogkpofgkaefaaDoorPQ
namespace Go.Proofs.YtnogkpofgkaefaaDoor.Pure
open Go.RowKit Go.Proofs.YtnogkpofgkaefaaDoorW.PrintWords Go.Proofs.YtnogkpofgkaefaaDoorW.PrintLast Go.Proofs.YtnogkpofgkaefaaDoorW.PrintMore Go.Proofs.YtnogkpofgkaefaaDoor.F Go.Proofs.YtnogkpofgkaefaaDoor.PG Go.Proofs.YtnogkpofgkaefaaDoor.PM Go.Proofs.YtnogkpofgkaefaaDoor.PP Go.Proofs.YtnogkpofgkaefaaDoor.PQ
namespace PlanCycle
def mins (ss : List S47) : Int := (ss.map (·.f1)).sum
def cyc (am red : Int) (b : Int) (s : S47) : Int := b + (s.f1 + am + red)
theorem cyc_eq (am red : Int) : ∀ (ss : List S47) (b : Int), ss.foldl (cyc am red) b = b + mins ss + (ss.length : Int) * (am + red) := by
  intro ss
  induction ss with
  | nil => intro b; simp [mins]
  | cons s ss ih =>
    intro b
    rw [List.foldl_cons, ih]
    simp only [mins, cyc, List.map_cons, List.sum_cons, List.length_cons]
    rw [show ((ss.length + 1 : Nat) : Int) = (ss.length : Int) + 1 by omega, Int.add_mul, Int.one_mul]
    omega
theorem mins_facts : ∀ ss : List S47, (∀ s ∈ ss, 1 ≤ s.f1 ∧ s.f1 ≤ 200) → (ss.length : Int) ≤ mins ss ∧ mins ss ≤ 200 * (ss.length : Int) ∧ ∀ s ∈ ss, s.f1 + (ss.length : Int) - 1 ≤ mins ss := by
  intro ss
  induction ss with
  | nil => intro _; exact ⟨by simp [mins], by simp [mins], fun s hs => by cases hs⟩
  | cons t ss ih =>
    intro h
    obtain ⟨h1, h2, h3⟩ := ih fun s hs => h s (by simp [hs])
    have ht := h t (by simp)
    have e : mins (t :: ss) = t.f1 + mins ss := by simp [mins]
    have el : ((t :: ss).length : Int) = (ss.length : Int) + 1 := by simp
    rw [e, el]
    refine ⟨by omega, by omega, fun s hs => ?_⟩
    rcases List.mem_cons.1 hs with rfl | hs
    · omega
    · have := h3 s hs; omega
theorem loop (m : List Int) (tt : List S47) (hold : Int) {ss : List S47} {am red : Int} (hs : ∀ s ∈ ss, 1 ≤ s.f1 ∧ s.f1 ≤ 200) (hl : ss.length ≤ 6) (ha : 1 ≤ am ∧ am ≤ 200) (hr : 1 ≤ red ∧ red ≤ 200) : ∀ d i : Nat, i + d = ss.length → ∀ b : Int, 0 ≤ b ∧ b ≤ 600 * (i : Int) →
    Ev (fun n => plan_Cycle.l0 n b ss (ss.length : Int) (i : Int) m tt am red hold) ((ss.drop i).foldl (cyc am red) b) := by
  intro d
  induction d with
  | zero =>
    intro i hi b _
    rw [List.drop_of_length_le (by omega)]
    refine Ev.step (f := fun _ => some b) (fun n => ?_) (Ev.now _)
    simp only [plan_Cycle.l0]
    rw [if_neg (by omega)]
  | succ d ih =>
    intro i hi b hb
    have hlt : i < ss.length := by omega
    have h1 := hs _ (List.getElem_mem hlt)
    have e1 : ((i : Int) + 1) = ((i + 1 : Nat) : Int) := by omega
    rw [List.drop_eq_getElem_cons hlt, List.foldl_cons]
    refine Ev.step (fun n => ?_) (ih (i + 1) (by omega) (cyc am red b ss[i]) (by unfold cyc; omega))
    simp only [plan_Cycle.l0]
    rw [if_pos (by omega), if_pos (by omega), if_pos (by omega), rd_stage ss hlt, wr (x := ss[i].f1 + am) (by omega) (by omega), wr (x := ss[i].f1 + am + red) (by omega) (by omega), wr (x := b + (ss[i].f1 + am + red)) (by omega) (by omega), wr (by omega) (by omega), e1]
    rfl
theorem cycle_ev {m : List Int} {ss : List S47} {am red hold : Int} (h : Fits m ss am red hold) : Ev (fun n => plan_Cycle.f n m ss am red hold) (mins ss + (ss.length : Int) * (am + red)) := by
  have hf := h.few
  refine Ev.congr (fun n => rfl) (Ev.bind (fit_ev m ss am red hold (by omega)) ?_)
  rw [(fits_iff m ss am red hold).2 h]
  simp only [if_true]
  have := loop m ss hold (fun s hs => (h.stage s hs).2.2.1) hf.2 h.amber h.red ss.length 0 (Nat.zero_add _) 0 (by omega)
  rw [List.drop_zero, cyc_eq, Int.zero_add] at this
  exact this
end PlanCycle
open PlanCycle
theorem PlanCycle (l0_0 : List Int) (l0_1 : List S47) (a0_2 a0_3 a0_4 a1 : Int) : ∃ k, pelicanlaw14_PlanCycle.f k l0_0 l0_1 a0_2 a0_3 a0_4 a1 = some true := by
  refine Ev.rounds ?_
  refine Ev.congr (fun n => rfl) (Ev.bind PQ.awake_ev ?_)
  have hup : Ev (fun n => pelicanlaw14_PlanCycle.j0 n a1 true true l0_0 l0_1 a0_2 a0_3 a0_4) true := Ev.step (f := fun _ => some true) (fun n => by simp only [pelicanlaw14_PlanCycle.j0, if_true]) (Ev.now _)
  simp only [if_true, few_f, Option.bind_some]
  by_cases hfew : l0_0.length ≤ 10 ∧ l0_1.length ≤ 10
  · rw [decide_eq_true hfew]
    simp only [if_true]
    refine Ev.bind (fit_ev l0_0 l0_1 a0_2 a0_3 a0_4 (by omega)) ?_
    cases hf : plan_fitB.f l0_0 l0_1 a0_2 a0_3 a0_4 with
    | false => simp only [Bool.false_eq_true, if_false]; exact hup
    | true =>
      have h := (fits_iff _ _ _ _ _).1 hf
      simp only [if_true]
      by_cases c1 : a1 < 0
      · simp only [c1, if_true]; exact hup
      by_cases d1 : a1 ≥ (l0_1.length : Int)
      · simp only [c1, d1, if_false, decide_true]; exact hup
      simp only [c1, d1, if_false, decide_false]
      obtain ⟨k, rfl⟩ := Int.eq_ofNat_of_zero_le (show 0 ≤ a1 by omega)
      have hk : k < l0_1.length := by omega
      have hlen := h.few
      have ha := h.amber
      have hr := h.red
      obtain ⟨m1, m2, m3⟩ := mins_facts l0_1 fun s hs => (h.stage s hs).2.2.1
      have m3 := m3 _ (List.getElem_mem hk)
      have h4 := (h.stage _ (List.getElem_mem hk)).2.2.1
      have hprod : 0 ≤ (l0_1.length : Int) * (a0_2 + a0_3) ∧ (l0_1.length : Int) * (a0_2 + a0_3) ≤ 400 * (l0_1.length : Int) := by
        rcases (by omega : l0_1.length = 2 ∨ l0_1.length = 3 ∨ l0_1.length = 4 ∨ l0_1.length = 5 ∨ l0_1.length = 6) with e | e | e | e | e <;> rw [e] <;> omega
      refine Ev.step (fun n => by simp only [pelicanlaw14_PlanCycle.j0, Bool.false_eq_true, if_false]; rfl) (Ev.bind (cycle_ev h) ?_)
      have e0 : wrap64 (a0_2 + 1) = a0_2 + 1 := wr (by omega) (by omega)
      have i0 : (0 : Int) ≤ (k : Int) := by omega
      have i1 : (k : Int) < (l0_1.length : Int) := by omega
      rw [rd_stage l0_1 hk, e0, wr (x := a0_2 + a0_3) (by omega) (by omega), wr (x := (l0_1.length : Int) * (a0_2 + a0_3)) (by omega) (by omega), wr (x := l0_1[k].f1 + (l0_1.length : Int) * (a0_2 + a0_3)) (by omega) (by omega), wr (x := l0_1[k].f1 + (l0_1.length : Int) * (a0_2 + a0_3) + (l0_1.length : Int)) (by omega) (by omega), wr (x := l0_1[k].f1 + (l0_1.length : Int) * (a0_2 + a0_3) + (l0_1.length : Int) - 1) (by omega) (by omega), wr (x := mins l0_1 + (l0_1.length : Int) * (a0_2 + a0_3) + (l0_1.length : Int)) (by omega) (by omega)]
      have i2 : mins l0_1 + (l0_1.length : Int) * (a0_2 + a0_3) ≥ l0_1[k].f1 + (l0_1.length : Int) * (a0_2 + a0_3) + (l0_1.length : Int) - 1 := by omega
      have i3 : mins l0_1 + (l0_1.length : Int) * (a0_2 + a0_3) ≤ 3600 := by omega
      simp only [i0, i1, i2, i3, if_true]
      refine Ev.bind (fit_ev l0_0 l0_1 (a0_2 + 1) a0_3 a0_4 (by omega)) ?_
      cases hq : plan_fitB.f l0_0 l0_1 (a0_2 + 1) a0_3 a0_4 with
      | false => simp only [Bool.false_eq_true, if_false]; exact Ev.now _
      | true =>
        simp only [if_true]
        refine Ev.bind (cycle_ev ((fits_iff _ _ _ _ _).1 hq)) ?_
        have e : mins l0_1 + (l0_1.length : Int) * (a0_2 + 1 + a0_3) = mins l0_1 + (l0_1.length : Int) * (a0_2 + a0_3) + (l0_1.length : Int) := by
          rw [show a0_2 + 1 + a0_3 = (a0_2 + a0_3) + 1 by omega, Int.mul_add, Int.mul_one]
          omega
        rw [e, beq_self_eq_true]
        exact Ev.now _
  · rw [decide_eq_false hfew]
    simp only [Bool.false_eq_true, if_false]
    exact hup
end Go.Proofs.YtnogkpofgkaefaaDoor.Pure
