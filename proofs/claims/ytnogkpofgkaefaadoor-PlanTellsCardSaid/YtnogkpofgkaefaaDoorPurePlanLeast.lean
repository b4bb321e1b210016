/- The plain law of PlanLeast: a group has green in some stage, for as long as Least tells; no stage that has it is shorter. -/
import Derived.Test.YtnogkpofgkaefaaDoorDPlanLeast
import Derived.Test.YtnogkpofgkaefaaDoorPQ
namespace Go.Proofs.YtnogkpofgkaefaaDoor.Pure
open Go.RowKit Go.Proofs.YtnogkpofgkaefaaDoorW.PrintWords Go.Proofs.YtnogkpofgkaefaaDoorW.PrintLast Go.Proofs.YtnogkpofgkaefaaDoorW.PrintMore Go.Proofs.YtnogkpofgkaefaaDoor.F Go.Proofs.YtnogkpofgkaefaaDoor.PG Go.Proofs.YtnogkpofgkaefaaDoor.PM Go.Proofs.YtnogkpofgkaefaaDoor.PP Go.Proofs.YtnogkpofgkaefaaDoor.PQ
namespace PlanLeast
theorem fold_or : ∀ (ss : List S47) (o : Nat), (∀ s ∈ ss, 0 ≤ s.f0 ∧ s.f0 < 256) → o < 256 →
    ∃ a : Nat, ss.foldl (fun o s => Go.bits .or .i64 o s.f0) (o : Int) = a ∧ a < 256 ∧ ∀ k, a.testBit k = true ↔ (o.testBit k = true ∨ ∃ s ∈ ss, s.f0.toNat.testBit k = true) := by
  intro ss
  induction ss with
  | nil => intro o _ ho; exact ⟨o, rfl, ho, by simp⟩
  | cons s ss ih =>
    intro o hs ho
    have h1 := hs s (by simp)
    obtain ⟨x, hx⟩ := Int.eq_ofNat_of_zero_le h1.1
    obtain ⟨a, e, ha, hb⟩ := ih (o ||| x) (fun z hz => hs z (by simp [hz])) (or_lt ho (by omega))
    refine ⟨a, ?_, ha, fun k => ?_⟩
    · rw [List.foldl_cons, hx, or_nat o _ (by omega) (by omega)]
      exact e
    · rw [hb k, Nat.testBit_or, Bool.or_eq_true, or_assoc]
      simp [hx]
theorem stage_lt {m : List Int} {ss : List S47} {am red hold : Int} (h : Fits m ss am red hold) : ∀ s ∈ ss, 0 ≤ s.f0 ∧ s.f0 < 256 := by
  intro s hs
  have hf := (h.stage s hs).1
  have hp8 := h.may.p8
  refine Classical.byContradiction fun hn => ?_
  rw [free_none fun hh => hn ⟨hh.2.1, by omega⟩] at hf
  cases hf
theorem had_bit {m : List Int} {ss : List S47} {am red hold : Int} (h : Fits m ss am red hold) {g : Nat} (hg : g < m.length) : ∃ s ∈ ss, s.f0.toNat.testBit g = true := by
  obtain ⟨a, ea, _, hb⟩ := fold_or ss 0 (stage_lt h) (by omega)
  have h8 := h.may.len8
  have hp8 := h.may.p8
  have hpos := Nat.two_pow_pos m.length
  have hh := h.had
  rw [shl_one _ (by omega), wr (by omega) (by omega)] at hh
  rw [show ((0 : Nat) : Int) = 0 from rfl, hh] at ea
  have : a = 2 ^ m.length - 1 := by omega
  have ht : a.testBit g = true := by rw [this, Nat.testBit_two_pow_sub_one]; exact decide_eq_true hg
  rcases (hb g).1 ht with h0 | h0
  · simp at h0
  · exact h0
def least (g : Nat) (b : Int) (s : S47) : Int := if s.f0.toNat.testBit g = true then mn b s.f1 else b
theorem mn_le (a b : Int) : mn a b ≤ a ∧ mn a b ≤ b ∧ (mn a b = a ∨ mn a b = b) := by unfold mn; split <;> omega
theorem least_facts (g : Nat) : ∀ (ss : List S47) (b : Int), ss.foldl (least g) b ≤ b ∧ (∀ s ∈ ss, s.f0.toNat.testBit g = true → ss.foldl (least g) b ≤ s.f1) ∧ (ss.foldl (least g) b = b ∨ ∃ s ∈ ss, s.f0.toNat.testBit g = true ∧ s.f1 = ss.foldl (least g) b) := by
  intro ss
  induction ss with
  | nil => intro b; exact ⟨Int.le_refl _, fun s hs => (by cases hs), .inl rfl⟩
  | cons s ss ih =>
    intro b
    obtain ⟨h1, h2, h3⟩ := ih (least g b s)
    rw [List.foldl_cons]
    have hm := mn_le b s.f1
    cases hb : s.f0.toNat.testBit g with
    | false =>
      have e : least g b s = b := by unfold least; rw [hb]; rfl
      rw [e] at h1 h2 h3 ⊢
      refine ⟨h1, fun t ht hbt => ?_, h3.imp id fun ⟨t, ht, hh⟩ => ⟨t, by simp [ht], hh⟩⟩
      rcases List.mem_cons.1 ht with rfl | ht
      · rw [hb] at hbt; cases hbt
      · exact h2 t ht hbt
    | true =>
      have e : least g b s = mn b s.f1 := by unfold least; rw [hb]; rfl
      rw [e] at h1 h2 h3 ⊢
      refine ⟨by omega, fun t ht hbt => ?_, ?_⟩
      · rcases List.mem_cons.1 ht with rfl | ht
        · omega
        · exact h2 t ht hbt
      · rcases h3 with h3 | ⟨t, ht, hh⟩
        · rcases hm.2.2 with h4 | h4
          · exact .inl (by omega)
          · exact .inr ⟨s, by simp, hb, by omega⟩
        · exact .inr ⟨t, by simp [ht], hh⟩
theorem stage_bit {m : List Int} {ss : List S47} {am red hold : Int} (h : Fits m ss am red hold) {g i : Nat} (hg : g < m.length) (hi : i < ss.length) : Go.bits .and .i64 (shr .i64 ((rd_T47 ss (i : Int)).f0) (g : Int)) 1 = if ss[i].f0.toNat.testBit g = true then 1 else 0 := by
  have h8 := h.may.len8
  obtain ⟨h0, h1⟩ := stage_lt h _ (List.getElem_mem hi)
  obtain ⟨x, hx⟩ := Int.eq_ofNat_of_zero_le h0
  rw [rd_stage ss hi, hx, bit_facts x (by omega) g (by omega)]
  rfl
theorem least_loop {m : List Int} {ss : List S47} {am red hold : Int} (h : Fits m ss am red hold) {g : Nat} (hg : g < m.length) : ∀ d i : Nat, i + d = ss.length → ∀ b : Int,
    Ev (fun n => plan_Least.l0 n (g : Int) b ss (ss.length : Int) (i : Int)) ((ss.drop i).foldl (least g) b) := by
  have hf := h.few
  intro d
  induction d with
  | zero =>
    intro i hi b
    rw [List.drop_of_length_le (by omega)]
    refine Ev.step (f := fun _ => some b) (fun n => ?_) (Ev.now _)
    simp only [plan_Least.l0]
    rw [if_neg (by omega)]
  | succ d ih =>
    intro i hi b
    have hlt : i < ss.length := by omega
    have e1 : ((i : Int) + 1) = ((i + 1 : Nat) : Int) := by omega
    rw [List.drop_eq_getElem_cons hlt, List.foldl_cons]
    refine Ev.step (fun n => ?_) (ih (i + 1) (by omega) (least g b ss[i]))
    simp only [plan_Least.l0]
    rw [if_pos (by omega), if_pos (by omega), if_pos (by omega), if_pos (by omega), stage_bit h hg hlt, wr (by omega) (by omega), e1, rd_stage ss hlt]
    unfold least
    cases ss[i].f0.toNat.testBit g <;> simp
theorem least_ev {m : List Int} {ss : List S47} {am red hold : Int} (h : Fits m ss am red hold) {g : Nat} (hg : g < m.length) : Ev (fun n => plan_Least.f n m ss am red hold (g : Int)) (ss.foldl (least g) 200) := by
  have hf := h.few
  have h8 := h.may.len8
  refine Ev.congr (fun n => rfl) (Ev.bind (fit_ev m ss am red hold (by omega)) ?_)
  rw [(fits_iff m ss am red hold).2 h]
  simp only [if_true, in_some, Option.bind_some]
  rw [wr (by omega) (by omega), decide_eq_true (show (0 : Int) ≤ (g : Int) ∧ (g : Int) ≤ (m.length : Int) - 1 by omega)]
  refine Ev.step (fun n => ?_) (least_loop h hg ss.length 0 (Nat.zero_add _) 200)
  simp only [plan_Least.j0, Bool.not_true, Bool.false_eq_true, if_false]
  rfl
theorem l0_ev {m : List Int} {ss : List S47} {am red hold : Int} (h : Fits m ss am red hold) {g k : Nat} (hg : g < m.length) (hk : k < ss.length) : ∀ d i : Nat, i + d = ss.length → ∀ b : Bool,
    (b = true ∨ ∃ j, ∃ hj : j < ss.length, i ≤ j ∧ ss[j].f0.toNat.testBit g = true ∧ ss[j].f1 = ss.foldl (least g) 200) →
    Ev (fun n => pelicanlaw14_PlanLeast.l0 n (k : Int) (g : Int) (ss.foldl (least g) 200) b (i : Int) m ss am red hold) true := by
  have hf := h.few
  obtain ⟨_, hall, hone⟩ := least_facts g ss 200
  intro d
  induction d with
  | zero =>
    intro i hi b hb
    have hb : b = true := by
      rcases hb with hb | ⟨j, hj, h1, _⟩
      · exact hb
      · omega
    subst hb
    have h1 : ss.foldl (least g) 200 ≥ 1 := by
      rcases hone with h1 | ⟨s, hs, _, h1⟩
      · omega
      · have := (h.stage s hs).2.2.1; omega
    refine Ev.step (f := fun _ => some true) (fun n => ?_) (Ev.now _)
    simp only [pelicanlaw14_PlanLeast.l0]
    rw [if_neg (by omega), if_pos trivial, if_pos h1, if_pos (by omega), if_pos (by omega), if_pos (by omega), stage_bit h hg hk, rd_stage ss hk]
    cases hbit : ss[k].f0.toNat.testBit g with
    | false => simp
    | true =>
      have h2 := hall _ (List.getElem_mem hk) hbit
      have h3 := (h.stage _ (List.getElem_mem hk)).2.2.2
      rw [if_neg (by simp), if_pos (by omega), decide_eq_true (by omega)]
  | succ d ih =>
    intro i hi b hb
    have hlt : i < ss.length := by omega
    have e1 : ((i : Int) + 1) = ((i + 1 : Nat) : Int) := by omega
    cases b with
    | true =>
      refine Ev.step (fun n => ?_) (ih (i + 1) (by omega) true (.inl rfl))
      simp only [pelicanlaw14_PlanLeast.l0]
      rw [if_pos (by omega), if_pos trivial, wr (by omega) (by omega), e1]
    | false =>
      refine Ev.step (fun n => ?_) (ih (i + 1) (by omega) (if ss[i].f0.toNat.testBit g = true then (ss[i].f1 == ss.foldl (least g) 200) else false) ?_)
      · simp only [pelicanlaw14_PlanLeast.l0]
        rw [if_pos (by omega), if_neg (by simp), if_pos (by omega), if_pos (by omega), stage_bit h hg hlt, wr (by omega) (by omega), e1, rd_stage ss hlt]
        cases ss[i].f0.toNat.testBit g <;> simp
      · rcases hb with hb | ⟨j, hj, h1, h2, h3⟩
        · cases hb
        · rcases Nat.lt_or_ge i j with h4 | h4
          · exact .inr ⟨j, hj, h4, h2, h3⟩
          · obtain rfl : j = i := by omega
            exact .inl (by rw [h2, if_pos rfl, h3, beq_self_eq_true])
end PlanLeast
open PlanLeast
theorem PlanLeast (l0_0 : List Int) (l0_1 : List S47) (a0_2 a0_3 a0_4 a1 a2 : Int) : ∃ k, pelicanlaw14_PlanLeast.f k l0_0 l0_1 a0_2 a0_3 a0_4 a1 a2 = some true := by
  refine Ev.rounds ?_
  refine Ev.congr (fun n => rfl) (Ev.bind PQ.awake_ev ?_)
  have hup : Ev (fun n => pelicanlaw14_PlanLeast.j0 n a1 a2 true true l0_0 l0_1 a0_2 a0_3 a0_4) true := Ev.step (f := fun _ => some true) (fun n => by simp only [pelicanlaw14_PlanLeast.j0, if_true]) (Ev.now _)
  simp only [if_true, few_f, Option.bind_some]
  by_cases hfew : l0_0.length ≤ 10 ∧ l0_1.length ≤ 10
  · rw [decide_eq_true hfew]
    simp only [if_true]
    refine Ev.bind (fit_ev l0_0 l0_1 a0_2 a0_3 a0_4 (by omega)) ?_
    cases hf : plan_fitB.f l0_0 l0_1 a0_2 a0_3 a0_4 with
    | false => simp only [Bool.false_eq_true, if_false]; exact hup
    | true =>
      have h := (fits_iff _ _ _ _ _).1 hf
      simp only [if_true]
      by_cases c1 : a1 < 0
      · simp only [c1, if_true]; exact hup
      by_cases d1 : a1 ≥ (l0_1.length : Int)
      · simp only [c1, d1, if_true, if_false]; exact hup
      by_cases c2 : a2 < 0
      · simp only [c1, d1, c2, if_true, if_false]; exact hup
      by_cases d2 : a2 ≥ (l0_0.length : Int)
      · simp only [c1, d1, c2, d2, if_false, decide_true]; exact hup
      simp only [c1, d1, c2, d2, if_false, decide_false]
      obtain ⟨k, rfl⟩ := Int.eq_ofNat_of_zero_le (show 0 ≤ a1 by omega)
      obtain ⟨g, rfl⟩ := Int.eq_ofNat_of_zero_le (show 0 ≤ a2 by omega)
      have hg : g < l0_0.length := by omega
      have hk : k < l0_1.length := by omega
      refine Ev.step (fun n => by simp only [pelicanlaw14_PlanLeast.j0, Bool.false_eq_true, if_false]; rfl) (Ev.bind (least_ev h hg) (l0_ev h hg hk l0_1.length 0 (Nat.zero_add _) false (.inr ?_)))
      obtain ⟨hle, hall, hone⟩ := least_facts g l0_1 200
      have hex : ∃ s ∈ l0_1, s.f0.toNat.testBit g = true ∧ s.f1 = l0_1.foldl (least g) 200 := by
        rcases hone with h1 | h1
        · obtain ⟨s, hs, hb⟩ := had_bit h hg
          have := hall s hs hb
          have := (h.stage s hs).2.2.1
          exact ⟨s, hs, hb, by omega⟩
        · exact h1
      obtain ⟨s, hs, hb, he⟩ := hex
      obtain ⟨j, hj, rfl⟩ := List.mem_iff_getElem.1 hs
      exact ⟨j, hj, Nat.zero_le _, hb, he⟩
  · rw [decide_eq_false hfew]
    simp only [Bool.false_eq_true, if_false]
    exact hup
end Go.Proofs.YtnogkpofgkaefaaDoor.Pure
