/- The document's answers for layer 14, by definition, are what the program's functions compute (own text; begun). -/
import Derived.Test.YtnogkpofgkaefaaDoorDR14
import Derived.Test.YtnogkpofgkaefaaDoorPurePlanLeast
import Derived.Test.YtnogkpofgkaefaaDoorPureGroupTells
import Derived.Test.YtnogkpofgkaefaaDoorPurePlanCycle
namespace Go.Proofs.YtnogkpofgkaefaaDoor.RT
open Go.RowKit Go.Proofs.YtnogkpofgkaefaaDoorW.PrintWords Go.Proofs.YtnogkpofgkaefaaDoorW.PrintLast Go.Proofs.YtnogkpofgkaefaaDoorW.PrintMore Go.Proofs.YtnogkpofgkaefaaDoor.F Go.Proofs.YtnogkpofgkaefaaDoor.PG Go.Proofs.YtnogkpofgkaefaaDoor.PM Go.Proofs.YtnogkpofgkaefaaDoor.PP Go.Proofs.YtnogkpofgkaefaaDoor.PQ
open Go.Proofs.YtnogkpofgkaefaaDoor.Pure (GroupTells.free_ev GroupTells.may_ev GroupTells.in_ev)
theorem stage_ev (m : List Int) (ss : List S47) (am red hold : Int) (s : S47) : Ev (fun n => pelicanref14_stage.f n m ss am red hold s.f0 s.f1 s.f2) (plan_stageB.f m s) := by
  refine Ev.congr (fun n => rfl) (Ev.bind (Pure.GroupTells.free_ev m s.f0) (Ev.congr (f := fun _ => some (plan_stageB.f m s)) (fun n => ?_) (Ev.now _)))
  rw [stage_eq]
  cases freeB m s.f0 with
  | false => simp
  | true =>
    by_cases h2 : s.f0 = 0
    · simp [h2]
    · by_cases h3 : s.f1 ≥ 1
      · by_cases h4 : s.f1 ≤ 200
        · by_cases h5 : s.f2 ≥ s.f1
          · have h5' : s.f1 ≤ s.f2 := h5
            have h3' : 1 ≤ s.f1 := h3
            simp [h2, h3, h4, h5]
          · have h5' : ¬ s.f1 ≤ s.f2 := by omega
            simp [h2, h3, h4, h5]
        · simp [h2, h3, h4]
      · simp [h2, h3]
/-- The rest of Fit: each group has a stage, and the other times may be. -/
theorem has_ev (m : List Int) (ss : List S47) (am red hold : Int) {k g : Nat} (hk : k < ss.length) (h : 0 ≤ ss[k].f0 ∧ ss[k].f0 < 1048576) (hg : g < 12) : Ev (fun n => pelicanref14_Has.f n m ss am red hold (k : Int) (g : Int)) (ss[k].f0.toNat.testBit g) := by
  obtain ⟨x, hx⟩ := Int.eq_ofNat_of_zero_le h.1
  refine Ev.congr (f := fun n => (pelicanref13_In.f n (x : Int) (g : Int)).bind fun t => some t) (fun n => ?_) ?_
  · unfold pelicanref14_Has.f
    rw [if_pos (by omega), if_pos (by omega), rd_stage ss hk, hx]
  · rw [hx]
    exact Ev.bind (Pure.GroupTells.in_ev (by omega) hg) (Ev.now _)
def some_ (ss : List S47) (g : Nat) : Prop := ∃ s ∈ ss, s.f0.toNat.testBit g = true
theorem l2_ev (m : List Int) {ss : List S47} (am red hold : Int) (hs : ∀ s ∈ ss, 0 ≤ s.f0 ∧ s.f0 < 256) (hl : ss.length ≤ 6) {g : Nat} (hg : g < 9) {r : Bool}
    (hC : some_ ss g → Ev (fun n => pelicanref14_Fit.l1 n ((g + 1 : Nat) : Int) m ss am red hold) r) (hN : ¬ some_ ss g → r = false) :
    ∀ d k : Nat, k + d = ss.length → ∀ b : Bool, (b = true ↔ some_ (ss.take k) g) → Ev (fun n => pelicanref14_Fit.l2 n (g : Int) b (k : Int) m ss am red hold) r := by
  intro d
  induction d with
  | zero =>
    intro k hk b hb
    rw [List.take_of_length_le (by omega)] at hb
    cases b with
    | true =>
      refine Ev.step (fun n => ?_) (hC (hb.1 rfl))
      simp only [pelicanref14_Fit.l2]
      rw [if_neg (by omega), if_pos trivial, wr (by omega) (by omega)]
      rfl
    | false =>
      rw [hN fun h => by have := hb.2 h; cases this]
      refine Ev.step (f := fun _ => some false) (fun n => ?_) (Ev.now _)
      simp only [pelicanref14_Fit.l2]
      rw [if_neg (by omega), if_neg (by simp)]
  | succ d ih =>
    intro k hk b hb
    have hlt : k < ss.length := by omega
    have h1 := hs _ (List.getElem_mem hlt)
    have e1 : ((k : Int) + 1) = ((k + 1 : Nat) : Int) := by omega
    have hnext : (b || ss[k].f0.toNat.testBit g) = true ↔ some_ (ss.take (k + 1)) g := by
      rw [Bool.or_eq_true, hb, List.take_succ_eq_append_getElem hlt]
      unfold some_
      constructor
      · rintro (⟨s, h, h'⟩ | h)
        · exact ⟨s, List.mem_append.2 (.inl h), h'⟩
        · exact ⟨_, List.mem_append.2 (.inr (List.mem_singleton.2 rfl)), h⟩
      · rintro ⟨s, h, h'⟩
        rcases List.mem_append.1 h with h | h
        · exact .inl ⟨s, h, h'⟩
        · rw [List.mem_singleton.1 h] at h'
          exact .inr h'
    have := ih (k + 1) (by omega) _ hnext
    refine Ev.step (f := fun n => (pelicanref14_Has.f n m ss am red hold (k : Int) (g : Int)).bind fun t308 => (if b = true then (pelicanref14_Fit.l2 n (g : Int) true ((k + 1 : Nat) : Int) m ss am red hold) else (pelicanref14_Fit.l2 n (g : Int) t308 ((k + 1 : Nat) : Int) m ss am red hold))) (fun n => ?_) (Ev.bind (has_ev m ss am red hold hlt ⟨h1.1, by omega⟩ (by omega)) ?_)
    · simp only [pelicanref14_Fit.l2]
      rw [if_pos (by omega), wr (by omega) (by omega), e1]
    · cases b <;> simpa using this
/-- The other times may be. -/
def times (am red hold : Int) : Bool := decide (1 ≤ am ∧ am ≤ 200) && (decide (1 ≤ red ∧ red ≤ 200) && decide (0 ≤ hold ∧ hold ≤ 300))
theorem l1_ev (m : List Int) {ss : List S47} (am red hold : Int) (hs : ∀ s ∈ ss, 0 ≤ s.f0 ∧ s.f0 < 256) (hl : ss.length ≤ 6) (h8 : m.length ≤ 8) :
    ∀ d g : Nat, g + d = m.length → ∀ r : Bool, ((∀ j, g ≤ j → j < m.length → some_ ss j) → r = times am red hold) → (¬ (∀ j, g ≤ j → j < m.length → some_ ss j) → r = false) → Ev (fun n => pelicanref14_Fit.l1 n (g : Int) m ss am red hold) r := by
  intro d
  induction d with
  | zero =>
    intro g hg r h1 _
    rw [h1 fun j h2 h3 => by omega]
    refine Ev.step (f := fun _ => some (times am red hold)) (fun n => ?_) (Ev.now _)
    simp only [pelicanref14_Fit.l1]
    rw [if_neg (by omega)]
    unfold times
    by_cases c1 : am ≥ 1 <;> by_cases c2 : am ≤ 200 <;> by_cases c3 : red ≥ 1 <;> by_cases c4 : red ≤ 200 <;> by_cases c5 : hold ≥ 0 <;> simp [c1, c2, c3, c4, c5]
    all_goals omega
  | succ d ih =>
    intro g hg r h1 h2
    refine Ev.step (fun n => ?_) (l2_ev m am red hold hs hl (g := g) (by omega) (r := r) (fun hsome => ih (g + 1) (by omega) r (fun h => h1 fun j h3 h4 => ?_) (fun h => h2 fun hh => h fun j h3 h4 => hh j (by omega) h4)) (fun hn => h2 fun hh => hn (hh g (Nat.le_refl _) (by omega))) ss.length 0 (Nat.zero_add _) false ?_)
    · simp only [pelicanref14_Fit.l1]
      rw [if_pos (by omega)]
      rfl
    · rcases Nat.lt_or_ge g j with h5 | h5
      · exact h j h5 h4
      · obtain rfl : j = g := by omega
        exact hsome
    · unfold some_
      simp
theorem stage_rng {m : List Int} {ss : List S47} (hst : ss.all (plan_stageB.f m) = true) : ∀ s ∈ ss, 0 ≤ s.f0 ∧ s.f0 < ((2 ^ m.length : Nat) : Int) := by
  intro s hs
  have h := List.all_eq_true.1 hst s hs
  rw [stage_eq, Bool.and_eq_true] at h
  refine Classical.byContradiction fun hn => ?_
  rw [free_none fun hh => hn hh.2] at h
  cases h.1
theorem had_iff {m : List Int} {ss : List S47} (hm : MayOk m) (hst : ss.all (plan_stageB.f m) = true) : (ss.foldl (fun o s => Go.bits .or .i64 o s.f0) 0 = wrap64 ((shl .i64 1 (m.length : Int)) - 1)) ↔ ∀ g, g < m.length → some_ ss g := by
  have hp8 := hm.p8
  have h8 := hm.len8
  have hpos := Nat.two_pow_pos m.length
  have hr := stage_rng hst
  obtain ⟨a, ea, ha, hb⟩ := Pure.PlanLeast.fold_or ss 0 (fun s hs => by have := hr s hs; omega) (by omega)
  rw [shl_one _ (by omega), wr (by omega) (by omega), show (0 : Int) = ((0 : Nat) : Int) from rfl, ea]
  constructor
  · intro h g hg
    have e : a = 2 ^ m.length - 1 := by omega
    have ht : a.testBit g = true := by rw [e, Nat.testBit_two_pow_sub_one]; exact decide_eq_true hg
    rcases (hb g).1 ht with h0 | h0
    · simp at h0
    · exact h0
  · intro h
    have e : a = 2 ^ m.length - 1 := by
      refine Nat.eq_of_testBit_eq fun k => ?_
      rw [Nat.testBit_two_pow_sub_one, Bool.eq_iff_iff, hb k, decide_eq_true_eq]
      constructor
      · rintro (h0 | ⟨s, hs, h0⟩)
        · simp at h0
        · have := hr s hs
          exact lt_of_testBit (n := m.length) (by omega) h0
      · intro hk
        exact .inr (h k hk)
    omega
theorem rfit_ev (m : List Int) (ss : List S47) (am red hold : Int) : Ev (fun n => pelicanref14_Fit.f n m ss am red hold) (plan_fitB.f m ss am red hold) := by
  have hno : Ev (fun n => pelicanref14_Fit.j0 n true m ss am red hold) false := Ev.step (f := fun _ => some false) (fun n => by simp only [pelicanref14_Fit.j0, if_true]) (Ev.now _)
  refine Ev.congr (fun n => rfl) (Ev.bind (Pure.GroupTells.may_ev m) ?_)
  by_cases hm : MayOk m
  · have hmay := (may_iff m).2 hm
    have h8 := hm.len8
    have hp8 := hm.p8
    simp only [hmay, if_true]
    by_cases hfew : 2 ≤ ss.length ∧ ss.length ≤ 6
    · have c1 : ¬ ((ss.length : Int) < 2) := by omega
      have c2 : ¬ ((ss.length : Int) > 6) := by omega
      simp only [c1, c2, if_false, decide_false]
      have key : Ev (fun n => pelicanref14_Fit.l0 n ((0 : Nat) : Int) m ss am red hold) ((List.range' 0 ss.length).all (fun k => plan_stageB.f m (rd_T47 ss (k : Int))) && (decide (ss.foldl (fun o s => Go.bits .or .i64 o s.f0) 0 = wrap64 ((shl .i64 1 (m.length : Int)) - 1)) && times am red hold)) := by
        have hcall : ∀ k, k < ss.length → ∀ r, Ev (fun n => if plan_stageB.f m (rd_T47 ss (k : Int)) = true then pelicanref14_Fit.l0 n ((k + 1 : Nat) : Int) m ss am red hold else some false) r → Ev (fun n => pelicanref14_Fit.l0 n (k : Int) m ss am red hold) r := by
          intro k hk r hr
          have e1 : ((k : Int) + 1) = ((k + 1 : Nat) : Int) := by omega
          refine Ev.step (fun n => ?_) (Ev.bind (f := fun n t => if t = true then pelicanref14_Fit.l0 n ((k + 1 : Nat) : Int) m ss am red hold else some false) (stage_ev m ss am red hold (rd_T47 ss (k : Int))) hr)
          simp only [pelicanref14_Fit.l0]
          rw [if_pos (by omega), if_pos (by omega), wr (by omega) (by omega), e1]
        refine loop_all (n := ss.length) (g := fun n k => pelicanref14_Fit.l0 n (k : Int) m ss am red hold) (ok := fun k => plan_stageB.f m (rd_T47 ss (k : Int))) (fun hall => ?_) (fun k hk hok r hE => hcall k hk r (by simp only [hok, if_true]; exact hE)) (fun k hk hok => hcall k hk false (by simp only [hok, Bool.false_eq_true, if_false]; exact Ev.now _)) ss.length 0 (Nat.zero_add _) (fun j hj => absurd hj (Nat.not_lt_zero j))
        have hst : ss.all (plan_stageB.f m) = true := by
          rw [List.all_eq_true]
          intro s hs
          obtain ⟨j, hj, rfl⟩ := List.mem_iff_getElem.1 hs
          have := hall j hj
          rwa [rd_stage ss hj] at this
        have hr := stage_rng hst
        have hl1 := l1_ev m am red hold (ss := ss) (fun s hs => by have := hr s hs; omega) hfew.2 h8 m.length 0 (Nat.zero_add _) (decide (ss.foldl (fun o s => Go.bits .or .i64 o s.f0) 0 = wrap64 ((shl .i64 1 (m.length : Int)) - 1)) && times am red hold)
          (fun h => by rw [decide_eq_true ((had_iff hm hst).2 fun g hg => h g (Nat.zero_le _) hg), Bool.true_and])
          (fun h => by rw [decide_eq_false fun hh => h fun g _ hg => (had_iff hm hst).1 hh g hg, Bool.false_and])
        refine Ev.step (fun n => ?_) hl1
        simp only [pelicanref14_Fit.l0]
        rw [if_neg (by omega)]
        rfl
      have heq : plan_fitB.f m ss am red hold = ((List.range' 0 ss.length).all (fun k => plan_stageB.f m (rd_T47 ss (k : Int))) && (decide (ss.foldl (fun o s => Go.bits .or .i64 o s.f0) 0 = wrap64 ((shl .i64 1 (m.length : Int)) - 1)) && times am red hold)) := by
        unfold plan_fitB.f times
        rw [hmay, decide_eq_true hfew, Bool.true_and, Bool.true_and]
        congr 1
        rw [Bool.eq_iff_iff, all_range, List.all_eq_true]
        constructor
        · intro h j hj
          rw [rd_stage ss hj]
          exact h _ (List.getElem_mem hj)
        · intro h s hs
          obtain ⟨j, hj, rfl⟩ := List.mem_iff_getElem.1 hs
          have := h j hj
          rwa [rd_stage ss hj] at this
      rw [heq]
      refine Ev.step (fun n => ?_) key
      simp only [pelicanref14_Fit.j0, Bool.false_eq_true, if_false]
      rfl
    · have hf : plan_fitB.f m ss am red hold = false := by unfold plan_fitB.f; rw [decide_eq_false hfew]; simp
      rw [hf]
      by_cases c1 : (ss.length : Int) < 2
      · simp only [c1, if_true]; exact hno
      · have c2 : (ss.length : Int) > 6 := by omega
        simp only [c1, c2, if_false, decide_true]; exact hno
  · have hf : plan_fitB.f m ss am red hold = false := by unfold plan_fitB.f; rw [may_false hm]; simp
    rw [hf, may_false hm]
    simp only [Bool.false_eq_true, if_false]
    exact hno
theorem rd_plan (l : List S37) {k : Nat} (h : k < l.length) : rd_T37 l (k : Int) = l[k] := by simp [rd_T37, h]
theorem rall_ev (l : List S37) : Ev (fun n => pelicanref14_All.f n l) (decide (1 ≤ l.length ∧ l.length ≤ 3) && !(l.any (plan_badB.f (rd_T37 l 0).f0.length))) := by
  have hno : Ev (fun n => pelicanref14_All.j0 n l true) false := Ev.step (f := fun _ => some false) (fun n => by simp only [pelicanref14_All.j0, if_true]) (Ev.now _)
  by_cases h : 1 ≤ l.length ∧ l.length ≤ 3
  · have key := loop_all (n := l.length) (g := fun n k => pelicanref14_All.l0 n l (k : Int)) (ok := fun k => !(plan_badB.f (rd_T37 l 0).f0.length (rd_T37 l (k : Int)))) (C := true) (fun _ => ?_) (fun k hk hok r hE => ?_) (fun k hk hok => ?_) l.length 0 (Nat.zero_add _) (fun j hj => absurd hj (Nat.not_lt_zero j))
    · have heq : (decide (1 ≤ l.length ∧ l.length ≤ 3) && !(l.any (plan_badB.f (rd_T37 l 0).f0.length))) = ((List.range' 0 l.length).all (fun k => !(plan_badB.f (rd_T37 l 0).f0.length (rd_T37 l (k : Int)))) && true) := by
        rw [decide_eq_true h, Bool.true_and, Bool.and_true, Bool.eq_iff_iff, all_range, Bool.not_eq_true', List.any_eq_false]
        constructor
        · intro hh j hj
          rw [rd_plan l hj]
          simpa using hh _ (List.getElem_mem hj)
        · intro hh x hx
          obtain ⟨j, hj, rfl⟩ := List.mem_iff_getElem.1 hx
          have := hh j hj
          rw [rd_plan l hj] at this
          simpa using this
      rw [heq]
      refine Ev.congr (f := fun n => pelicanref14_All.j0 n l false) (fun n => ?_) (Ev.step (fun n => ?_) key)
      · unfold pelicanref14_All.f
        rw [if_neg (by omega), decide_eq_false (by omega)]
      · simp only [pelicanref14_All.j0, Bool.false_eq_true, if_false]
        rfl
    · refine Ev.step (f := fun _ => some true) (fun n => ?_) (Ev.now _)
      simp only [pelicanref14_All.l0]
      rw [if_neg (by omega)]
    all_goals
      have e1 : ((k : Int) + 1) = ((k + 1 : Nat) : Int) := by omega
      have hl : (((rd_T37 l (k : Int)).f0.length : Int) = ((rd_T37 l 0).f0.length : Int)) ↔ ((rd_T37 l (k : Int)).f0.length = (rd_T37 l 0).f0.length) := by omega
      refine Ev.step (fun n => ?_) (Ev.bind (f := fun n t => if t = true then (if ((rd_T37 l (k : Int)).f0.length : Int) = ((rd_T37 l 0).f0.length : Int) then pelicanref14_All.l0 n l ((k + 1 : Nat) : Int) else some false) else some false) (rfit_ev (rd_T37 l (k : Int)).f0 (rd_T37 l (k : Int)).f1 (rd_T37 l (k : Int)).f2 (rd_T37 l (k : Int)).f3 (rd_T37 l (k : Int)).f4) ?_)
      · have hpos : (0 : Int) < (l.length : Int) := by omega
        simp only [pelicanref14_All.l0]
        rw [if_pos (by omega), if_pos (by omega), wr (by omega) (by omega), e1]
        simp only [hpos, if_true]
    · simp only [plan_badB.f, Bool.not_or, Bool.not_not, Bool.and_eq_true, Bool.not_eq_true', decide_eq_false_iff_not, ne_eq, Decidable.not_not] at hok
      simp only [hok.1, hok.2, if_true]
      exact hE
    · simp only [plan_badB.f, Bool.not_or, Bool.not_not, Bool.and_eq_false_iff] at hok
      rcases hok with hok | hok
      · simp only [hok, Bool.false_eq_true, if_false]; exact Ev.now _
      · have : ¬ ((rd_T37 l (k : Int)).f0.length = (rd_T37 l 0).f0.length) := by simpa using hok
        simp only [hl, this, if_false, ite_self]; exact Ev.now _
  · rw [decide_eq_false h, Bool.false_and]
    refine Ev.congr (f := fun n => pelicanref14_All.j0 n l true) (fun n => ?_) hno
    unfold pelicanref14_All.f
    by_cases c : (l.length : Int) < 1
    · rw [if_pos c]
    · rw [if_neg c, decide_eq_true (by omega)]
theorem next_eq (m : List Int) (ss : List S47) (am red hold a : Int) (hl : ss.length ≤ 10) : ∃ v, Ev (fun n => plan_Next.f n m ss am red hold a) v ∧ Ev (fun n => pelicanref14_Next.f n m ss am red hold a) v := by
  have hno : Ev (fun n => pelicanref14_Next.j0 n a true m ss am red hold) (-1) := Ev.step (f := fun _ => some (-1)) (fun n => by simp only [pelicanref14_Next.j0, if_true]) (Ev.now _)
  cases hf : plan_fitB.f m ss am red hold with
  | false =>
    refine ⟨-1, Ev.congr (fun n => rfl) (Ev.bind (fit_ev m ss am red hold (by omega)) ?_), Ev.congr (fun n => rfl) (Ev.bind (rfit_ev m ss am red hold) ?_)⟩
    · rw [hf]; simp only [Bool.false_eq_true, if_false]; exact Ev.now _
    · rw [hf]; simp only [Bool.false_eq_true, if_false]; exact hno
  | true =>
    have h := (fits_iff _ _ _ _ _).1 hf
    have hfew := h.few
    by_cases hk : 0 ≤ a ∧ a < (ss.length : Int)
    · obtain ⟨k, rfl⟩ := Int.eq_ofNat_of_zero_le hk.1
      have hk' : k < ss.length := by omega
      refine ⟨_, next_in h hk', Ev.congr (fun n => rfl) (Ev.bind (rfit_ev m ss am red hold) ?_)⟩
      have c1 : ¬ ((k : Int) < 0) := by omega
      have c2 : ¬ ((k : Int) ≥ (ss.length : Int)) := by omega
      rw [hf]
      simp only [if_true, c1, c2, if_false, decide_false]
      refine Ev.step (f := fun _ => some (((k + 1) % ss.length : Nat) : Int)) (fun n => ?_) (Ev.now _)
      simp only [pelicanref14_Next.j0, Bool.false_eq_true, if_false]
      rw [wr (x := (ss.length : Int) - 1) (by omega) (by omega), wr (by omega) (by omega)]
      by_cases e : k + 1 = ss.length
      · rw [if_pos (by omega), e, Nat.mod_self]; rfl
      · rw [if_neg (by omega), Nat.mod_eq_of_lt (by omega)]; rfl
    · refine ⟨-1, next_out h hk, Ev.congr (fun n => rfl) (Ev.bind (rfit_ev m ss am red hold) ?_)⟩
      rw [hf]
      simp only [if_true]
      by_cases c1 : a < 0
      · simp only [c1, if_true]; exact hno
      · have c2 : a ≥ (ss.length : Int) := by omega
        simp only [c1, c2, if_false, decide_true]; exact hno
theorem rcycle_loop (m : List Int) {ss : List S47} {am red hold : Int} (hs : ∀ s ∈ ss, 1 ≤ s.f1 ∧ s.f1 ≤ 200) (hl : ss.length ≤ 6) (ha : 1 ≤ am ∧ am ≤ 200) (hr : 1 ≤ red ∧ red ≤ 200) : ∀ d i : Nat, i + d = ss.length → ∀ b : Int, 0 ≤ b ∧ b ≤ 600 * (i : Int) →
    Ev (fun n => pelicanref14_Cycle.l0 n true b (i : Int) m ss am red hold) ((ss.drop i).foldl (Pure.PlanCycle.cyc am red) b) := by
  intro d
  induction d with
  | zero =>
    intro i hi b _
    rw [List.drop_of_length_le (by omega)]
    refine Ev.step (f := fun _ => some b) (fun n => ?_) (Ev.now _)
    simp only [pelicanref14_Cycle.l0]
    rw [if_neg (by omega)]
  | succ d ih =>
    intro i hi b hb
    have hlt : i < ss.length := by omega
    have h1 := hs _ (List.getElem_mem hlt)
    have e1 : ((i : Int) + 1) = ((i + 1 : Nat) : Int) := by omega
    rw [List.drop_eq_getElem_cons hlt, List.foldl_cons]
    have e2 : b + ss[i].f1 + am + red = Pure.PlanCycle.cyc am red b ss[i] := by unfold Pure.PlanCycle.cyc; omega
    refine Ev.step (fun n => ?_) (ih (i + 1) (by omega) (Pure.PlanCycle.cyc am red b ss[i]) (by rw [← e2]; omega))
    simp only [pelicanref14_Cycle.l0, if_true]
    rw [if_pos (by omega), if_pos (by omega), rd_stage ss hlt, wr (x := b + ss[i].f1) (by omega) (by omega), wr (x := b + ss[i].f1 + am) (by omega) (by omega), wr (x := b + ss[i].f1 + am + red) (by omega) (by omega), wr (by omega) (by omega), e1, e2]
theorem cycle_eq (m : List Int) (ss : List S47) (am red hold : Int) (hl : ss.length ≤ 10) : ∃ v, Ev (fun n => plan_Cycle.f n m ss am red hold) v ∧ Ev (fun n => pelicanref14_Cycle.f n m ss am red hold) v := by
  cases hf : plan_fitB.f m ss am red hold with
  | false =>
    refine ⟨0, Ev.congr (fun n => rfl) (Ev.bind (fit_ev m ss am red hold (by omega)) ?_), Ev.congr (fun n => rfl) (Ev.bind (rfit_ev m ss am red hold) ?_)⟩
    · rw [hf]; simp only [Bool.false_eq_true, if_false]; exact Ev.now _
    · rw [hf]
      refine Ev.step (f := fun _ => some 0) (fun n => ?_) (Ev.now _)
      simp only [pelicanref14_Cycle.l0, Bool.false_eq_true, if_false, ite_self]
  | true =>
    have h := (fits_iff _ _ _ _ _).1 hf
    have hlo := rcycle_loop m (hold := hold) (fun s hs => (h.stage s hs).2.2.1) h.few.2 h.amber h.red ss.length 0 (Nat.zero_add _) 0 (by omega)
    rw [List.drop_zero, Pure.PlanCycle.cyc_eq, Int.zero_add] at hlo
    refine ⟨_, Pure.PlanCycle.cycle_ev h, Ev.congr (fun n => rfl) (Ev.bind (rfit_ev m ss am red hold) ?_)⟩
    rw [hf]
    exact hlo
def diff (x y : S47) : Bool := !(x.f0 == y.f0) || (!(x.f1 == y.f1) || !(x.f2 == y.f2))
def alike (x y : List S47) : Bool := (List.range' 0 x.length).all (fun k => !(diff (rd_T47 x (k : Int)) (rd_T47 y (k : Int))))
theorem api_ev (x y : List S47) (hl : x.length ≤ 10) : Ev (fun n => api_Stage.f n x y) (decide (x.length = y.length) && alike x y) := by
  by_cases h : x.length = y.length
  · have key := loop_all (n := x.length) (g := fun n k => api_Stage.l0 n x y (x.length : Int) (k : Int)) (ok := fun k => !(diff (rd_T47 x (k : Int)) (rd_T47 y (k : Int)))) (C := true) (fun _ => ?_) (fun k hk hok r hE => ?_) (fun k hk hok => ?_) x.length 0 (Nat.zero_add _) (fun j hj => absurd hj (Nat.not_lt_zero j))
    · rw [decide_eq_true h, Bool.true_and]
      rw [Bool.and_true] at key
      refine Ev.congr (fun n => ?_) key
      unfold api_Stage.f
      rw [if_pos (by omega)]
      rfl
    · refine Ev.step (f := fun _ => some true) (fun n => ?_) (Ev.now _)
      simp only [api_Stage.l0]
      rw [if_neg (by omega)]
    · have e1 : ((k : Int) + 1) = ((k + 1 : Nat) : Int) := by omega
      rw [Bool.not_eq_true'] at hok
      refine Ev.step (fun n => ?_) hE
      unfold diff at hok
      simp only [api_Stage.l0]
      rw [if_pos (by omega), if_pos (by omega), if_pos (by omega), if_pos (by omega), hok, if_neg (by simp), wr (by omega) (by omega), e1]
    · rw [Bool.not_eq_false'] at hok
      refine Ev.step (f := fun _ => some false) (fun n => ?_) (Ev.now _)
      unfold diff at hok
      simp only [api_Stage.l0]
      rw [if_pos (by omega), if_pos (by omega), if_pos (by omega), if_pos (by omega), hok, if_pos rfl]
  · rw [decide_eq_false h, Bool.false_and]
    refine Ev.congr (f := fun _ => some false) (fun n => ?_) (Ev.now _)
    unfold api_Stage.f
    rw [if_neg (by omega)]
theorem eq_loop (a b : List Int) (hab : a.length = b.length) (hl : a.length < 9223372036854775807) : ∀ (d k : Nat), k + d = a.length → a.take k = b.take k → Ev (fun n => slices_Equal_int_int.l0 n a b (a.length : Int) (k : Int)) (decide (a = b)) := by
  intro d
  induction d with
  | zero =>
    intro k hk h
    rw [List.take_of_length_le (by omega), List.take_of_length_le (by omega)] at h
    refine Ev.step (f := fun _ => some (decide (a = b))) (fun n => by simp only [slices_Equal_int_int.l0]; rw [if_neg (by omega)]; simp [h]) (Ev.now _)
  | succ d ih =>
    intro k hk h
    have hlt : k < a.length := by omega
    have hlt' : k < b.length := by omega
    have ha : rd a (k : Int) = a[k] := by simp [rd, hlt]
    have hb : rd b (k : Int) = b[k] := by simp [rd, hlt']
    by_cases e : a[k] = b[k]
    · refine Ev.step (f := fun n => slices_Equal_int_int.l0 n a b (a.length : Int) ((k + 1 : Nat) : Int)) (fun n => ?_) (ih (k + 1) (by omega) (by rw [List.take_succ_eq_append_getElem hlt, List.take_succ_eq_append_getElem hlt', h, e]))
      simp only [slices_Equal_int_int.l0]
      rw [if_pos (by omega), if_pos (by omega), if_pos (by omega), if_pos (by omega), ha, hb, if_pos e, wr (by omega) (by omega)]
      rfl
    · have hne : a ≠ b := fun h => by subst h; exact e rfl
      refine Ev.step (f := fun _ => some (decide (a = b))) (fun n => ?_) (Ev.now _)
      simp only [slices_Equal_int_int.l0]
      rw [if_pos (by omega), if_pos (by omega), if_pos (by omega), if_pos (by omega), ha, hb, if_neg e, decide_eq_false hne]
theorem eq_ev (a b : List Int) (hl : a.length < 9223372036854775807) : Ev (fun n => slices_Equal_int_int.f n a b) (decide (a = b)) := by
  by_cases h : a.length = b.length
  · refine Ev.congr (f := fun n => slices_Equal_int_int.l0 n a b (a.length : Int) ((0 : Nat) : Int)) (fun n => by unfold slices_Equal_int_int.f; rw [if_pos (by omega)]; rfl) (eq_loop a b h hl a.length 0 (by omega) (by simp))
  · have hne : a ≠ b := fun e => h (by rw [e])
    refine Ev.congr (f := fun _ => some (decide (a = b))) (fun n => by unfold slices_Equal_int_int.f; rw [if_neg (by omega), decide_eq_false hne]) (Ev.now _)
theorem rsame_l0 (p q : List S47) (m m' : List Int) (a b c a' b' c' : Int) (h : p.length = q.length) (hl : p.length ≤ 10) : Ev (fun n => pelicanref14_Same.l0 n ((0 : Nat) : Int) m p a b c m' q a' b' c') (alike p q) := by
  have key := loop_all (n := p.length) (g := fun n k => pelicanref14_Same.l0 n (k : Int) m p a b c m' q a' b' c') (ok := fun k => !(diff (rd_T47 p (k : Int)) (rd_T47 q (k : Int)))) (C := true) (fun _ => ?_) (fun k hk hok r hE => ?_) (fun k hk hok => ?_) p.length 0 (Nat.zero_add _) (fun j hj => absurd hj (Nat.not_lt_zero j))
  · rw [Bool.and_true] at key
    exact key
  · refine Ev.step (f := fun _ => some true) (fun n => ?_) (Ev.now _)
    simp only [pelicanref14_Same.l0]
    rw [if_neg (by omega)]
  · have e1 : ((k : Int) + 1) = ((k + 1 : Nat) : Int) := by omega
    rw [Bool.not_eq_true'] at hok
    refine Ev.step (fun n => ?_) hE
    unfold diff at hok
    simp only [pelicanref14_Same.l0]
    rw [if_pos (by omega), if_pos (by omega), if_pos (by omega), hok, if_neg (by simp), wr (by omega) (by omega), e1]
  · rw [Bool.not_eq_false'] at hok
    refine Ev.step (f := fun _ => some false) (fun n => ?_) (Ev.now _)
    unfold diff at hok
    simp only [pelicanref14_Same.l0]
    rw [if_pos (by omega), if_pos (by omega), if_pos (by omega), hok, if_pos rfl]
theorem same_eq (m : List Int) (p : List S47) (a b c : Int) (m' : List Int) (q : List S47) (a' b' c' : Int) (hm : m.length ≤ 10) (hl : p.length ≤ 10) : ∃ v, Ev (fun n => plan_Same.f n m p a b c m' q a' b' c') v ∧ Ev (fun n => pelicanref14_Same.f n m p a b c m' q a' b' c') v := by
  have hno : Ev (fun n => pelicanref14_Same.j0 n true m p a b c m' q a' b' c') false := Ev.step (f := fun _ => some false) (fun n => by simp only [pelicanref14_Same.j0, if_true]) (Ev.now _)
  by_cases h1 : m = m'
  · by_cases h2 : p.length = q.length
    · have h2' : (p.length : Int) = (q.length : Int) := by omega
      refine ⟨alike p q && (decide (a = a') && (decide (b = b') && (c == c'))), Ev.congr (fun n => rfl) (Ev.bind (eq_ev m m' (by omega)) ?_), Ev.congr (fun n => rfl) (Ev.bind (ints_ev m m' (by omega)) ?_)⟩
      · rw [decide_eq_true h1]
        simp only [if_true]
        refine Ev.bind (api_ev p q hl) ?_
        rw [decide_eq_true h2, Bool.true_and]
        cases alike p q <;> by_cases ha : a = a' <;> by_cases hb : b = b' <;> simp only [ha, hb, if_true, if_false, Bool.false_eq_true, decide_true, decide_false, Bool.true_and, Bool.false_and] <;> exact Ev.now _
      · rw [decide_eq_true h1]
        simp only [if_true, h2']
        by_cases ha : a = a'
        · by_cases hb : b = b'
          · simp only [ha, hb, if_true, decide_true, Bool.true_and]
            cases hc : c == c' with
            | true =>
              rw [Bool.and_true]
              refine Ev.step (fun n => ?_) (rsame_l0 p q m m' a' b' c a' b' c' h2 hl)
              simp only [pelicanref14_Same.j0, bne, hc, Bool.not_true, Bool.false_eq_true, if_false]
              rfl
            | false =>
              rw [Bool.and_false]
              refine Ev.step (f := fun _ => some false) (fun n => ?_) (Ev.now _)
              simp only [pelicanref14_Same.j0, bne, hc, Bool.not_false, if_true]
          · simp only [ha, hb, if_true, if_false, decide_false, Bool.false_and, Bool.and_false]
            exact Ev.step (f := fun _ => some false) (fun n => by simp only [pelicanref14_Same.j0, if_true]) (Ev.now _)
        · simp only [ha, if_false, decide_false, Bool.false_and, Bool.and_false]
          exact hno
    · have h2' : ¬ ((p.length : Int) = (q.length : Int)) := by omega
      refine ⟨false, Ev.congr (fun n => rfl) (Ev.bind (eq_ev m m' (by omega)) ?_), Ev.congr (fun n => rfl) (Ev.bind (ints_ev m m' (by omega)) ?_)⟩
      · rw [decide_eq_true h1]
        simp only [if_true]
        refine Ev.bind (api_ev p q hl) ?_
        rw [decide_eq_false h2, Bool.false_and]
        simp only [Bool.false_eq_true, if_false]
        exact Ev.now _
      · rw [decide_eq_true h1]
        simp only [if_true, h2', if_false]
        exact hno
  · refine ⟨false, Ev.congr (fun n => rfl) (Ev.bind (eq_ev m m' (by omega)) ?_), Ev.congr (fun n => rfl) (Ev.bind (ints_ev m m' (by omega)) ?_)⟩
    · rw [decide_eq_false h1]
      simp only [Bool.false_eq_true, if_false]
      exact Ev.now _
    · rw [decide_eq_false h1]
      simp only [Bool.false_eq_true, if_false]
      exact hno
/-- The document's least green: 0 means none yet. -/
def rleast (g : Nat) (b : Int) (s : S47) : Int := if s.f0.toNat.testBit g = true then (if b = 0 then s.f1 else if s.f1 < b then s.f1 else b) else b
theorem rleast_loop (m : List Int) {ss : List S47} (am red hold : Int) (hs : ∀ s ∈ ss, 0 ≤ s.f0 ∧ s.f0 < 256) (hl : ss.length ≤ 6) {g : Nat} (hg : g < 9) : ∀ d k : Nat, k + d = ss.length → ∀ b : Int,
    Ev (fun n => pelicanref14_Least.l0 n (g : Int) b (k : Int) m ss am red hold) ((ss.drop k).foldl (rleast g) b) := by
  intro d
  induction d with
  | zero =>
    intro k hk b
    rw [List.drop_of_length_le (by omega)]
    refine Ev.step (f := fun _ => some b) (fun n => ?_) (Ev.now _)
    simp only [pelicanref14_Least.l0]
    rw [if_neg (by omega)]
  | succ d ih =>
    intro k hk b
    have hlt : k < ss.length := by omega
    have h1 := hs _ (List.getElem_mem hlt)
    have e1 : ((k : Int) + 1) = ((k + 1 : Nat) : Int) := by omega
    rw [List.drop_eq_getElem_cons hlt, List.foldl_cons]
    refine Ev.step (f := fun n => (pelicanref14_Has.f n m ss am red hold (k : Int) (g : Int)).bind fun t => pelicanref14_Least.l0 n (g : Int) (if t = true then (if b = 0 then ss[k].f1 else if ss[k].f1 < b then ss[k].f1 else b) else b) ((k + 1 : Nat) : Int) m ss am red hold) (fun n => ?_) (Ev.bind (has_ev m ss am red hold hlt ⟨h1.1, by omega⟩ (by omega)) (ih (k + 1) (by omega) _))
    simp only [pelicanref14_Least.l0]
    rw [if_pos (by omega), wr (by omega) (by omega), e1, rd_stage ss hlt]
    congr 1
    funext t
    have hk0 : (0 : Int) ≤ (k : Int) := by omega
    cases t <;> by_cases hb : b = 0 <;> by_cases hc : ss[k].f1 < b <;> simp only [hb, hc, hk0, if_true, if_false, Bool.false_eq_true]
theorem rleast_pos (g : Nat) : ∀ (ss : List S47) (b : Int), (∀ s ∈ ss, 1 ≤ s.f1 ∧ s.f1 ≤ 200) → 1 ≤ b → ss.foldl (rleast g) b = ss.foldl (Pure.PlanLeast.least g) b := by
  intro ss
  induction ss with
  | nil => intro b _ _; rfl
  | cons s ss ih =>
    intro b h hb
    have h1 := h s (by simp)
    have e : rleast g b s = Pure.PlanLeast.least g b s ∧ 1 ≤ rleast g b s := by
      have hz : ¬ b = 0 := by omega
      unfold rleast Pure.PlanLeast.least mn
      cases s.f0.toNat.testBit g <;> simp only [hz, if_true, if_false, Bool.false_eq_true] <;> refine ⟨trivial, ?_⟩ <;> first | exact hb | (split <;> omega)
    rw [List.foldl_cons, List.foldl_cons, ← e.1]
    exact ih _ (fun t ht => h t (by simp [ht])) e.2
theorem rleast_zero (g : Nat) : ∀ ss : List S47, (∀ s ∈ ss, 1 ≤ s.f1 ∧ s.f1 ≤ 200) → some_ ss g → ss.foldl (rleast g) 0 = ss.foldl (Pure.PlanLeast.least g) 200 := by
  intro ss
  induction ss with
  | nil => rintro _ ⟨s, hs, _⟩; cases hs
  | cons s ss ih =>
    rintro h ⟨t, ht, hb⟩
    have h1 := h s (by simp)
    rw [List.foldl_cons, List.foldl_cons]
    cases hs : s.f0.toNat.testBit g with
    | true =>
      have e1 : rleast g 0 s = s.f1 := by unfold rleast; rw [hs]; simp
      have e2 : Pure.PlanLeast.least g 200 s = s.f1 := by unfold Pure.PlanLeast.least mn; rw [hs]; simp only [if_true]; split <;> omega
      rw [e1, e2]
      exact rleast_pos g ss _ (fun t ht => h t (by simp [ht])) h1.1
    | false =>
      have e1 : rleast g 0 s = 0 := by unfold rleast; rw [hs]; simp
      have e2 : Pure.PlanLeast.least g 200 s = 200 := by unfold Pure.PlanLeast.least; rw [hs]; simp
      rw [e1, e2]
      rcases List.mem_cons.1 ht with e | ht
      · rw [e, hs] at hb; cases hb
      · exact ih (fun t ht => h t (by simp [ht])) ⟨t, ht, hb⟩
end Go.Proofs.YtnogkpofgkaefaaDoor.RT
