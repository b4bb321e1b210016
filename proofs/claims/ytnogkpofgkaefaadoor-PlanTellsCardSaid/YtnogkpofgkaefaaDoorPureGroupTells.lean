/- The plain law of GroupTells: what the program says of a matrix, a set and groups is what the document's answers say, by definition. -/
import Derived.Test.YtnogkpofgkaefaaDoorDGroupTells
import Derived.Test.YtnogkpofgkaefaaDoorDR13
import Derived.Test.YtnogkpofgkaefaaDoorPM
namespace Go.Proofs.YtnogkpofgkaefaaDoor.Pure
open Go.RowKit Go.Proofs.YtnogkpofgkaefaaDoorW.PrintWords Go.Proofs.YtnogkpofgkaefaaDoorW.PrintLast Go.Proofs.YtnogkpofgkaefaaDoorW.PrintMore Go.Proofs.YtnogkpofgkaefaaDoor.F Go.Proofs.YtnogkpofgkaefaaDoor.PG Go.Proofs.YtnogkpofgkaefaaDoor.PM
namespace GroupTells
theorem rd_getD (l : List Int) (k : Nat) : rd l (k : Int) = l.getD k 0 := by simp [rd]
theorem pow_facts : ∀ i : Nat, i < 12 → pelicanref13_pow.f 20 (i : Int) = some ((2 ^ i : Nat) : Int) := by decide +kernel
theorem pow_ev {i : Nat} (h : i < 12) : Ev (fun n => pelicanref13_pow.f n (i : Int)) ((2 ^ i : Nat) : Int) := Ev.of (fun k => pelicanref13_pow.mono _ k) (pow_facts i h)
theorem in_ev {x i : Nat} (hx : x < 1048576) (h : i < 12) : Ev (fun n => pelicanref13_In.f n (x : Int) (i : Int)) (x.testBit i) := by
  refine Ev.congr (fun n => by unfold pelicanref13_In.f; rfl) (Ev.bind (pow_ev h) ?_)
  have hp := Nat.two_pow_pos i
  have hq : x / 2 ^ i ≤ x := Nat.div_le_self _ _
  refine Ev.congr (f := fun _ => some (x.testBit i)) (fun n => ?_) (Ev.now _)
  rw [if_neg (by omega), ← Int.ofNat_tdiv]
  have hw : wrap64 ((x / 2 ^ i : Nat) : Int) = ((x / 2 ^ i : Nat) : Int) := by
    generalize x / 2 ^ i = q at hq
    exact wr (by omega) (by omega)
  rw [hw]
  have e : Int.tmod ((x / 2 ^ i : Nat) : Int) 2 = ((x / 2 ^ i % 2 : Nat) : Int) := by
    rw [show (2 : Int) = ((2 : Nat) : Int) from rfl, ← Int.ofNat_tmod]
  rw [e, Nat.testBit_eq_decide_div_mod_eq]
  generalize x / 2 ^ i % 2 = q
  congr 1
  rw [Bool.eq_iff_iff, beq_iff_eq, decide_eq_true_eq]
  omega

/-! ### the document's May -/
def rngOk (m : List Int) (k : Nat) : Bool := decide (0 ≤ m.getD k 0 ∧ m.getD k 0 < ((2 ^ m.length : Nat) : Int))
def pairOk (m : List Int) (i k : Nat) : Bool := decide ((row m i).testBit k = (row m k).testBit i) && !((row m i).testBit k && decide (i = k))
theorem may_l2 (m : List Int) (h8 : m.length ≤ 8) (hr : ∀ j, j < m.length → rngOk m j = true) {i : Nat} (hi : i < m.length) {C : Bool} (hC : (∀ j, j < m.length → pairOk m i j = true) → Ev (fun n => pelicanref13_May.l1 n m (m.length : Int) ((i + 1 : Nat) : Int)) C) :
    Ev (fun n => pelicanref13_May.l2 n m (m.length : Int) (i : Int) ((0 : Nat) : Int)) ((List.range' 0 m.length).all (pairOk m i) && C) := by
  have hp8 := pow_le8 h8
  have hrow : ∀ j, j < m.length → m.getD j 0 = (row m j : Int) ∧ row m j < 256 := by
    intro j hj
    have := of_decide_eq_true (hr j hj)
    unfold row
    omega
  have body : ∀ k, k < m.length → ∀ r, (pairOk m i k = true → Ev (fun n => pelicanref13_May.l2 n m (m.length : Int) (i : Int) ((k + 1 : Nat) : Int)) r) → (pairOk m i k = false → r = false) → Ev (fun n => pelicanref13_May.l2 n m (m.length : Int) (i : Int) (k : Int)) r := by
    intro k hk r h1 h2
    have e1 : ((k : Int) + 1) = ((k + 1 : Nat) : Int) := by omega
    refine Ev.step (f := fun n => (pelicanref13_In.f n (row m i : Int) (k : Int)).bind fun t133 => (pelicanref13_In.f n (row m k : Int) (i : Int)).bind fun t135 => (if (t133 != t135) = true then (some false) else (if t133 = true then (if (i : Int) = (k : Int) then (some false) else (pelicanref13_May.l2 n m (m.length : Int) (i : Int) ((k + 1 : Nat) : Int))) else (pelicanref13_May.l2 n m (m.length : Int) (i : Int) ((k + 1 : Nat) : Int))))) (fun n => ?_) (Ev.bind (in_ev (by have := (hrow i hi).2; omega) (by omega)) (Ev.bind (in_ev (by have := (hrow k hk).2; omega) (by omega)) ?_))
    · simp only [pelicanref13_May.l2]
      rw [if_pos (by omega), if_pos (by omega), if_pos (by omega), rd_getD, rd_getD, (hrow i hi).1, (hrow k hk).1, wr (by omega) (by omega), e1]
      congr 1
      funext t
      rw [if_pos (by omega), if_pos (by omega)]
    · have e : ((i : Int) = (k : Int)) ↔ i = k := by omega
      unfold pairOk at h1 h2
      cases ha : (row m i).testBit k <;> cases hb : (row m k).testBit i <;> rw [ha, hb] at h1 h2
      · simp only [bne_self_eq_false, Bool.false_eq_true, if_false]
        exact h1 (by simp)
      · simp only [Bool.bne_true, Bool.not_false, if_true, h2 (by simp)]; exact Ev.now _
      · simp only [Bool.bne_false, if_true, h2 (by simp)]; exact Ev.now _
      · simp only [bne_self_eq_false, Bool.false_eq_true, if_false, if_true, e]
        by_cases hik : i = k
        · rw [h2 (by simp [hik])]; simp only [hik, if_true]; exact Ev.now _
        · simp only [hik, if_false]; exact h1 (by simp [hik])
  refine loop_all (n := m.length) (g := fun n k => pelicanref13_May.l2 n m (m.length : Int) (i : Int) (k : Int)) (ok := pairOk m i) (fun hall => ?_) (fun k hk hok r hE => body k hk r (fun _ => hE) fun h => by rw [hok] at h; cases h) (fun k hk hok => body k hk false (fun h => by rw [hok] at h; cases h) fun _ => rfl) m.length 0 (Nat.zero_add _) (fun j hj => absurd hj (Nat.not_lt_zero j))
  refine Ev.step (f := fun n => pelicanref13_May.l1 n m (m.length : Int) ((i + 1 : Nat) : Int)) (fun n => ?_) (hC hall)
  simp only [pelicanref13_May.l2]
  rw [if_neg (by omega), wr (by omega) (by omega)]
  rfl
def rowsOk (m : List Int) (i : Nat) : Bool := (List.range' 0 m.length).all (pairOk m i)
theorem may_l1 (m : List Int) (h8 : m.length ≤ 8) (hr : ∀ j, j < m.length → rngOk m j = true) : Ev (fun n => pelicanref13_May.l1 n m (m.length : Int) ((0 : Nat) : Int)) ((List.range' 0 m.length).all (rowsOk m) && true) := by
  refine loop_all (n := m.length) (g := fun n k => pelicanref13_May.l1 n m (m.length : Int) (k : Int)) (ok := rowsOk m) (fun _ => ?_) (fun k hk hok r hE => ?_) (fun k hk hok => ?_) m.length 0 (Nat.zero_add _) (fun j hj => absurd hj (Nat.not_lt_zero j))
  · refine Ev.step (f := fun _ => some true) (fun n => ?_) (Ev.now _)
    simp only [pelicanref13_May.l1]
    rw [if_neg (by omega)]
  · have := may_l2 m h8 hr hk (C := r) (fun _ => hE)
    unfold rowsOk at hok
    rw [hok, Bool.true_and] at this
    refine Ev.step (fun n => ?_) this
    simp only [pelicanref13_May.l1]
    rw [if_pos (by omega)]
    rfl
  · have := may_l2 m h8 hr hk (C := true) (fun h => by unfold rowsOk at hok; rw [all_range.2 h] at hok; cases hok)
    unfold rowsOk at hok
    rw [hok, Bool.false_and] at this
    refine Ev.step (fun n => ?_) this
    simp only [pelicanref13_May.l1]
    rw [if_pos (by omega)]
    rfl
theorem may_ev (m : List Int) : Ev (fun n => pelicanref13_May.f n m) (Sp.may m) := by
  by_cases hl : 1 ≤ m.length ∧ m.length ≤ 8
  · obtain ⟨h1, h8⟩ := hl
    have hp8 := pow_le8 h8
    have key : Ev (fun n => pelicanref13_May.l0 n m (m.length : Int) ((0 : Nat) : Int)) ((List.range' 0 m.length).all (rngOk m) && ((List.range' 0 m.length).all (rowsOk m) && true)) := by
      refine loop_all (n := m.length) (g := fun n k => pelicanref13_May.l0 n m (m.length : Int) (k : Int)) (ok := rngOk m) (fun hall => ?_) (fun k hk hok r hE => ?_) (fun k hk hok => ?_) m.length 0 (Nat.zero_add _) (fun j hj => absurd hj (Nat.not_lt_zero j))
      · refine Ev.step (fun n => ?_) (may_l1 m h8 hall)
        simp only [pelicanref13_May.l0]
        rw [if_neg (by omega)]
        rfl
      · have hd := of_decide_eq_true hok
        refine Ev.step (f := fun n => (pelicanref13_pow.f n (m.length : Int)).bind fun t131 => (if m.getD k 0 ≥ t131 then (some false) else (pelicanref13_May.l0 n m (m.length : Int) ((k + 1 : Nat) : Int)))) (fun n => ?_) (Ev.bind (pow_ev (by omega)) ?_)
        · simp only [pelicanref13_May.l0]
          rw [if_pos (by omega), if_pos (by omega), if_pos (by omega), rd_getD, if_neg (by omega), wr (by omega) (by omega)]
          rfl
        · have : ¬ (m.getD k 0 ≥ ((2 ^ m.length : Nat) : Int)) := by omega
          simp only [this, if_false]
          exact hE
      · have hd := of_decide_eq_false hok
        by_cases h0 : m.getD k 0 < 0
        · refine Ev.step (f := fun _ => some false) (fun n => ?_) (Ev.now _)
          simp only [pelicanref13_May.l0]
          rw [if_pos (by omega), if_pos (by omega), if_pos (by omega), rd_getD, if_pos h0]
        · refine Ev.step (f := fun n => (pelicanref13_pow.f n (m.length : Int)).bind fun t131 => (if m.getD k 0 ≥ t131 then (some false) else (pelicanref13_May.l0 n m (m.length : Int) ((k + 1 : Nat) : Int)))) (fun n => ?_) (Ev.bind (pow_ev (by omega)) ?_)
          · simp only [pelicanref13_May.l0]
            rw [if_pos (by omega), if_pos (by omega), if_pos (by omega), rd_getD, if_neg h0, wr (by omega) (by omega)]
            rfl
          · have : m.getD k 0 ≥ ((2 ^ m.length : Nat) : Int) := by omega
            simp only [this, if_true]
            exact Ev.now _
    have heq : Sp.may m = ((List.range' 0 m.length).all (rngOk m) && ((List.range' 0 m.length).all (rowsOk m) && true)) := by
      rw [Bool.and_true, Bool.eq_iff_iff, may_iff, Bool.and_eq_true, all_range, all_range]
      constructor
      · intro h
        refine ⟨fun j hj => decide_eq_true (h.rng j hj), fun i hi => ?_⟩
        unfold rowsOk
        rw [all_range]
        intro k hk
        unfold pairOk
        rw [decide_eq_true (h.sym i k hi hk), Bool.true_and]
        by_cases hik : i = k
        · subst hik; rw [h.irr i hi]; rfl
        · simp [hik]
      · rintro ⟨h2, h3⟩
        have hp : ∀ i k, i < m.length → k < m.length → (row m i).testBit k = (row m k).testBit i ∧ ((row m i).testBit k = true → i ≠ k) := by
          intro i k hi hk
          have := all_range.1 (h3 i hi) k hk
          unfold pairOk at this
          rw [Bool.and_eq_true, decide_eq_true_eq] at this
          refine ⟨this.1, fun ht hik => ?_⟩
          have := this.2
          rw [ht, decide_eq_true hik] at this
          cases this
        refine ⟨h1, h8, fun i hi => of_decide_eq_true (h2 i hi), fun i k hi hk => (hp i k hi hk).1, fun i hi => ?_⟩
        cases hb : (row m i).testBit i with
        | false => rfl
        | true => exact absurd rfl ((hp i i hi hi).2 hb)
    rw [heq]
    refine Ev.congr (f := fun n => pelicanref13_May.j0 n m (m.length : Int) false) (fun n => ?_) (Ev.step (fun n => ?_) key)
    · unfold pelicanref13_May.f
      rw [if_neg (by omega), decide_eq_false (by omega)]
    · simp only [pelicanref13_May.j0, Bool.false_eq_true, if_false]
      rfl
  · rw [may_false fun h => hl ⟨h.len1, h.len8⟩]
    refine Ev.congr (f := fun n => pelicanref13_May.j0 n m (m.length : Int) true) (fun n => ?_) (Ev.step (f := fun _ => some false) (fun n => ?_) (Ev.now _))
    · unfold pelicanref13_May.f
      by_cases h1 : (m.length : Int) < 1
      · rw [if_pos h1]
      · rw [if_neg h1, decide_eq_true (by omega)]
    · simp only [pelicanref13_May.j0, if_true]

/-! ### the document's Free -/
def cellOk (m : List Int) (s i k : Nat) : Bool := !(s.testBit i && s.testBit k && (row m i).testBit k)
theorem free_l1 {m : List Int} (h : MayOk m) {s : Nat} (hs : s < 2 ^ m.length) {i : Nat} (hi : i < m.length) {C : Bool} (hC : (∀ j, j < m.length → cellOk m s i j = true) → Ev (fun n => pelicanref13_Free.l0 n m (s : Int) ((i + 1 : Nat) : Int)) C) :
    Ev (fun n => pelicanref13_Free.l1 n m (s : Int) (i : Int) ((0 : Nat) : Int)) ((List.range' 0 m.length).all (cellOk m s i) && C) := by
  have hp8 := h.p8
  have h8 := h.len8
  have body : ∀ k, k < m.length → ∀ r, (cellOk m s i k = true → Ev (fun n => pelicanref13_Free.l1 n m (s : Int) (i : Int) ((k + 1 : Nat) : Int)) r) → (cellOk m s i k = false → r = false) → Ev (fun n => pelicanref13_Free.l1 n m (s : Int) (i : Int) (k : Int)) r := by
    intro k hk r h1 h2
    have e1 : ((k : Int) + 1) = ((k + 1 : Nat) : Int) := by omega
    have hr := h.row_lt hi
    refine Ev.step (f := fun n => (pelicanref13_In.f n (s : Int) (i : Int)).bind fun t138 => ((pelicanref13_In.f n (s : Int) (k : Int)).bind fun t139 => ((pelicanref13_In.f n (row m i : Int) (k : Int)).bind fun t141 => (if t138 = true then (if t139 = true then (if t141 = true then (some false) else (pelicanref13_Free.l1 n m (s : Int) (i : Int) ((k + 1 : Nat) : Int))) else (pelicanref13_Free.l1 n m (s : Int) (i : Int) ((k + 1 : Nat) : Int))) else (pelicanref13_Free.l1 n m (s : Int) (i : Int) ((k + 1 : Nat) : Int)))))) (fun n => ?_) (Ev.bind (in_ev (by omega) (by omega)) (Ev.bind (in_ev (by omega) (by omega)) (Ev.bind (in_ev (by omega) (by omega)) ?_)))
    · simp only [pelicanref13_Free.l1]
      rw [if_pos (by omega), rd_getD, h.row_eq hi, wr (by omega) (by omega), e1]
      congr 1
      funext t
      congr 1
      funext t'
      rw [if_pos (by omega), if_pos (by omega)]
    · unfold cellOk at h1 h2
      cases ha : s.testBit i <;> cases hb : s.testBit k <;> cases hc : (row m i).testBit k <;> rw [ha, hb, hc] at h1 h2 <;> simp only [Bool.false_eq_true, if_false, if_true]
      all_goals first
        | exact h1 rfl
        | (rw [h2 rfl]; exact Ev.now _)
  refine loop_all (n := m.length) (g := fun n k => pelicanref13_Free.l1 n m (s : Int) (i : Int) (k : Int)) (ok := cellOk m s i) (fun hall => ?_) (fun k hk hok r hE => body k hk r (fun _ => hE) fun h => by rw [hok] at h; cases h) (fun k hk hok => body k hk false (fun h => by rw [hok] at h; cases h) fun _ => rfl) m.length 0 (Nat.zero_add _) (fun j hj => absurd hj (Nat.not_lt_zero j))
  refine Ev.step (f := fun n => pelicanref13_Free.l0 n m (s : Int) ((i + 1 : Nat) : Int)) (fun n => ?_) (hC hall)
  simp only [pelicanref13_Free.l1]
  rw [if_neg (by omega), wr (by omega) (by omega)]
  rfl
def cellsOk (m : List Int) (s i : Nat) : Bool := (List.range' 0 m.length).all (cellOk m s i)
theorem free_l0 {m : List Int} (h : MayOk m) {s : Nat} (hs : s < 2 ^ m.length) : Ev (fun n => pelicanref13_Free.l0 n m (s : Int) ((0 : Nat) : Int)) ((List.range' 0 m.length).all (cellsOk m s) && true) := by
  have h8 := h.len8
  refine loop_all (n := m.length) (g := fun n k => pelicanref13_Free.l0 n m (s : Int) (k : Int)) (ok := cellsOk m s) (fun _ => ?_) (fun k hk hok r hE => ?_) (fun k hk hok => ?_) m.length 0 (Nat.zero_add _) (fun j hj => absurd hj (Nat.not_lt_zero j))
  · refine Ev.step (f := fun _ => some true) (fun n => ?_) (Ev.now _)
    simp only [pelicanref13_Free.l0]
    rw [if_neg (by omega)]
  · have := free_l1 h hs hk (C := r) (fun _ => hE)
    unfold cellsOk at hok
    rw [hok, Bool.true_and] at this
    refine Ev.step (fun n => ?_) this
    simp only [pelicanref13_Free.l0]
    rw [if_pos (by omega)]
    rfl
  · have := free_l1 h hs hk (C := true) (fun hh => by unfold cellsOk at hok; rw [all_range.2 hh] at hok; cases hok)
    unfold cellsOk at hok
    rw [hok, Bool.false_and] at this
    refine Ev.step (fun n => ?_) this
    simp only [pelicanref13_Free.l0]
    rw [if_pos (by omega)]
    rfl
theorem free_ev (m : List Int) (s : Int) : Ev (fun n => pelicanref13_Free.f n m s) (freeB m s) := by
  refine Ev.congr (fun n => rfl) (Ev.bind (may_ev m) ?_)
  by_cases h : MayOk m
  · have h8 := h.len8
    simp only [(may_iff m).2 h, if_true]
    by_cases h0 : s < 0
    · simp only [h0, if_true]
      rw [free_none (by omega)]
      exact Ev.step (f := fun _ => some false) (fun n => by simp only [pelicanref13_Free.j0, if_true]) (Ev.now _)
    · simp only [h0, if_false]
      refine Ev.bind (pow_ev (by omega)) ?_
      by_cases h1 : s ≥ ((2 ^ m.length : Nat) : Int)
      · simp only [h1, decide_true]
        rw [free_none (by omega)]
        exact Ev.step (f := fun _ => some false) (fun n => by simp only [pelicanref13_Free.j0, if_true]) (Ev.now _)
      · simp only [h1, decide_false]
        obtain ⟨x, rfl⟩ := Int.eq_ofNat_of_zero_le (show 0 ≤ s by omega)
        have hx : x < 2 ^ m.length := by omega
        have heq : freeB m (x : Int) = ((List.range' 0 m.length).all (cellsOk m x) && true) := by
          rw [Bool.and_true, Bool.eq_iff_iff, free_iff h hx, all_range]
          constructor
          · intro hf i hi
            unfold cellsOk
            rw [all_range]
            intro k hk
            unfold cellOk
            cases ha : x.testBit i with
            | false => rfl
            | true =>
              cases hb : x.testBit k with
              | false => rfl
              | true => rw [hf i k hi hk ha hb]; rfl
          · intro hh i k hi hk ha hb
            have := all_range.1 (hh i hi) k hk
            unfold cellOk at this
            rw [ha, hb] at this
            cases hc : (row m i).testBit k with
            | false => rfl
            | true => rw [hc] at this; cases this
        rw [heq]
        refine Ev.step (fun n => ?_) (free_l0 h hx)
        simp only [pelicanref13_Free.j0, Bool.false_eq_true, if_false]
        rfl
  · simp only [may_false h, Bool.false_eq_true, if_false]
    rw [free_none fun hh => h hh.1]
    exact Ev.step (f := fun _ => some false) (fun n => by simp only [pelicanref13_Free.j0, if_true]) (Ev.now _)

/-! ### the document's Against -/
def hitTo (m : List Int) (s k n : Nat) : Bool := (List.range n).any fun i => s.testBit i && (row m i).testBit k
theorem hitTo_succ (m : List Int) (s k n : Nat) : hitTo m s k (n + 1) = (hitTo m s k n || (s.testBit n && (row m n).testBit k)) := by
  unfold hitTo
  rw [List.range_succ, List.any_append]
  simp
theorem hitTo_iff (m : List Int) (s k : Nat) : hitTo m s k m.length = true ↔ hit m s k := by
  unfold hitTo hit
  simp only [List.any_eq_true, List.mem_range, Bool.and_eq_true]
theorem against_l1 {m : List Int} (h : MayOk m) {s : Nat} (hs : s < 2 ^ m.length) {o : Int} {k : Nat} (hk : k < m.length) {r : Int} (hE : Ev (fun n => if hitTo m s k m.length = true then ((pelicanref13_pow.f n (k : Int)).bind fun t162 => (pelicanref13_Against.l0 n m (s : Int) (wrap64 (o + t162)) (wrap64 ((k : Int) + 1)))) else (pelicanref13_Against.l0 n m (s : Int) o (wrap64 ((k : Int) + 1)))) r) :
    ∀ d i : Nat, i + d = m.length → Ev (fun n => pelicanref13_Against.l1 n m (s : Int) o (k : Int) (hitTo m s k i) (i : Int)) r := by
  have hp8 := h.p8
  have h8 := h.len8
  intro d
  induction d with
  | zero =>
    intro i hi
    obtain rfl : i = m.length := by omega
    refine Ev.step (fun n => ?_) hE
    simp only [pelicanref13_Against.l1]
    rw [if_neg (by omega)]
  | succ d ih =>
    intro i hi
    have hlt : i < m.length := by omega
    have hr := h.row_lt hlt
    have hnext := ih (i + 1) (by omega)
    rw [hitTo_succ] at hnext
    have e1 : ((i : Int) + 1) = ((i + 1 : Nat) : Int) := by omega
    refine Ev.step (f := fun n => (pelicanref13_In.f n (s : Int) (i : Int)).bind fun t159 => ((pelicanref13_In.f n (row m i : Int) (k : Int)).bind fun t161 => (if hitTo m s k i = true then (pelicanref13_Against.l1 n m (s : Int) o (k : Int) true ((i + 1 : Nat) : Int)) else (if t159 = true then (pelicanref13_Against.l1 n m (s : Int) o (k : Int) t161 ((i + 1 : Nat) : Int)) else (pelicanref13_Against.l1 n m (s : Int) o (k : Int) false ((i + 1 : Nat) : Int)))))) (fun n => ?_) (Ev.bind (in_ev (by omega) (by omega)) (Ev.bind (in_ev (by omega) (by omega)) ?_))
    · simp only [pelicanref13_Against.l1]
      rw [if_pos (by omega), rd_getD, h.row_eq hlt, wr (by omega) (by omega), e1]
      congr 1
    · cases ha : hitTo m s k i <;> cases hb : s.testBit i <;> rw [ha, hb] at hnext <;> simp only [Bool.false_eq_true, if_false, if_true]
      all_goals first
        | exact hnext
        | simpa using hnext
theorem against_l0 {m : List Int} (h : MayOk m) {s a : Nat} (hs : s < 2 ^ m.length) (hA : AgOk m s a) : ∀ d k : Nat, k + d = m.length → ∀ o : Nat, o < 2 ^ k → (∀ j, o.testBit j = true ↔ (j < k ∧ hit m s j)) →
    Ev (fun n => pelicanref13_Against.l0 n m (s : Int) (o : Int) (k : Int)) (a : Int) := by
  have hp8 := h.p8
  have h8 := h.len8
  intro d
  induction d with
  | zero =>
    intro k hk o ho hb
    obtain rfl : k = m.length := by omega
    have : o = a := AgOk.eq (s := s) ⟨ho, fun j => by
      rw [hb j]
      exact ⟨fun hh => hh.2, fun ⟨i, hi, h1, h2⟩ => ⟨lt_of_testBit (h.row_lt hi) h2, i, hi, h1, h2⟩⟩⟩ hA
    subst this
    refine Ev.step (f := fun _ => some (o : Int)) (fun n => ?_) (Ev.now _)
    simp only [pelicanref13_Against.l0]
    rw [if_neg (by omega)]
  | succ d ih =>
    intro k hk o ho hb
    have hlt : k < m.length := by omega
    have hpk : 2 ^ k < 2 ^ m.length := Nat.pow_lt_pow_right (by decide) hlt
    have e1 : ((k : Int) + 1) = ((k + 1 : Nat) : Int) := by omega
    have hps : 2 ^ (k + 1) = 2 * 2 ^ k := by rw [Nat.pow_succ, Nat.mul_comm]
    refine Ev.step (fun n => ?_) (against_l1 h hs (o := (o : Int)) hlt (r := (a : Int)) ?_ m.length 0 (Nat.zero_add _))
    · simp only [pelicanref13_Against.l0]
      rw [if_pos (by omega)]
      rfl
    · cases hh : hitTo m s k m.length with
      | true =>
        simp only [if_true]
        refine Ev.bind (pow_ev (by omega)) ?_
        have eo : (o : Int) + ((2 ^ k : Nat) : Int) = ((2 ^ k + o : Nat) : Int) := by omega
        have horr := Nat.two_pow_add_eq_or_of_lt ho 1
        rw [Nat.mul_one] at horr
        have := ih (k + 1) (by omega) (2 ^ k + o) (by omega) (fun j => by
          rw [horr, Nat.or_comm, set_bit, hb j]
          constructor
          · rintro (⟨h1, h2⟩ | rfl)
            · exact ⟨by omega, h2⟩
            · exact ⟨by omega, (hitTo_iff m s j).1 hh⟩
          · rintro ⟨h1, h2⟩
            rcases Nat.lt_or_ge j k with h3 | h3
            · exact .inl ⟨h3, h2⟩
            · exact .inr (by omega))
        refine Ev.congr (fun n => ?_) this
        rw [eo, wr (x := (k : Int) + 1) (by omega) (by omega), wr (by omega) (by omega), e1]
      | false =>
        simp only [Bool.false_eq_true, if_false]
        have := ih (k + 1) (by omega) o (by omega) (fun j => by
          rw [hb j]
          constructor
          · rintro ⟨h1, h2⟩
            exact ⟨by omega, h2⟩
          · rintro ⟨h1, h2⟩
            rcases Nat.lt_or_ge j k with h3 | h3
            · exact ⟨h3, h2⟩
            · obtain rfl : j = k := by omega
              rw [(hitTo_iff m s j).2 h2] at hh
              cases hh)
        refine Ev.congr (fun n => ?_) this
        rw [wr (by omega) (by omega), e1]
theorem against_ev (m : List Int) (s : Int) : Ev (fun n => pelicanref13_Against.f n m s) (Sp.against m s) := by
  refine Ev.congr (fun n => rfl) (Ev.bind (may_ev m) ?_)
  by_cases h : MayOk m
  · have h8 := h.len8
    simp only [(may_iff m).2 h, if_true]
    by_cases h0 : s < 0
    · simp only [h0, if_true]
      rw [against_none (by omega)]
      exact Ev.step (f := fun _ => some (-1)) (fun n => by simp only [pelicanref13_Against.j0, if_true]) (Ev.now _)
    · simp only [h0, if_false]
      refine Ev.bind (pow_ev (by omega)) ?_
      by_cases h1 : s ≥ ((2 ^ m.length : Nat) : Int)
      · simp only [h1, decide_true]
        rw [against_none (by omega)]
        exact Ev.step (f := fun _ => some (-1)) (fun n => by simp only [pelicanref13_Against.j0, if_true]) (Ev.now _)
      · simp only [h1, decide_false]
        obtain ⟨x, rfl⟩ := Int.eq_ofNat_of_zero_le (show 0 ≤ s by omega)
        have hx : x < 2 ^ m.length := by omega
        obtain ⟨a, ea, hA⟩ := against_nat h hx
        rw [ea]
        refine Ev.step (fun n => ?_) (against_l0 h hx hA m.length 0 (Nat.zero_add _) 0 (Nat.two_pow_pos _) (fun j => by simp))
        simp only [pelicanref13_Against.j0, Bool.false_eq_true, if_false]
        rfl
  · simp only [may_false h, Bool.false_eq_true, if_false]
    rw [against_none fun hh => h hh.1]
    exact Ev.step (f := fun _ => some (-1)) (fun n => by simp only [pelicanref13_Against.j0, if_true]) (Ev.now _)

/-! ### the document's Sets -/
def mostTo (m : List Int) (s n : Nat) : Bool := freeB m (s : Int) && (List.range n).all fun i => s.testBit i || !freeB m ((s : Int) + ((2 ^ i : Nat) : Int))
theorem mostTo_succ (m : List Int) (s n : Nat) : mostTo m s (n + 1) = (mostTo m s n && (s.testBit n || !freeB m ((s : Int) + ((2 ^ n : Nat) : Int)))) := by
  unfold mostTo
  rw [List.range_succ, List.all_append]
  simp [Bool.and_assoc]
theorem add_or_facts : ∀ s : Nat, s < 256 → ∀ k : Nat, k < 8 → s.testBit k = false → s + 2 ^ k = s ||| 2 ^ k := by decide +kernel
theorem add_or {s k : Nat} (hs : s < 256) (h8 : k < 8) (hk : s.testBit k = false) : s + 2 ^ k = s ||| 2 ^ k := add_or_facts s hs k h8 hk
theorem most_good {m : List Int} (h : MayOk m) {s : Nat} (hs : s < 2 ^ m.length) : mostTo m s m.length = good m s := by
  rw [Bool.eq_iff_iff, good_iff h hs]
  unfold mostTo Great
  rw [Bool.and_eq_true, free_iff h hs, List.all_eq_true]
  refine and_congr_right fun hf => ?_
  have key : ∀ k, k < m.length → s.testBit k = false → (freeB m ((s : Int) + ((2 ^ k : Nat) : Int)) = true ↔ ¬ hit m s k) := by
    intro k hk hb
    have hp8 := h.p8
    have h8 := h.len8
    have e : (s : Int) + ((2 ^ k : Nat) : Int) = ((s ||| 2 ^ k : Nat) : Int) := by rw [← add_or (by omega) (by omega) hb]; omega
    rw [e, free_iff h (set_lt hs hk), free_more h hf hk hs]
  constructor
  · intro hh k hk hb
    have := hh k (List.mem_range.2 hk)
    rw [hb, Bool.false_or, Bool.not_eq_true'] at this
    refine Classical.byContradiction fun hn => ?_
    rw [(key k hk hb).2 hn] at this
    cases this
  · intro hh k hk
    have hk := List.mem_range.1 hk
    cases hb : s.testBit k with
    | true => rfl
    | false =>
      rw [Bool.false_or, Bool.not_eq_true']
      cases hc : freeB m ((s : Int) + ((2 ^ k : Nat) : Int)) with
      | false => rfl
      | true => exact absurd (hh k hk hb) ((key k hk hb).1 hc)
theorem sets_l1 {m : List Int} (h : MayOk m) {s : Nat} (hs : s < 2 ^ m.length) {L r : List Int} (hL : L.length < 17592186044416) (hE : Ev (fun n => pelicanref13_Sets.l0 n m true (if good m s = true then L ++ [(s : Int)] else L) ((s + 1 : Nat) : Int)) r) :
    ∀ d i : Nat, i + d = m.length → Ev (fun n => pelicanref13_Sets.l1 n m true L (s : Int) (mostTo m s i) (i : Int)) r := by
  have hp8 := h.p8
  have h8 := h.len8
  intro d
  induction d with
  | zero =>
    intro i hi
    obtain rfl : i = m.length := by omega
    refine Ev.step (fun n => ?_) hE
    have e1 : ((s : Int) + 1) = ((s + 1 : Nat) : Int) := by omega
    simp only [pelicanref13_Sets.l1]
    rw [if_neg (by omega), most_good h hs, if_pos hL, wr (by omega) (by omega), e1]
    cases good m s <;> rfl
  | succ d ih =>
    intro i hi
    have hlt : i < m.length := by omega
    have hnext := ih (i + 1) (by omega)
    rw [mostTo_succ] at hnext
    have hpi : 2 ^ i < 2 ^ m.length := Nat.pow_lt_pow_right (by decide) hlt
    have e1 : ((i : Int) + 1) = ((i + 1 : Nat) : Int) := by omega
    refine Ev.step (f := fun n => (pelicanref13_In.f n (s : Int) (i : Int)).bind fun t150 => ((pelicanref13_pow.f n (i : Int)).bind fun t151 => ((pelicanref13_Free.f n m (wrap64 ((s : Int) + t151))).bind fun t152 => (if t150 = true then (pelicanref13_Sets.l1 n m true L (s : Int) (mostTo m s i) ((i + 1 : Nat) : Int)) else (if t152 = true then (pelicanref13_Sets.l1 n m true L (s : Int) false ((i + 1 : Nat) : Int)) else (pelicanref13_Sets.l1 n m true L (s : Int) (mostTo m s i) ((i + 1 : Nat) : Int))))))) (fun n => ?_) (Ev.bind (in_ev (by omega) (by omega)) (Ev.bind (pow_ev (by omega)) ?_))
    · simp only [pelicanref13_Sets.l1]
      rw [if_pos (by omega), wr (x := (i : Int) + 1) (by omega) (by omega), e1]
    · refine Ev.congr (fun n => ?_) (Ev.bind (free_ev m ((s : Int) + ((2 ^ i : Nat) : Int))) (f := fun n t152 => (if s.testBit i = true then (pelicanref13_Sets.l1 n m true L (s : Int) (mostTo m s i) ((i + 1 : Nat) : Int)) else (if t152 = true then (pelicanref13_Sets.l1 n m true L (s : Int) false ((i + 1 : Nat) : Int)) else (pelicanref13_Sets.l1 n m true L (s : Int) (mostTo m s i) ((i + 1 : Nat) : Int))))) ?_)
      · have hpos := Nat.two_pow_pos i
        rw [wr (by omega) (by omega)]
      · cases hb : s.testBit i <;> cases hc : freeB m ((s : Int) + ((2 ^ i : Nat) : Int)) <;> rw [hb, hc] at hnext <;> simp only [Bool.false_eq_true, if_false, if_true]
        all_goals first
          | exact hnext
          | simpa using hnext
theorem rsets_loop {m : List Int} (h : MayOk m) : ∀ d k : Nat, k + d = 2 ^ m.length → Ev (fun n => pelicanref13_Sets.l0 n m true (setsL m k) (k : Int)) (setsL m (2 ^ m.length)) := by
  have hp8 := h.p8
  have h8 := h.len8
  intro d
  induction d with
  | zero =>
    intro k hk
    obtain rfl : k = 2 ^ m.length := by omega
    refine Ev.step (f := fun n => (pelicanref13_pow.f n (m.length : Int)).bind fun t145 => (pelicanref13_Sets.j1 n m true (setsL m (2 ^ m.length)) ((2 ^ m.length : Nat) : Int) (decide (((2 ^ m.length : Nat) : Int) < t145)))) (fun n => by simp only [pelicanref13_Sets.l0, if_true]) (Ev.bind (pow_ev (by omega)) ?_)
    rw [decide_eq_false (by omega)]
    exact Ev.step (f := fun _ => some _) (fun n => by simp only [pelicanref13_Sets.j1, Bool.false_eq_true, if_false]) (Ev.now _)
  | succ d ih =>
    intro k hk
    have hl := setsL_len m k
    have hlt : k < 2 ^ m.length := by omega
    refine Ev.step (f := fun n => (pelicanref13_pow.f n (m.length : Int)).bind fun t145 => (pelicanref13_Sets.j1 n m true (setsL m k) (k : Int) (decide ((k : Int) < t145)))) (fun n => by simp only [pelicanref13_Sets.l0, if_true]) (Ev.bind (pow_ev (by omega)) ?_)
    rw [decide_eq_true (by omega)]
    have hnext := ih (k + 1) (by omega)
    rw [setsL_succ] at hnext
    have h1 := sets_l1 h hlt (L := setsL m k) (by omega) hnext m.length 0 (Nat.zero_add _)
    have e0 : mostTo m k 0 = freeB m (k : Int) := by simp [mostTo]
    rw [e0] at h1
    refine Ev.step (f := fun n => (pelicanref13_Free.f n m (k : Int)).bind fun t146 => (pelicanref13_Sets.l1 n m true (setsL m k) (k : Int) t146 0)) (fun n => by simp only [pelicanref13_Sets.j1, if_true]) (Ev.bind (free_ev m (k : Int)) h1)
theorem rsets_ev (m : List Int) : Ev (fun n => pelicanref13_Sets.f n m) (if Sp.may m = true then setsL m (2 ^ m.length) else []) := by
  refine Ev.congr (fun n => rfl) (Ev.bind (may_ev m) ?_)
  by_cases h : MayOk m
  · simp only [(may_iff m).2 h, if_true]
    exact rsets_loop h (2 ^ m.length) 0 (Nat.zero_add _)
  · simp only [may_false h, Bool.false_eq_true, if_false]
    refine Ev.step (f := fun n => pelicanref13_Sets.j1 n m false [] 0 false) (fun n => by simp only [pelicanref13_Sets.l0, Bool.false_eq_true, if_false]) ?_
    exact Ev.step (f := fun _ => some _) (fun n => by simp only [pelicanref13_Sets.j1, Bool.false_eq_true, if_false]) (Ev.now _)

/-! ### the document's List and Of -/
theorem list_facts : ∀ x : Nat, x < 256 → pelicanref13_List.f 40 (x : Int) = some (Sp.bitsOf x) := by decide +kernel
theorem list_ev (s : Int) : Ev (fun n => pelicanref13_List.f n s) (Sp.groupsOf s) := by
  by_cases h : 0 ≤ s ∧ s < 256
  · obtain ⟨h0, h1⟩ := h
    obtain ⟨x, rfl⟩ := Int.eq_ofNat_of_zero_le h0
    rw [groupsOf_nat (by omega)]
    exact Ev.of (fun k => pelicanref13_List.mono _ k) (list_facts x (by omega))
  · rw [Sp.groupsOf, if_neg h]
    refine Ev.step (f := fun n => pelicanref13_List.j1 n s [] 0 false) (fun n => ?_) (Ev.step (f := fun _ => some []) (fun n => by simp only [pelicanref13_List.j1, Bool.false_eq_true, if_false]) (Ev.now _))
    simp only [pelicanref13_List.f, pelicanref13_List.l0]
    rw [if_pos (by decide)]
    by_cases h0 : s ≥ 0
    · rw [if_pos h0, decide_eq_false (by omega)]
    · rw [if_neg h0]
theorem rof_loop (l : List Int) (hl : l.length ≤ 100) : ∀ (d k : Nat), k + d = l.length → ∀ x : Nat, OfAt (l.take k) x → ∃ r, Ev (fun n => pelicanref13_Of.l0 n l (x : Int) (k : Int)) r ∧ OfTells l r := by
  intro d
  induction d with
  | zero =>
    intro k hk x h
    refine ⟨x, Ev.step (f := fun _ => some (x : Int)) (fun n => by simp only [pelicanref13_Of.l0]; rw [if_neg (by omega)]) (Ev.now _), .inr ⟨x, rfl, ?_⟩⟩
    rwa [List.take_of_length_le (by omega)] at h
  | succ d ih =>
    intro k hk x h
    have hlt : k < l.length := by omega
    have hrd : rd l (k : Int) = l[k] := by simp [rd, hlt]
    have htk : l.take (k + 1) = l.take k ++ [l[k]] := List.take_succ_eq_append_getElem hlt
    have hmem : l[k] ∈ l := List.getElem_mem hlt
    have hne : l ≠ [] := fun e => by rw [e] at hlt; simp at hlt
    have hbad : Ev (fun n => pelicanref13_Of.j1 n l (x : Int) (k : Int) true) (-1) := Ev.step (f := fun _ => some (-1)) (fun n => by simp only [pelicanref13_Of.j1, if_true]) (Ev.now _)
    by_cases h0 : l[k] < 0
    · refine ⟨-1, Ev.step (fun n => by simp only [pelicanref13_Of.l0]; rw [if_pos (by omega), if_pos (by omega), hrd, if_pos h0]) hbad, .inl ⟨rfl, hne, fun hh => ?_⟩⟩
      have := (hh.1 _ hmem).1; omega
    by_cases h8 : l[k] > 7
    · refine ⟨-1, Ev.step (fun n => by simp only [pelicanref13_Of.l0]; rw [if_pos (by omega), if_pos (by omega), hrd, if_neg h0, decide_eq_true h8]) hbad, .inl ⟨rfl, hne, fun hh => ?_⟩⟩
      have := (hh.1 _ hmem).2; omega
    obtain ⟨i, hi⟩ : ∃ i : Nat, l[k] = (i : Int) := ⟨l[k].toNat, by omega⟩
    have hi8 : i < 8 := by omega
    have hx := h.lt
    have hgo : ∀ r, Ev (fun n => if x.testBit i = true then some (-1) else ((pelicanref13_pow.f n (i : Int)).bind fun t168 => (pelicanref13_Of.l0 n l (wrap64 ((x : Int) + t168)) ((k + 1 : Nat) : Int)))) r → Ev (fun n => pelicanref13_Of.l0 n l (x : Int) (k : Int)) r := by
      intro r hr
      have e1 : ((k : Int) + 1) = ((k + 1 : Nat) : Int) := by omega
      refine Ev.step (f := fun n => pelicanref13_Of.j1 n l (x : Int) (k : Int) false) (fun n => by simp only [pelicanref13_Of.l0]; rw [if_pos (by omega), if_pos (by omega), hrd, if_neg h0, decide_eq_false h8]) ?_
      refine Ev.step (f := fun n => (pelicanref13_In.f n (x : Int) (i : Int)).bind fun t166 => if t166 = true then some (-1) else ((pelicanref13_pow.f n (i : Int)).bind fun t168 => (pelicanref13_Of.l0 n l (wrap64 ((x : Int) + t168)) ((k + 1 : Nat) : Int)))) (fun n => ?_) (Ev.bind (in_ev (by omega) (by omega)) hr)
      simp only [pelicanref13_Of.j1]
      rw [if_neg (by simp), if_pos (by omega), if_pos (by omega), hrd, hi, wr (x := (k : Int) + 1) (by omega) (by omega), e1]
    cases ht : x.testBit i with
    | true =>
      rw [ht] at hgo
      refine ⟨-1, hgo _ (by simp only [if_true]; exact Ev.now _), .inl ⟨rfl, hne, fun hh => ?_⟩⟩
      have hp := (h.mem i hi8).1 ht
      have hd := hh.2
      rw [← List.take_append_drop (k + 1) l, htk, List.nodup_append] at hd
      have hd1 := hd.1
      rw [List.nodup_append] at hd1
      exact hd1.2.2 _ hp _ (by simp) hi.symm
    | false =>
      rw [ht] at hgo
      have hs := h.snoc hi8 ht
      rw [← hi, ← htk] at hs
      obtain ⟨r, hr, hT⟩ := ih (k + 1) (by omega) _ hs
      refine ⟨r, hgo r ?_, hT⟩
      simp only [Bool.false_eq_true, if_false]
      refine Ev.bind (pow_ev (by omega)) (Ev.congr (fun n => ?_) hr)
      have := hs.lt
      have e : (x : Int) + ((2 ^ i : Nat) : Int) = ((x ||| 2 ^ i : Nat) : Int) := by rw [← add_or hx hi8 ht]; omega
      rw [e, wr (by omega) (by omega)]
theorem rof_tells (l : List Int) (hl : l.length ≤ 100) : ∃ r, Ev (fun n => pelicanref13_Of.f n l) r ∧ OfTells l r :=
  rof_loop l hl l.length 0 (by omega) 0 ⟨by omega, by simp, by simp, fun i _ => by simp⟩
theorem tells_eq {l : List Int} {r t : Int} (h1 : OfTells l r) (h2 : OfTells l t) : r = t := by
  rcases h1 with ⟨rfl, _, hn⟩ | ⟨x, rfl, hx⟩ <;> rcases h2 with ⟨rfl, _, hm⟩ | ⟨y, rfl, hy⟩
  · rfl
  · exact absurd ⟨hy.rng, hy.nodup⟩ hn
  · exact absurd ⟨hx.rng, hx.nodup⟩ hm
  · have : x = y := by
      refine Nat.eq_of_testBit_eq fun k => ?_
      rcases Nat.lt_or_ge k 8 with hk | hk
      · rw [Bool.eq_iff_iff, hx.mem k hk, hy.mem k hk]
      · have e : ∀ z : Nat, z < 256 → z.testBit k = false := fun z hz => by
          cases hb : z.testBit k with
          | false => rfl
          | true => have := lt_of_testBit (n := 8) hz hb; omega
        rw [e x hx.lt, e y hy.lt]
    rw [this]
end GroupTells
open GroupTells
theorem GroupTells (l0 : List Int) (a1 : Int) (l2 : List Int) : ∃ k, pelicanlaw13_GroupTells.f k l0 a1 l2 = some true := by
  refine Ev.rounds ?_
  refine Ev.congr (fun n => rfl) (Ev.bind awake_ev ?_)
  simp only [if_true]
  have hup : Ev (fun n => pelicanlaw13_GroupTells.j0 n l0 a1 l2 true true) true := Ev.step (f := fun _ => some true) (fun n => by simp only [pelicanlaw13_GroupTells.j0, if_true]) (Ev.now _)
  by_cases h10 : (l0.length : Int) > 10
  · simp only [h10, if_true]; exact hup
  by_cases h20 : (l2.length : Int) > 20
  · simp only [h10, h20, if_false, decide_true]; exact hup
  simp only [h10, h20, if_false, decide_false]
  obtain ⟨r, hr, hT⟩ := of_tells l2 (by omega)
  obtain ⟨t, ht, hU⟩ := rof_tells l2 (by omega)
  obtain rfl := tells_eq hT hU
  have hlen : (if Sp.may l0 = true then setsL l0 (2 ^ l0.length) else []).length < 9223372036854775807 := by
    by_cases h : MayOk l0
    · have := h.p8
      have := setsL_len l0 (2 ^ l0.length)
      rw [if_pos ((may_iff l0).2 h)]
      omega
    · rw [may_false h, if_neg (by simp)]; decide
  have hlen2 := Sp.groupsOf_len a1
  refine Ev.step (fun n => by simp only [pelicanlaw13_GroupTells.j0, Bool.false_eq_true, if_false]; rfl) (Ev.bind (may_ev l0) (Ev.bind (free_ev l0 a1) (Ev.bind (sets_ev l0) (Ev.bind (rsets_ev l0) (Ev.bind (ints_ev _ _ hlen) ?_)))))
  simp only [group_List.f, Option.bind_some]
  refine Ev.bind (list_ev a1) (Ev.bind (ints_ev _ _ (by omega)) ?_)
  simp only [group_May.f, Option.bind_some, free_f, group_Against.f, beq_self_eq_true, decide_true, if_true]
  refine Ev.bind (against_ev l0 a1) ?_
  simp only [if_true]
  refine Ev.bind hr (Ev.congr (f := fun n => (pelicanref13_Of.f n l2).bind fun t191 => some (r == t191)) (fun n => rfl) (Ev.bind ht ?_))
  rw [beq_self_eq_true]
  exact Ev.now _
end Go.Proofs.YtnogkpofgkaefaaDoor.Pure
