/- The document's answers for layers 13 and 14 that later layers lean on (own text, drawn together by program out of pure/GroupTells.lean and RT.lean). -/
import Derived.Test.YtpciieagafddcaaDoorQjDR13
import Derived.Test.YtpciieagafddcaaDoorQjPQ
namespace Go.Proofs.YtpciieagafddcaaDoor.RF
open Go.RowKit Go.Proofs.YtpciieagafddcaaDoorW.PrintWords Go.Proofs.YtpciieagafddcaaDoorW.PrintLast Go.Proofs.YtpciieagafddcaaDoorW.PrintMore Go.Proofs.YtpciieagafddcaaDoor.F Go.Proofs.YtpciieagafddcaaDoor.PG Go.Proofs.YtpciieagafddcaaDoor.PM Go.Proofs.YtpciieagafddcaaDoor.PP Go.Proofs.YtpciieagafddcaaDoor.PQ
theorem rd_getD (l : List Int) (k : Nat) : rd l (k : Int) = l.getD k 0 := by simp [rd]
theorem pow_facts : ∀ i : Nat, i < 12 → pelicanref13_pow.f 20 (i : Int) = some ((2 ^ i : Nat) : Int) := by decide +kernel
theorem pow_ev {i : Nat} (h : i < 12) : Ev (fun n => pelicanref13_pow.f n (i : Int)) ((2 ^ i : Nat) : Int) := Ev.of (fun k => pelicanref13_pow.mono _ k) (pow_facts i h)
theorem in_ev {x i : Nat} (hx : x < 1048576) (h : i < 12) : Ev (fun n => pelicanref13_In.f n (x : Int) (i : Int)) (x.testBit i) := by
 refine Ev.congr (fun n => by unfold pelicanref13_In.f; rfl) (Ev.bind (pow_ev h) ?_)
 have hp := Nat.two_pow_pos i
 have hq : x / 2 ^ i ≤ x := Nat.div_le_self _ _
 refine Ev.congr (f := fun _ => some (x.testBit i)) (fun n => ?_) (Ev.now _)
 rw [if_neg (by omega), ← Int.ofNat_tdiv]
 have hw : wrap64 ((x / 2 ^ i : Nat) : Int) = ((x / 2 ^ i : Nat) : Int) := by
  generalize x / 2 ^ i = q at hq
  exact wr (by omega) (by omega)
 rw [hw]
 have e : Int.tmod ((x / 2 ^ i : Nat) : Int) 2 = ((x / 2 ^ i % 2 : Nat) : Int) := by
  rw [show (2 : Int) = ((2 : Nat) : Int) from rfl, ← Int.ofNat_tmod]
 rw [e, Nat.testBit_eq_decide_div_mod_eq]
 generalize x / 2 ^ i % 2 = q
 congr 1
 rw [Bool.eq_iff_iff, beq_iff_eq, decide_eq_true_eq]
 omega
def rngOk (m : List Int) (k : Nat) : Bool := decide (0 ≤ m.getD k 0 ∧ m.getD k 0 < ((2 ^ m.length : Nat) : Int))
def pairOk (m : List Int) (i k : Nat) : Bool := decide ((row m i).testBit k = (row m k).testBit i) && !((row m i).testBit k && decide (i = k))
theorem may_l2 (m : List Int) (h8 : m.length ≤ 8) (hr : ∀ j, j < m.length → rngOk m j = true) {i : Nat} (hi : i < m.length) {C : Bool} (hC : (∀ j, j < m.length → pairOk m i j = true) → Ev (fun n => pelicanref13_May.l1 n m (m.length : Int) ((i + 1 : Nat) : Int)) C) :
  Ev (fun n => pelicanref13_May.l2 n m (m.length : Int) (i : Int) ((0 : Nat) : Int)) ((List.range' 0 m.length).all (pairOk m i) && C) := by
 have hp8 := pow_le8 h8
 have hrow : ∀ j, j < m.length → m.getD j 0 = (row m j : Int) ∧ row m j < 256 := by
  intro j hj
  have := of_decide_eq_true (hr j hj)
  unfold row
  omega
 have body : ∀ k, k < m.length → ∀ r, (pairOk m i k = true → Ev (fun n => pelicanref13_May.l2 n m (m.length : Int) (i : Int) ((k + 1 : Nat) : Int)) r) → (pairOk m i k = false → r = false) → Ev (fun n => pelicanref13_May.l2 n m (m.length : Int) (i : Int) (k : Int)) r := by
  intro k hk r h1 h2
  have e1 : ((k : Int) + 1) = ((k + 1 : Nat) : Int) := by omega
  refine Ev.step (f := fun n => (pelicanref13_In.f n (row m i : Int) (k : Int)).bind fun t133 => (pelicanref13_In.f n (row m k : Int) (i : Int)).bind fun t135 => (if (t133 != t135) = true then (some false) else (if t133 = true then (if (i : Int) = (k : Int) then (some false) else (pelicanref13_May.l2 n m (m.length : Int) (i : Int) ((k + 1 : Nat) : Int))) else (pelicanref13_May.l2 n m (m.length : Int) (i : Int) ((k + 1 : Nat) : Int))))) (fun n => ?_) (Ev.bind (in_ev (by have := (hrow i hi).2; omega) (by omega)) (Ev.bind (in_ev (by have := (hrow k hk).2; omega) (by omega)) ?_))
  ·
   simp only [pelicanref13_May.l2]
   rw [if_pos (by omega), if_pos (by omega), if_pos (by omega), rd_getD, rd_getD, (hrow i hi).1, (hrow k hk).1, wr (by omega) (by omega), e1]
   congr 1
   funext t
   rw [if_pos (by omega), if_pos (by omega)]
  ·
   have e : ((i : Int) = (k : Int)) ↔ i = k := by omega
   unfold pairOk at h1 h2
   cases ha : (row m i).testBit k <;> cases hb : (row m k).testBit i <;> rw [ha, hb] at h1 h2
   ·
    simp only [bne_self_eq_false, Bool.false_eq_true, if_false]
    exact h1 (by simp)
   ·
    simp only [Bool.bne_true, Bool.not_false, if_true, h2 (by simp)]; exact Ev.now _
   ·
    simp only [Bool.bne_false, if_true, h2 (by simp)]; exact Ev.now _
   ·
    simp only [bne_self_eq_false, Bool.false_eq_true, if_false, if_true, e]
    by_cases hik : i = k
    ·
     rw [h2 (by simp [hik])]; simp only [hik, if_true]; exact Ev.now _
    ·
     simp only [hik, if_false]; exact h1 (by simp [hik])
 refine loop_all (n := m.length) (g := fun n k => pelicanref13_May.l2 n m (m.length : Int) (i : Int) (k : Int)) (ok := pairOk m i) (fun hall => ?_) (fun k hk hok r hE => body k hk r (fun _ => hE) fun h => by rw [hok] at h; cases h) (fun k hk hok => body k hk false (fun h => by rw [hok] at h; cases h) fun _ => rfl) m.length 0 (Nat.zero_add _) (fun j hj => absurd hj (Nat.not_lt_zero j))
 refine Ev.step (f := fun n => pelicanref13_May.l1 n m (m.length : Int) ((i + 1 : Nat) : Int)) (fun n => ?_) (hC hall)
 simp only [pelicanref13_May.l2]
 rw [if_neg (by omega), wr (by omega) (by omega)]
 rfl
def rowsOk (m : List Int) (i : Nat) : Bool := (List.range' 0 m.length).all (pairOk m i)
theorem may_l1 (m : List Int) (h8 : m.length ≤ 8) (hr : ∀ j, j < m.length → rngOk m j = true) : Ev (fun n => pelicanref13_May.l1 n m (m.length : Int) ((0 : Nat) : Int)) ((List.range' 0 m.length).all (rowsOk m) && true) := by
 refine loop_all (n := m.length) (g := fun n k => pelicanref13_May.l1 n m (m.length : Int) (k : Int)) (ok := rowsOk m) (fun _ => ?_) (fun k hk hok r hE => ?_) (fun k hk hok => ?_) m.length 0 (Nat.zero_add _) (fun j hj => absurd hj (Nat.not_lt_zero j))
 ·
  refine Ev.step (f := fun _ => some true) (fun n => ?_) (Ev.now _)
  simp only [pelicanref13_May.l1]
  rw [if_neg (by omega)]
 ·
  have := may_l2 m h8 hr hk (C := r) (fun _ => hE)
  unfold rowsOk at hok
  rw [hok, Bool.true_and] at this
  refine Ev.step (fun n => ?_) this
  simp only [pelicanref13_May.l1]
  rw [if_pos (by omega)]
  rfl
 ·
  have := may_l2 m h8 hr hk (C := true) (fun h => by unfold rowsOk at hok; rw [all_range.2 h] at hok; cases hok)
  unfold rowsOk at hok
  rw [hok, Bool.false_and] at this
  refine Ev.step (fun n => ?_) this
  simp only [pelicanref13_May.l1]
  rw [if_pos (by omega)]
  rfl
theorem may_ev (m : List Int) : Ev (fun n => pelicanref13_May.f n m) (Sp.may m) := by
 by_cases hl : 1 ≤ m.length ∧ m.length ≤ 8
 ·
  obtain ⟨h1, h8⟩ := hl
  have hp8 := pow_le8 h8
  have key : Ev (fun n => pelicanref13_May.l0 n m (m.length : Int) ((0 : Nat) : Int)) ((List.range' 0 m.length).all (rngOk m) && ((List.range' 0 m.length).all (rowsOk m) && true)) := by
   refine loop_all (n := m.length) (g := fun n k => pelicanref13_May.l0 n m (m.length : Int) (k : Int)) (ok := rngOk m) (fun hall => ?_) (fun k hk hok r hE => ?_) (fun k hk hok => ?_) m.length 0 (Nat.zero_add _) (fun j hj => absurd hj (Nat.not_lt_zero j))
   ·
    refine Ev.step (fun n => ?_) (may_l1 m h8 hall)
    simp only [pelicanref13_May.l0]
    rw [if_neg (by omega)]
    rfl
   ·
    have hd := of_decide_eq_true hok
    refine Ev.step (f := fun n => (pelicanref13_pow.f n (m.length : Int)).bind fun t131 => (if m.getD k 0 ≥ t131 then (some false) else (pelicanref13_May.l0 n m (m.length : Int) ((k + 1 : Nat) : Int)))) (fun n => ?_) (Ev.bind (pow_ev (by omega)) ?_)
    ·
     simp only [pelicanref13_May.l0]
     rw [if_pos (by omega), if_pos (by omega), if_pos (by omega), rd_getD, if_neg (by omega), wr (by omega) (by omega)]
     rfl
    ·
     have : ¬ (m.getD k 0 ≥ ((2 ^ m.length : Nat) : Int)) := by omega
     simp only [this, if_false]
     exact hE
   ·
    have hd := of_decide_eq_false hok
    by_cases h0 : m.getD k 0 < 0
    ·
     refine Ev.step (f := fun _ => some false) (fun n => ?_) (Ev.now _)
     simp only [pelicanref13_May.l0]
     rw [if_pos (by omega), if_pos (by omega), if_pos (by omega), rd_getD, if_pos h0]
    ·
     refine Ev.step (f := fun n => (pelicanref13_pow.f n (m.length : Int)).bind fun t131 => (if m.getD k 0 ≥ t131 then (some false) else (pelicanref13_May.l0 n m (m.length : Int) ((k + 1 : Nat) : Int)))) (fun n => ?_) (Ev.bind (pow_ev (by omega)) ?_)
     ·
      simp only [pelicanref13_May.l0]
      rw [if_pos (by omega), if_pos (by omega), if_pos (by omega), rd_getD, if_neg h0, wr (by omega) (by omega)]
      rfl
     ·
      have : m.getD k 0 ≥ ((2 ^ m.length : Nat) : Int) := by omega
      simp only [this, if_true]
      exact Ev.now _
  have heq : Sp.may m = ((List.range' 0 m.length).all (rngOk m) && ((List.range' 0 m.length).all (rowsOk m) && true)) := by
   rw [Bool.and_true, Bool.eq_iff_iff, may_iff, Bool.and_eq_true, all_range, all_range]
   constructor
   ·
    intro h
    refine ⟨fun j hj => decide_eq_true (h.rng j hj), fun i hi => ?_⟩
    unfold rowsOk
    rw [all_range]
    intro k hk
    unfold pairOk
    rw [decide_eq_true (h.sym i k hi hk), Bool.true_and]
    by_cases hik : i = k
    ·
     subst hik; rw [h.irr i hi]; rfl
    ·
     simp [hik]
   ·
    rintro ⟨h2, h3⟩
    have hp : ∀ i k, i < m.length → k < m.length → (row m i).testBit k = (row m k).testBit i ∧ ((row m i).testBit k = true → i ≠ k) := by
     intro i k hi hk
     have := all_range.1 (h3 i hi) k hk
     unfold pairOk at this
     rw [Bool.and_eq_true, decide_eq_true_eq] at this
     refine ⟨this.1, fun ht hik => ?_⟩
     have := this.2
     rw [ht, decide_eq_true hik] at this
     cases this
    refine ⟨h1, h8, fun i hi => of_decide_eq_true (h2 i hi), fun i k hi hk => (hp i k hi hk).1, fun i hi => ?_⟩
    cases hb : (row m i).testBit i with
    | false => rfl
    | true => exact absurd rfl ((hp i i hi hi).2 hb)
  rw [heq]
  refine Ev.congr (f := fun n => pelicanref13_May.j0 n m (m.length : Int) false) (fun n => ?_) (Ev.step (fun n => ?_) key)
  ·
   unfold pelicanref13_May.f
   rw [if_neg (by omega), decide_eq_false (by omega)]
  ·
   simp only [pelicanref13_May.j0, Bool.false_eq_true, if_false]
   rfl
 ·
  rw [may_false fun h => hl ⟨h.len1, h.len8⟩]
  refine Ev.congr (f := fun n => pelicanref13_May.j0 n m (m.length : Int) true) (fun n => ?_) (Ev.step (f := fun _ => some false) (fun n => ?_) (Ev.now _))
  ·
   unfold pelicanref13_May.f
   by_cases h1 : (m.length : Int) < 1
   ·
    rw [if_pos h1]
   ·
    rw [if_neg h1, decide_eq_true (by omega)]
  ·
   simp only [pelicanref13_May.j0, if_true]
def cellOk (m : List Int) (s i k : Nat) : Bool := !(s.testBit i && s.testBit k && (row m i).testBit k)
theorem free_l1 {m : List Int} (h : MayOk m) {s : Nat} (hs : s < 2 ^ m.length) {i : Nat} (hi : i < m.length) {C : Bool} (hC : (∀ j, j < m.length → cellOk m s i j = true) → Ev (fun n => pelicanref13_Free.l0 n m (s : Int) ((i + 1 : Nat) : Int)) C) :
  Ev (fun n => pelicanref13_Free.l1 n m (s : Int) (i : Int) ((0 : Nat) : Int)) ((List.range' 0 m.length).all (cellOk m s i) && C) := by
 have hp8 := h.p8
 have h8 := h.len8
 have body : ∀ k, k < m.length → ∀ r, (cellOk m s i k = true → Ev (fun n => pelicanref13_Free.l1 n m (s : Int) (i : Int) ((k + 1 : Nat) : Int)) r) → (cellOk m s i k = false → r = false) → Ev (fun n => pelicanref13_Free.l1 n m (s : Int) (i : Int) (k : Int)) r := by
  intro k hk r h1 h2
  have e1 : ((k : Int) + 1) = ((k + 1 : Nat) : Int) := by omega
  have hr := h.row_lt hi
  refine Ev.step (f := fun n => (pelicanref13_In.f n (s : Int) (i : Int)).bind fun t138 => ((pelicanref13_In.f n (s : Int) (k : Int)).bind fun t139 => ((pelicanref13_In.f n (row m i : Int) (k : Int)).bind fun t141 => (if t138 = true then (if t139 = true then (if t141 = true then (some false) else (pelicanref13_Free.l1 n m (s : Int) (i : Int) ((k + 1 : Nat) : Int))) else (pelicanref13_Free.l1 n m (s : Int) (i : Int) ((k + 1 : Nat) : Int))) else (pelicanref13_Free.l1 n m (s : Int) (i : Int) ((k + 1 : Nat) : Int)))))) (fun n => ?_) (Ev.bind (in_ev (by omega) (by omega)) (Ev.bind (in_ev (by omega) (by omega)) (Ev.bind (in_ev (by omega) (by omega)) ?_)))
  ·
   simp only [pelicanref13_Free.l1]
   rw [if_pos (by omega), rd_getD, h.row_eq hi, wr (by omega) (by omega), e1]
   congr 1
   funext t
   congr 1
   funext t'
   rw [if_pos (by omega), if_pos (by omega)]
  ·
   unfold cellOk at h1 h2
   cases ha : s.testBit i <;> cases hb : s.testBit k <;> cases hc : (row m i).testBit k <;> rw [ha, hb, hc] at h1 h2 <;> simp only [Bool.false_eq_true, if_false, if_true]
   all_goals first
    | exact h1 rfl
    | (rw [h2 rfl]; exact Ev.now _)
 refine loop_all (n := m.length) (g := fun n k => pelicanref13_Free.l1 n m (s : Int) (i : Int) (k : Int)) (ok := cellOk m s i) (fun hall => ?_) (fun k hk hok r hE => body k hk r (fun _ => hE) fun h => by rw [hok] at h; cases h) (fun k hk hok => body k hk false (fun h => by rw [hok] at h; cases h) fun _ => rfl) m.length 0 (Nat.zero_add _) (fun j hj => absurd hj (Nat.not_lt_zero j))
 refine Ev.step (f := fun n => pelicanref13_Free.l0 n m (s : Int) ((i + 1 : Nat) : Int)) (fun n => ?_) (hC hall)
 simp only [pelicanref13_Free.l1]
 rw [if_neg (by omega), wr (by omega) (by omega)]
 rfl
def cellsOk (m : List Int) (s i : Nat) : Bool := (List.range' 0 m.length).all (cellOk m s i)
theorem free_l0 {m : List Int} (h : MayOk m) {s : Nat} (hs : s < 2 ^ m.length) : Ev (fun n => pelicanref13_Free.l0 n m (s : Int) ((0 : Nat) : Int)) ((List.range' 0 m.length).all (cellsOk m s) && true) := by
 have h8 := h.len8
 refine loop_all (n := m.length) (g := fun n k => pelicanref13_Free.l0 n m (s : Int) (k : Int)) (ok := cellsOk m s) (fun _ => ?_) (fun k hk hok r hE => ?_) (fun k hk hok => ?_) m.length 0 (Nat.zero_add _) (fun j hj => absurd hj (Nat.not_lt_zero j))
 ·
  refine Ev.step (f := fun _ => some true) (fun n => ?_) (Ev.now _)
  simp only [pelicanref13_Free.l0]
  rw [if_neg (by omega)]
 ·
  have := free_l1 h hs hk (C := r) (fun _ => hE)
  unfold cellsOk at hok
  rw [hok, Bool.true_and] at this
  refine Ev.step (fun n => ?_) this
  simp only [pelicanref13_Free.l0]
  rw [if_pos (by omega)]
  rfl
 ·
  have := free_l1 h hs hk (C := true) (fun hh => by unfold cellsOk at hok; rw [all_range.2 hh] at hok; cases hok)
  unfold cellsOk at hok
  rw [hok, Bool.false_and] at this
  refine Ev.step (fun n => ?_) this
  simp only [pelicanref13_Free.l0]
  rw [if_pos (by omega)]
  rfl
theorem free_ev (m : List Int) (s : Int) : Ev (fun n => pelicanref13_Free.f n m s) (freeB m s) := by
 refine Ev.congr (fun n => rfl) (Ev.bind (may_ev m) ?_)
 by_cases h : MayOk m
 ·
  have h8 := h.len8
  simp only [(may_iff m).2 h, if_true]
  by_cases h0 : s < 0
  ·
   simp only [h0, if_true]
   rw [free_none (by omega)]
   exact Ev.step (f := fun _ => some false) (fun n => by simp only [pelicanref13_Free.j0, if_true]) (Ev.now _)
  ·
   simp only [h0, if_false]
   refine Ev.bind (pow_ev (by omega)) ?_
   by_cases h1 : s ≥ ((2 ^ m.length : Nat) : Int)
   ·
    simp only [h1, decide_true]
    rw [free_none (by omega)]
    exact Ev.step (f := fun _ => some false) (fun n => by simp only [pelicanref13_Free.j0, if_true]) (Ev.now _)
   ·
    simp only [h1, decide_false]
    obtain ⟨x, rfl⟩ := Int.eq_ofNat_of_zero_le (show 0 ≤ s by omega)
    have hx : x < 2 ^ m.length := by omega
    have heq : freeB m (x : Int) = ((List.range' 0 m.length).all (cellsOk m x) && true) := by
     rw [Bool.and_true, Bool.eq_iff_iff, free_iff h hx, all_range]
     constructor
     ·
      intro hf i hi
      unfold cellsOk
      rw [all_range]
      intro k hk
      unfold cellOk
      cases ha : x.testBit i with
      | false => rfl
      | true =>
       cases hb : x.testBit k with
       | false => rfl
       | true => rw [hf i k hi hk ha hb]; rfl
     ·
      intro hh i k hi hk ha hb
      have := all_range.1 (hh i hi) k hk
      unfold cellOk at this
      rw [ha, hb] at this
      cases hc : (row m i).testBit k with
      | false => rfl
      | true => rw [hc] at this; cases this
    rw [heq]
    refine Ev.step (fun n => ?_) (free_l0 h hx)
    simp only [pelicanref13_Free.j0, Bool.false_eq_true, if_false]
    rfl
 ·
  simp only [may_false h, Bool.false_eq_true, if_false]
  rw [free_none fun hh => h hh.1]
  exact Ev.step (f := fun _ => some false) (fun n => by simp only [pelicanref13_Free.j0, if_true]) (Ev.now _)
theorem fold_or : ∀ (ss : List S87) (o : Nat), (∀ s ∈ ss, 0 ≤ s.f0 ∧ s.f0 < 256) → o < 256 →
  ∃ a : Nat, ss.foldl (fun o s => Go.bits .or .i64 o s.f0) (o : Int) = a ∧ a < 256 ∧ ∀ k, a.testBit k = true ↔ (o.testBit k = true ∨ ∃ s ∈ ss, s.f0.toNat.testBit k = true) := by
 intro ss
 induction ss with
 | nil => intro o _ ho; exact ⟨o, rfl, ho, by simp⟩
 | cons s ss ih =>
  intro o hs ho
  have h1 := hs s (by simp)
  obtain ⟨x, hx⟩ := Int.eq_ofNat_of_zero_le h1.1
  obtain ⟨a, e, ha, hb⟩ := ih (o ||| x) (fun z hz => hs z (by simp [hz])) (or_lt ho (by omega))
  refine ⟨a, ?_, ha, fun k => ?_⟩
  ·
   rw [List.foldl_cons, hx, or_nat o _ (by omega) (by omega)]
   exact e
  ·
   rw [hb k, Nat.testBit_or, Bool.or_eq_true, or_assoc]
   simp [hx]
theorem stage_ev (m : List Int) (ss : List S87) (am red hold : Int) (s : S87) : Ev (fun n => pelicanref14_stage.f n m ss am red hold s.f0 s.f1 s.f2) (plan_stageB.f m s) := by
 refine Ev.congr (fun n => rfl) (Ev.bind (free_ev m s.f0) (Ev.congr (f := fun _ => some (plan_stageB.f m s)) (fun n => ?_) (Ev.now _)))
 rw [stage_eq]
 cases freeB m s.f0 with
 | false => simp
 | true =>
  by_cases h2 : s.f0 = 0
  ·
   simp [h2]
  ·
   by_cases h3 : s.f1 ≥ 1
   ·
    by_cases h4 : s.f1 ≤ 200
    ·
     by_cases h5 : s.f2 ≥ s.f1
     ·
      have h5' : s.f1 ≤ s.f2 := h5
      have h3' : 1 ≤ s.f1 := h3
      simp [h2, h3, h4, h5]
     ·
      have h5' : ¬ s.f1 ≤ s.f2 := by omega
      simp [h2, h3, h4, h5]
    ·
     simp [h2, h3, h4]
   ·
    simp [h2, h3]
theorem has_ev (m : List Int) (ss : List S87) (am red hold : Int) {k g : Nat} (hk : k < ss.length) (h : 0 ≤ ss[k].f0 ∧ ss[k].f0 < 1048576) (hg : g < 12) : Ev (fun n => pelicanref14_Has.f n m ss am red hold (k : Int) (g : Int)) (ss[k].f0.toNat.testBit g) := by
 obtain ⟨x, hx⟩ := Int.eq_ofNat_of_zero_le h.1
 refine Ev.congr (f := fun n => (pelicanref13_In.f n (x : Int) (g : Int)).bind fun t => some t) (fun n => ?_) ?_
 ·
  unfold pelicanref14_Has.f
  rw [if_pos (by omega), if_pos (by omega), rd_stage ss hk, hx]
 ·
  rw [hx]
  exact Ev.bind (in_ev (by omega) hg) (Ev.now _)
def some_ (ss : List S87) (g : Nat) : Prop := ∃ s ∈ ss, s.f0.toNat.testBit g = true
theorem l2_ev (m : List Int) {ss : List S87} (am red hold : Int) (hs : ∀ s ∈ ss, 0 ≤ s.f0 ∧ s.f0 < 256) (hl : ss.length ≤ 6) {g : Nat} (hg : g < 9) {r : Bool}
  (hC : some_ ss g → Ev (fun n => pelicanref14_Fit.l1 n ((g + 1 : Nat) : Int) m ss am red hold) r) (hN : ¬ some_ ss g → r = false) :
  ∀ d k : Nat, k + d = ss.length → ∀ b : Bool, (b = true ↔ some_ (ss.take k) g) → Ev (fun n => pelicanref14_Fit.l2 n (g : Int) b (k : Int) m ss am red hold) r := by
 intro d
 induction d with
 | zero =>
  intro k hk b hb
  rw [List.take_of_length_le (by omega)] at hb
  cases b with
  | true =>
   refine Ev.step (fun n => ?_) (hC (hb.1 rfl))
   simp only [pelicanref14_Fit.l2]
   rw [if_neg (by omega), if_pos trivial, wr (by omega) (by omega)]
   rfl
  | false =>
   rw [hN fun h => by have := hb.2 h; cases this]
   refine Ev.step (f := fun _ => some false) (fun n => ?_) (Ev.now _)
   simp only [pelicanref14_Fit.l2]
   rw [if_neg (by omega), if_neg (by simp)]
 | succ d ih =>
  intro k hk b hb
  have hlt : k < ss.length := by omega
  have h1 := hs _ (List.getElem_mem hlt)
  have e1 : ((k : Int) + 1) = ((k + 1 : Nat) : Int) := by omega
  have hnext : (b || ss[k].f0.toNat.testBit g) = true ↔ some_ (ss.take (k + 1)) g := by
   rw [Bool.or_eq_true, hb, List.take_succ_eq_append_getElem hlt]
   unfold some_
   constructor
   ·
    rintro (⟨s, h, h'⟩ | h)
    ·
     exact ⟨s, List.mem_append.2 (.inl h), h'⟩
    ·
     exact ⟨_, List.mem_append.2 (.inr (List.mem_singleton.2 rfl)), h⟩
   ·
    rintro ⟨s, h, h'⟩
    rcases List.mem_append.1 h with h | h
    ·
     exact .inl ⟨s, h, h'⟩
    ·
     rw [List.mem_singleton.1 h] at h'
     exact .inr h'
  have := ih (k + 1) (by omega) _ hnext
  refine Ev.step (f := fun n => (pelicanref14_Has.f n m ss am red hold (k : Int) (g : Int)).bind fun t308 => (if b = true then (pelicanref14_Fit.l2 n (g : Int) true ((k + 1 : Nat) : Int) m ss am red hold) else (pelicanref14_Fit.l2 n (g : Int) t308 ((k + 1 : Nat) : Int) m ss am red hold))) (fun n => ?_) (Ev.bind (has_ev m ss am red hold hlt ⟨h1.1, by omega⟩ (by omega)) ?_)
  ·
   simp only [pelicanref14_Fit.l2]
   rw [if_pos (by omega), wr (by omega) (by omega), e1]
  ·
   cases b <;> simpa using this
def times (am red hold : Int) : Bool := decide (1 ≤ am ∧ am ≤ 200) && (decide (1 ≤ red ∧ red ≤ 200) && decide (0 ≤ hold ∧ hold ≤ 300))
theorem l1_ev (m : List Int) {ss : List S87} (am red hold : Int) (hs : ∀ s ∈ ss, 0 ≤ s.f0 ∧ s.f0 < 256) (hl : ss.length ≤ 6) (h8 : m.length ≤ 8) :
  ∀ d g : Nat, g + d = m.length → ∀ r : Bool, ((∀ j, g ≤ j → j < m.length → some_ ss j) → r = times am red hold) → (¬ (∀ j, g ≤ j → j < m.length → some_ ss j) → r = false) → Ev (fun n => pelicanref14_Fit.l1 n (g : Int) m ss am red hold) r := by
 intro d
 induction d with
 | zero =>
  intro g hg r h1 _
  rw [h1 fun j h2 h3 => by omega]
  refine Ev.step (f := fun _ => some (times am red hold)) (fun n => ?_) (Ev.now _)
  simp only [pelicanref14_Fit.l1]
  rw [if_neg (by omega)]
  unfold times
  by_cases c1 : am ≥ 1 <;> by_cases c2 : am ≤ 200 <;> by_cases c3 : red ≥ 1 <;> by_cases c4 : red ≤ 200 <;> by_cases c5 : hold ≥ 0 <;> simp [c1, c2, c3, c4, c5]
  all_goals omega
 | succ d ih =>
  intro g hg r h1 h2
  refine Ev.step (fun n => ?_) (l2_ev m am red hold hs hl (g := g) (by omega) (r := r) (fun hsome => ih (g + 1) (by omega) r (fun h => h1 fun j h3 h4 => ?_) (fun h => h2 fun hh => h fun j h3 h4 => hh j (by omega) h4)) (fun hn => h2 fun hh => hn (hh g (Nat.le_refl _) (by omega))) ss.length 0 (Nat.zero_add _) false ?_)
  ·
   simp only [pelicanref14_Fit.l1]
   rw [if_pos (by omega)]
   rfl
  ·
   rcases Nat.lt_or_ge g j with h5 | h5
   ·
    exact h j h5 h4
   ·
    obtain rfl : j = g := by omega
    exact hsome
  ·
   unfold some_
   simp
theorem stage_rng {m : List Int} {ss : List S87} (hst : ss.all (plan_stageB.f m) = true) : ∀ s ∈ ss, 0 ≤ s.f0 ∧ s.f0 < ((2 ^ m.length : Nat) : Int) := by
 intro s hs
 have h := List.all_eq_true.1 hst s hs
 rw [stage_eq, Bool.and_eq_true] at h
 refine Classical.byContradiction fun hn => ?_
 rw [free_none fun hh => hn hh.2] at h
 cases h.1
theorem had_iff {m : List Int} {ss : List S87} (hm : MayOk m) (hst : ss.all (plan_stageB.f m) = true) : (ss.foldl (fun o s => Go.bits .or .i64 o s.f0) 0 = wrap64 ((shl .i64 1 (m.length : Int)) - 1)) ↔ ∀ g, g < m.length → some_ ss g := by
 have hp8 := hm.p8
 have h8 := hm.len8
 have hpos := Nat.two_pow_pos m.length
 have hr := stage_rng hst
 obtain ⟨a, ea, ha, hb⟩ := fold_or ss 0 (fun s hs => by have := hr s hs; omega) (by omega)
 rw [shl_one _ (by omega), wr (by omega) (by omega), show (0 : Int) = ((0 : Nat) : Int) from rfl, ea]
 constructor
 ·
  intro h g hg
  have e : a = 2 ^ m.length - 1 := by omega
  have ht : a.testBit g = true := by rw [e, Nat.testBit_two_pow_sub_one]; exact decide_eq_true hg
  rcases (hb g).1 ht with h0 | h0
  ·
   simp at h0
  ·
   exact h0
 ·
  intro h
  have e : a = 2 ^ m.length - 1 := by
   refine Nat.eq_of_testBit_eq fun k => ?_
   rw [Nat.testBit_two_pow_sub_one, Bool.eq_iff_iff, hb k, decide_eq_true_eq]
   constructor
   ·
    rintro (h0 | ⟨s, hs, h0⟩)
    ·
     simp at h0
    ·
     have := hr s hs
     exact lt_of_testBit (n := m.length) (by omega) h0
   ·
    intro hk
    exact .inr (h k hk)
  omega
theorem rfit_ev (m : List Int) (ss : List S87) (am red hold : Int) : Ev (fun n => pelicanref14_Fit.f n m ss am red hold) (plan_fitB.f m ss am red hold) := by
 have hno : Ev (fun n => pelicanref14_Fit.j0 n true m ss am red hold) false := Ev.step (f := fun _ => some false) (fun n => by simp only [pelicanref14_Fit.j0, if_true]) (Ev.now _)
 refine Ev.congr (fun n => rfl) (Ev.bind (may_ev m) ?_)
 by_cases hm : MayOk m
 ·
  have hmay := (may_iff m).2 hm
  have h8 := hm.len8
  have hp8 := hm.p8
  simp only [hmay, if_true]
  by_cases hfew : 2 ≤ ss.length ∧ ss.length ≤ 6
  ·
   have c1 : ¬ ((ss.length : Int) < 2) := by omega
   have c2 : ¬ ((ss.length : Int) > 6) := by omega
   simp only [c1, c2, if_false, decide_false]
   have key : Ev (fun n => pelicanref14_Fit.l0 n ((0 : Nat) : Int) m ss am red hold) ((List.range' 0 ss.length).all (fun k => plan_stageB.f m (rd_T87 ss (k : Int))) && (decide (ss.foldl (fun o s => Go.bits .or .i64 o s.f0) 0 = wrap64 ((shl .i64 1 (m.length : Int)) - 1)) && times am red hold)) := by
    have hcall : ∀ k, k < ss.length → ∀ r, Ev (fun n => if plan_stageB.f m (rd_T87 ss (k : Int)) = true then pelicanref14_Fit.l0 n ((k + 1 : Nat) : Int) m ss am red hold else some false) r → Ev (fun n => pelicanref14_Fit.l0 n (k : Int) m ss am red hold) r := by
     intro k hk r hr
     have e1 : ((k : Int) + 1) = ((k + 1 : Nat) : Int) := by omega
     refine Ev.step (fun n => ?_) (Ev.bind (f := fun n t => if t = true then pelicanref14_Fit.l0 n ((k + 1 : Nat) : Int) m ss am red hold else some false) (stage_ev m ss am red hold (rd_T87 ss (k : Int))) hr)
     simp only [pelicanref14_Fit.l0]
     rw [if_pos (by omega), if_pos (by omega), wr (by omega) (by omega), e1]
    refine loop_all (n := ss.length) (g := fun n k => pelicanref14_Fit.l0 n (k : Int) m ss am red hold) (ok := fun k => plan_stageB.f m (rd_T87 ss (k : Int))) (fun hall => ?_) (fun k hk hok r hE => hcall k hk r (by simp only [hok, if_true]; exact hE)) (fun k hk hok => hcall k hk false (by simp only [hok, Bool.false_eq_true, if_false]; exact Ev.now _)) ss.length 0 (Nat.zero_add _) (fun j hj => absurd hj (Nat.not_lt_zero j))
    have hst : ss.all (plan_stageB.f m) = true := by
     rw [List.all_eq_true]
     intro s hs
     obtain ⟨j, hj, rfl⟩ := List.mem_iff_getElem.1 hs
     have := hall j hj
     rwa [rd_stage ss hj] at this
    have hr := stage_rng hst
    have hl1 := l1_ev m am red hold (ss := ss) (fun s hs => by have := hr s hs; omega) hfew.2 h8 m.length 0 (Nat.zero_add _) (decide (ss.foldl (fun o s => Go.bits .or .i64 o s.f0) 0 = wrap64 ((shl .i64 1 (m.length : Int)) - 1)) && times am red hold)
     (fun h => by rw [decide_eq_true ((had_iff hm hst).2 fun g hg => h g (Nat.zero_le _) hg), Bool.true_and])
     (fun h => by rw [decide_eq_false fun hh => h fun g _ hg => (had_iff hm hst).1 hh g hg, Bool.false_and])
    refine Ev.step (fun n => ?_) hl1
    simp only [pelicanref14_Fit.l0]
    rw [if_neg (by omega)]
    rfl
   have heq : plan_fitB.f m ss am red hold = ((List.range' 0 ss.length).all (fun k => plan_stageB.f m (rd_T87 ss (k : Int))) && (decide (ss.foldl (fun o s => Go.bits .or .i64 o s.f0) 0 = wrap64 ((shl .i64 1 (m.length : Int)) - 1)) && times am red hold)) := by
    unfold plan_fitB.f times
    rw [hmay, decide_eq_true hfew, Bool.true_and, Bool.true_and]
    congr 1
    rw [Bool.eq_iff_iff, all_range, List.all_eq_true]
    constructor
    ·
     intro h j hj
     rw [rd_stage ss hj]
     exact h _ (List.getElem_mem hj)
    ·
     intro h s hs
     obtain ⟨j, hj, rfl⟩ := List.mem_iff_getElem.1 hs
     have := h j hj
     rwa [rd_stage ss hj] at this
   rw [heq]
   refine Ev.step (fun n => ?_) key
   simp only [pelicanref14_Fit.j0, Bool.false_eq_true, if_false]
   rfl
  ·
   have hf : plan_fitB.f m ss am red hold = false := by unfold plan_fitB.f; rw [decide_eq_false hfew]; simp
   rw [hf]
   by_cases c1 : (ss.length : Int) < 2
   ·
    simp only [c1, if_true]; exact hno
   ·
    have c2 : (ss.length : Int) > 6 := by omega
    simp only [c1, c2, if_false, decide_true]; exact hno
 ·
  have hf : plan_fitB.f m ss am red hold = false := by unfold plan_fitB.f; rw [may_false hm]; simp
  rw [hf, may_false hm]
  simp only [Bool.false_eq_true, if_false]
  exact hno
end Go.Proofs.YtpciieagafddcaaDoor.RF
