/- Plain laws on rows of lamps: how long runs are; rows without a flaw (own text). -/
import Derived.Test.YtpciieagafddcaaDoorQhPX
namespace Go.Proofs.YtpciieagafddcaaDoor.PY
open Go.RowKit Go.Proofs.YtpciieagafddcaaDoorW.PrintWords Go.Proofs.YtpciieagafddcaaDoorW.PrintLast Go.Proofs.YtpciieagafddcaaDoorW.PrintMore Go.Proofs.YtpciieagafddcaaDoor.F Go.Proofs.YtpciieagafddcaaDoor.PG Go.Proofs.YtpciieagafddcaaDoor.PM Go.Proofs.YtpciieagafddcaaDoor.PP Go.Proofs.YtpciieagafddcaaDoor.PQ Go.Proofs.YtpciieagafddcaaDoor.PL Go.Proofs.YtpciieagafddcaaDoor.PX
set_option linter.unusedSimpArgs false
/-! ### Runs -/
def inR (rows : List (List Int)) (i : Nat) (g : Int) : Bool := decide (0 ≤ g ∧ g < ((rows.getD i []).length : Int))
def shows (rows : List (List Int)) (i : Nat) (g : Int) : Int := if inR rows i g = true then cell rows i g.toNat else -1
def hitR (rows : List (List Int)) (g x : Int) (i : Nat) : Bool := inR rows i g && decide (cell rows i g.toNat = x)
def longS (rows : List (List Int)) (g x : Int) : Nat → List Int × Nat
  | 0 => ([], 0)
  | i + 1 => if hitR rows g x i = true then ((longS rows g x i).1, (longS rows g x i).2 + 1) else ((longS rows g x i).1 ++ (if 0 < (longS rows g x i).2 then [((longS rows g x i).2 : Int)] else []), 0)
def flush (s : List Int × Nat) : List Int := s.1 ++ (if 0 < s.2 then [(s.2 : Int)] else [])
/-- How long the runs are. -/
def longB (rows : List (List Int)) (g x : Int) : List Int := flush (longS rows g x rows.length)
def same (rows : List (List Int)) (g : Int) (i j : Nat) : Prop := shows rows i g = shows rows j g ∧ inR rows i g = inR rows j g
structure IsRun (rows : List (List Int)) (g : Int) (i n : Nat) : Prop where
  pos : 0 < n
  le : i + n ≤ rows.length
  all : ∀ k, k < n → same rows g (i + k) i
  stop : i + n = rows.length ∨ ¬ same rows g (i + n) i
def Runs (rows : List (List Int)) (g : Int) : Nat → List (Int × Nat × Nat) → Nat → Prop
  | i, [], j => i = j
  | i, r :: l, j => r.2.1 = i ∧ r.1 = shows rows i g ∧ IsRun rows g i r.2.2 ∧ Runs rows g (i + r.2.2) l j
theorem Runs.snoc {rows : List (List Int)} {g : Int} : ∀ {l : List (Int × Nat × Nat)} {i j n : Nat}, Runs rows g i l j → IsRun rows g j n → Runs rows g i (l ++ [(shows rows j g, j, n)]) (j + n)
  | [], i, j, n, h, hr => by
    have h : i = j := h
    subst h
    exact ⟨rfl, rfl, hr, rfl⟩
  | r :: l, i, j, n, h, hr => ⟨h.1, h.2.1, h.2.2.1, Runs.snoc h.2.2.2 hr⟩
theorem Runs.last {rows : List (List Int)} {g : Int} : ∀ {l : List (Int × Nat × Nat)} {i j : Nat} {r : Int × Nat × Nat}, Runs rows g i (l ++ [r]) j → Runs rows g i l r.2.1 ∧ r.1 = shows rows r.2.1 g ∧ IsRun rows g r.2.1 r.2.2 ∧ j = r.2.1 + r.2.2
  | [], i, j, r, h => by
    obtain ⟨h1, h2, h3, h4⟩ := h
    subst h1
    have h4 : r.2.1 + r.2.2 = j := h4
    exact ⟨rfl, h2, h3, h4.symm⟩
  | s :: l, i, j, r, h => by
    obtain ⟨h1, h2, h3, h4⟩ := h
    obtain ⟨h5, h6⟩ := Runs.last h4
    exact ⟨⟨h1, h2, h3, h5⟩, h6⟩
/-- At a run's end something else begins. -/
theorem Runs.edge {rows : List (List Int)} {g : Int} {l : List (Int × Nat × Nat)} {j : Nat} (h : Runs rows g 0 l j) (hj : j < rows.length) : j = 0 ∨ ¬ same rows g (j - 1) j := by
  rcases List.eq_nil_or_concat l with rfl | ⟨l', r, rfl⟩
  · exact .inl (Eq.symm h)
  · rw [List.concat_eq_append] at h
    obtain ⟨-, -, hr, rfl⟩ := Runs.last h
    rcases hr.stop with hs | hs
    · omega
    · have hp := hr.pos
      have h1 := hr.all (r.2.2 - 1) (by omega)
      rw [show r.2.1 + (r.2.2 - 1) = r.2.1 + r.2.2 - 1 by omega] at h1
      exact .inr fun h2 => hs ⟨h2.1.symm.trans h1.1, h2.2.symm.trans h1.2⟩
theorem same_hit {rows : List (List Int)} {g x : Int} {i j : Nat} (h : same rows g i j) : hitR rows g x i = hitR rows g x j := by
  obtain ⟨h1, h2⟩ := h
  unfold hitR
  unfold shows at h1
  rw [← h2] at h1 ⊢
  cases hb : inR rows i g with
  | false => rfl
  | true => rw [hb, if_pos rfl, if_pos rfl] at h1; rw [h1]
theorem hit_same {rows : List (List Int)} {g x : Int} {i j : Nat} (h : hitR rows g x i = true) (h' : hitR rows g x j = true) : same rows g i j := by
  unfold hitR at h h'
  simp only [Bool.and_eq_true, decide_eq_true_eq] at h h'
  exact ⟨by unfold shows; rw [h.1, h'.1, if_pos rfl, if_pos rfl, h.2, h'.2], by rw [h.1, h'.1]⟩
theorem longS_succ (rows : List (List Int)) (g x : Int) (i : Nat) : longS rows g x (i + 1) = if hitR rows g x i = true then ((longS rows g x i).1, (longS rows g x i).2 + 1) else ((longS rows g x i).1 ++ (if 0 < (longS rows g x i).2 then [((longS rows g x i).2 : Int)] else []), 0) := rfl
theorem longS_hits {rows : List (List Int)} {g x : Int} {i : Nat} : ∀ n, (∀ k, k < n → hitR rows g x (i + k) = true) → longS rows g x (i + n) = ((longS rows g x i).1, (longS rows g x i).2 + n)
  | 0, _ => rfl
  | n + 1, h => by
    rw [show i + (n + 1) = (i + n) + 1 by omega, longS_succ, if_pos (h n (by omega)), longS_hits n fun k hk => h k (by omega)]
    rfl
theorem longS_miss {rows : List (List Int)} {g x : Int} {i : Nat} : ∀ n, (∀ k, k < n → hitR rows g x (i + k) = false) → flush (longS rows g x (i + n)) = flush (longS rows g x i)
  | 0, _ => rfl
  | n + 1, h => by
    rw [show i + (n + 1) = (i + n) + 1 by omega]
    have e : longS rows g x (i + n + 1) = (flush (longS rows g x (i + n)), 0) := by
      show (if hitR rows g x (i + n) = true then _ else _) = _
      rw [if_neg (by rw [h n (by omega)]; decide)]
      rfl
    rw [e, ← longS_miss n fun k hk => h k (by omega)]
    unfold flush
    simp
theorem longS_zero {rows : List (List Int)} {g x : Int} {j : Nat} (h : j = 0 ∨ hitR rows g x (j - 1) = false) : (longS rows g x j).2 = 0 := by
  cases j with
  | zero => rfl
  | succ j =>
    have h : hitR rows g x j = false := h.elim (fun h => by cases h) id
    show (if hitR rows g x j = true then _ else _ : List Int × Nat).2 = 0
    rw [if_neg (by rw [h]; decide)]
/-- One run more. -/
theorem long_run {rows : List (List Int)} {g x : Int} {l : List (Int × Nat × Nat)} {j n : Nat} (h : Runs rows g 0 l j) (hr : IsRun rows g j n) :
    flush (longS rows g x (j + n)) = if hitR rows g x j = true then flush (longS rows g x j) ++ [(n : Int)] else flush (longS rows g x j) := by
  have hp := hr.pos
  have hl := hr.le
  have hall : ∀ k, k < n → hitR rows g x (j + k) = hitR rows g x j := fun k hk => same_hit (hr.all k hk)
  cases hh : hitR rows g x j with
  | false =>
    rw [if_neg (by decide)]
    exact longS_miss n fun k hk => (hall k hk).trans hh
  | true =>
    rw [if_pos rfl, longS_hits n fun k hk => (hall k hk).trans hh]
    have h0 : (longS rows g x j).2 = 0 := longS_zero (by
      rcases h.edge (by omega) with h1 | h1
      · exact .inl h1
      · refine .inr ?_
        cases hb : hitR rows g x (j - 1) with
        | false => rfl
        | true => exact absurd (hit_same hb hh) h1)
    unfold flush
    simp only [h0, Nat.zero_add, Nat.lt_irrefl, if_false, if_pos hp, List.append_nil]
/-! ### All runs together -/
def cnt (rows : List (List Int)) (g x : Int) : Nat → Nat
  | 0 => 0
  | i + 1 => cnt rows g x i + (if hitR rows g x i = true then 1 else 0)
def sumI : List Int → Int
  | [] => 0
  | a :: l => a + sumI l
theorem sumI_app (a b : List Int) : sumI (a ++ b) = sumI a + sumI b := by
  induction a with
  | nil => simp [sumI]
  | cons x a ih => simp only [List.cons_append, sumI, ih]; omega
theorem sum_longS (rows : List (List Int)) (g x : Int) : ∀ i, sumI (longS rows g x i).1 + ((longS rows g x i).2 : Int) = (cnt rows g x i : Int)
  | 0 => rfl
  | i + 1 => by
    have h := sum_longS rows g x i
    unfold longS cnt
    by_cases hh : hitR rows g x i = true
    · rw [if_pos hh, if_pos hh]
      show sumI (longS rows g x i).1 + ((longS rows g x i).2 + 1 : Nat) = _
      omega
    · rw [if_neg hh, if_neg hh]
      show sumI ((longS rows g x i).1 ++ _) + ((0 : Nat) : Int) = _
      rw [sumI_app]
      by_cases h0 : 0 < (longS rows g x i).2
      · rw [if_pos h0]
        simp only [sumI]
        omega
      · rw [if_neg h0]
        simp only [sumI]
        omega
theorem sum_long (rows : List (List Int)) (g x : Int) : sumI (longB rows g x) = (cnt rows g x rows.length : Int) := by
  rw [← sum_longS]
  unfold longB flush
  rw [sumI_app]
  by_cases h0 : 0 < (longS rows g x rows.length).2
  · rw [if_pos h0]
    simp only [sumI]
    omega
  · rw [if_neg h0]
    simp only [sumI]
    omega
theorem cnt_all {rows : List (List Int)} {g : Nat} : ∀ i, (∀ j, j < i → g < (rows.getD j []).length ∧ 0 ≤ cell rows j g ∧ cell rows j g < 3) → cnt rows g 0 i + cnt rows g 1 i + cnt rows g 2 i = i
  | 0, _ => rfl
  | i + 1, h => by
    have ih := cnt_all i fun j hj => h j (by omega)
    obtain ⟨h1, h2, h3⟩ := h i (by omega)
    have hi : inR rows i (g : Int) = true := decide_eq_true ⟨by omega, by omega⟩
    have e : ∀ x : Int, hitR rows (g : Int) x i = decide (cell rows i g = x) := fun x => by unfold hitR; rw [hi, Bool.true_and, Int.toNat_natCast]
    unfold cnt
    rw [e, e, e]
    rcases (by omega : cell rows i g = 0 ∨ cell rows i g = 1 ∨ cell rows i g = 2) with hc | hc | hc <;> rw [hc] <;> simp <;> omega
theorem longS_pos {rows : List (List Int)} {g x : Int} : ∀ i, ∀ y ∈ (longS rows g x i).1, 0 ≤ y
  | 0, y, h => by cases h
  | i + 1, y, h => by
    unfold longS at h
    split at h
    · exact longS_pos i y h
    · rcases List.mem_append.1 h with h | h
      · exact longS_pos i y h
      · split at h
        · have := List.mem_singleton.1 h
          omega
        · cases h
theorem long_pos {rows : List (List Int)} {g x : Int} {y : Int} (h : y ∈ longB rows g x) : 0 ≤ y := by
  unfold longB flush at h
  rcases List.mem_append.1 h with h | h
  · exact longS_pos _ y h
  · split at h
    · have := List.mem_singleton.1 h
      omega
    · cases h
theorem sumI_pos {l : List Int} (h : ∀ y ∈ l, 0 ≤ y) : 0 ≤ sumI l := by
  induction l with
  | nil => exact Int.le_refl _
  | cons a l ih =>
    have := h a (by simp)
    have := ih fun y hy => h y (by simp [hy])
    simp only [sumI]
    omega
theorem sumI_take {l : List Int} (h : ∀ y ∈ l, 0 ≤ y) (i : Nat) : 0 ≤ sumI (l.take i) ∧ sumI (l.take i) ≤ sumI l := by
  have h1 := sumI_pos (l := l.take i) fun y hy => h y (List.mem_of_mem_take hy)
  have h2 := sumI_pos (l := l.drop i) fun y hy => h y (List.mem_of_mem_drop hy)
  have h3 := sumI_app (l.take i) (l.drop i)
  rw [List.take_append_drop] at h3
  omega
theorem sumI_one {l : List Int} {i : Nat} (h : i < l.length) : sumI (l.take (i + 1)) = sumI (l.take i) + l.getD i 0 := by
  have e : l.take (i + 1) = l.take i ++ [l.getD i 0] := by
    rw [List.take_succ_eq_append_getElem h, List.getD_eq_getElem?_getD, List.getElem?_eq_getElem h]; rfl
  rw [e, sumI_app]
  simp only [sumI]
  omega
/-- A run that ended, and how it began. -/
def Ended (rows : List (List Int)) (g x : Int) (i : Nat) (first : Bool) (y : Int) : Prop := ∃ s e : Nat, s < e ∧ e < i ∧ y = (e : Int) - (s : Int) ∧ (∀ k, s ≤ k → k < e → hitR rows g x k = true) ∧ hitR rows g x e = false ∧ (s = 0 ∨ hitR rows g x (s - 1) = false) ∧ (first = false → 0 < s)
theorem longS_ended {rows : List (List Int)} {g x : Int} : ∀ i, (longS rows g x i).2 ≤ i ∧ (∀ k, i - (longS rows g x i).2 ≤ k → k < i → hitR rows g x k = true) ∧ (i - (longS rows g x i).2 = 0 ∨ hitR rows g x (i - (longS rows g x i).2 - 1) = false) ∧ ((longS rows g x i).1 ≠ [] → 0 < i - (longS rows g x i).2) ∧
    ∀ j y, (longS rows g x i).1[j]? = some y → Ended rows g x i (decide (j = 0)) y
  | 0 => ⟨Nat.le_refl 0, fun k _ hk => by omega, .inl rfl, fun h => absurd rfl h, fun j y h => by simp [longS] at h⟩
  | i + 1 => by
    obtain ⟨h1, h2, h3, h4, h5⟩ := longS_ended (rows := rows) (g := g) (x := x) i
    have up : ∀ {b y}, Ended rows g x i b y → Ended rows g x (i + 1) b y := fun ⟨s, e, a1, a2, a3⟩ => ⟨s, e, a1, by omega, a3⟩
    cases hh : hitR rows g x i with
    | true =>
      have e : longS rows g x (i + 1) = ((longS rows g x i).1, (longS rows g x i).2 + 1) := by
        show (if hitR rows g x i = true then _ else _) = _
        rw [if_pos hh]
      rw [e]
      simp only
      rw [show i + 1 - ((longS rows g x i).2 + 1) = i - (longS rows g x i).2 by omega]
      refine ⟨by omega, fun k hk hk' => ?_, h3, h4, fun j y hj => up (h5 j y hj)⟩
      by_cases hki : k = i
      · rw [hki]; exact hh
      · exact h2 k hk (by omega)
    | false =>
      have e : longS rows g x (i + 1) = ((longS rows g x i).1 ++ (if 0 < (longS rows g x i).2 then [((longS rows g x i).2 : Int)] else []), 0) := by
        show (if hitR rows g x i = true then _ else _) = _
        rw [if_neg (by rw [hh]; decide)]
      rw [e]
      simp only
      refine ⟨Nat.zero_le _, fun k hk hk' => by omega, .inr (by rw [show i + 1 - 0 - 1 = i by omega]; exact hh), fun _ => by omega, fun j y hj => ?_⟩
      rw [List.getElem?_append] at hj
      split at hj
      · exact up (h5 j y hj)
      · rename_i hlt
        by_cases h0 : 0 < (longS rows g x i).2
        · rw [if_pos h0] at hj
          have hj0 : j - (longS rows g x i).1.length = 0 := by
            refine Classical.byContradiction fun hn => ?_
            rw [List.getElem?_eq_none (by simp; omega)] at hj
            cases hj
          rw [hj0] at hj
          have hy : y = ((longS rows g x i).2 : Int) := by simpa using hj.symm
          refine ⟨i - (longS rows g x i).2, i, by omega, by omega, by omega, h2, hh, h3, fun hb => h4 fun hnil => ?_⟩
          rw [hnil] at hj0 hlt
          have hb := of_decide_eq_false hb
          simp at hj0 hlt
          omega
        · rw [if_neg h0] at hj
          simp at hj
theorem long_ended {rows : List (List Int)} {g x : Int} {j : Nat} {y : Int} (h : (longB rows g x)[j]? = some y) (h0 : 0 < j) (hl : j + 1 < (longB rows g x).length) : Ended rows g x rows.length false y := by
  have hb : longB rows g x = (longS rows g x rows.length).1 ++ (if 0 < (longS rows g x rows.length).2 then [((longS rows g x rows.length).2 : Int)] else []) := rfl
  have hle : (if 0 < (longS rows g x rows.length).2 then [((longS rows g x rows.length).2 : Int)] else []).length ≤ 1 := by split <;> simp
  rw [hb, List.length_append] at hl
  rw [hb, List.getElem?_append_left (by omega)] at h
  have := (longS_ended (rows := rows) (g := g) (x := x) rows.length).2.2.2.2 j y h
  rwa [decide_eq_false (by omega)] at this
theorem beg_eq {rows : List (List Int)} {g s : Nat} : ∀ e, s ≤ e → (∀ k, s ≤ k → k ≤ e → cell rows k g = cell rows s g) → (s = 0 ∨ cell rows (s - 1) g ≠ cell rows s g) → beg rows e g = s
  | 0, h, _, _ => by rw [Nat.le_zero.1 h]; rfl
  | e + 1, h, ha, hs => by
    unfold beg
    by_cases hse : s = e + 1
    · subst hse
      rw [Nat.add_sub_cancel] at hs
      rw [if_neg (hs.elim (fun h => by cases h) id)]
    · rw [if_pos (by rw [ha e (by omega) (by omega), ha (e + 1) (by omega) (Nat.le_refl _)]), beg_eq e (by omega) (fun k h1 h2 => ha k h1 (by omega)) hs]
theorem rng_cell {p : S25} {rows : List (List Int)} {i : Nat} (h : RowOk p rows i) {g : Nat} (hg : g < p.f0.length) : 0 ≤ cell rows i g ∧ cell rows i g < 3 := by
  refine may_rng h.may _ ?_
  have hl := h.len
  unfold cell
  rw [List.getD_eq_getElem?_getD (l := rows.getD i []), List.getElem?_eq_getElem (by rw [hl]; exact hg)]
  exact List.getElem_mem _
theorem hit_cell {rows : List (List Int)} {g : Nat} {x : Int} {i : Nat} (h : g < (rows.getD i []).length) : hitR rows (g : Int) x i = decide (cell rows i g = x) := by
  have hi : inR rows i (g : Int) = true := decide_eq_true ⟨by omega, by omega⟩
  unfold hitR
  rw [hi, Bool.true_and, Int.toNat_natCast]
/-- A run that is neither the first one nor the last one. -/
theorem ended_group {p : S25} {rows : List (List Int)} (hok : ∀ i, i < rows.length → RowOk p rows i) {g : Nat} (hg : g < p.f0.length) {x y : Int} (h : Ended rows (g : Int) x rows.length false y) : (x = 2 → leastB p g ≤ y) ∧ (x = 1 → y = p.f2) := by
  obtain ⟨s, e, h1, h2, h3, h4, h5, h6, h7⟩ := h
  have hs := h7 rfl
  have hc : ∀ i, i < rows.length → ∀ z, hitR rows (g : Int) z i = decide (cell rows i g = z) := fun i hi z => hit_cell (by rw [(hok i hi).len]; exact hg)
  have hx : ∀ k, s ≤ k → k < e → cell rows k g = x := fun k hk hk' => by have := h4 k hk hk'; rw [hc k (by omega)] at this; exact of_decide_eq_true this
  have he : cell rows e g ≠ x := by rw [hc e h2] at h5; exact of_decide_eq_false h5
  have hb : beg rows (e - 1) g = s := beg_eq (e - 1) (by omega) (fun k hk hk' => by rw [hx k hk (by omega), hx s (Nat.le_refl s) h1]) (.inr (by
    rcases h6 with h6 | h6
    · omega
    · rw [hc (s - 1) (by omega)] at h6
      rw [hx s (Nat.le_refl s) h1]
      exact of_decide_eq_false h6))
  have hx1 := hx (e - 1) (by omega) (by omega)
  have hG := (hok e h2).ch (by omega) g hg (by rw [hx1]; exact he)
  unfold groupB at hG
  rw [hb, hx1] at hG
  split at hG
  · cases hG
  · split at hG
    · cases hG
    · rename_i h8
      split at hG
      · cases hG
      · rename_i h9
        refine ⟨fun hx2 => Classical.byContradiction fun hn => h8 ⟨hx2, hs, ?_⟩, fun hx2 => Classical.byContradiction fun hn => h9 ⟨hx2, hs, ?_⟩⟩
        · omega
        · omega
/-! ### Rows without a flaw -/
theorem lit_row {l : List Int} {j : Nat} (hj : j < l.length) : (litTo l l.length).testBit j = true ↔ l.getD j 0 ≠ 0 := by
  rw [lit_bit]
  exact ⟨fun h => h.2, fun h => ⟨hj, h⟩⟩
/-- No two that conflict are both not red. -/
theorem ok_free {p : S25} (hf : fitP p = true) {rows : List (List Int)} {i : Nat} (h : RowOk p rows i) {g k : Nat} (hg : g < p.f0.length) (hk : k < p.f0.length) (hb : (row p.f0 g).testBit k = true) : cell rows i g = 0 ∨ cell rows i k = 0 := by
  have hF := fits_of hf
  have hc := h.free
  have hl := h.len
  unfold clashP clashB at hc
  rw [(fits_iff _ _ _ _ _).2 hF, decide_eq_true hl, h.may, Bool.true_and, Bool.true_and, Bool.true_and, Bool.not_eq_false'] at hc
  have hN := (free_iff hF.may (by rw [← hl]; exact lit_lt _ _)).1 hc
  refine Classical.byContradiction fun hn => ?_
  rw [not_or] at hn
  have := hN g k hg hk ((lit_row (by omega)).2 hn.1) ((lit_row (by omega)).2 hn.2)
  rw [hb] at this
  cases this
theorem sym_bit {m : List Int} (h : MayOk m) {i k : Nat} (hi : i < m.length) (hk : k < m.length) (hb : (row m i).testBit k = true) : (row m k).testBit i = true := by
  have := (h.sym i k hi hk)
  rw [← this]; exact hb
/-- Behind the one the other one is red for Red rows at least. -/
theorem ok_betw {p : S25} (hf : fitP p = true) {rows : List (List Int)} (hok : ∀ i, i < rows.length → RowOk p rows i) {g h : Nat} (hg : g < p.f0.length) (hh : h < p.f0.length) (hb : (row p.f0 g).testBit h = true) {i k : Nat} (hB : Betw p rows g h i k) : p.f3 ≤ (k : Int) - (i : Int) - 1 := by
  obtain ⟨h1, h2, h3, h4, h5⟩ := hB
  have hF := fits_of hf
  have on : ∀ j x, j < rows.length → (onB p rows j x = true ↔ cell rows j x ≠ 0) := fun j x hj => by
    unfold onB
    rw [decide_eq_true (hok j hj).len, Bool.true_and, decide_eq_true_eq]
  have hi := (on i g (by omega)).1 h3
  have hk := (on k h h2).1 h4
  have hpre : cell rows (k - 1) h = 0 := by
    by_cases hik : k - 1 = i
    · rw [hik]
      exact (ok_free hf (hok i (by omega)) hg hh hb).resolve_left hi
    · have := (h5 (k - 1) (by omega) (by omega)).2
      refine Classical.byContradiction fun hn => ?_
      rw [(on (k - 1) h (by omega)).2 hn] at this
      cases this
  have hG := (hok k h2).ch (by omega) h hh (by rw [hpre]; exact hk)
  unfold groupB at hG
  rw [hpre] at hG
  split at hG
  · cases hG
  · rename_i h6
    rw [if_neg (by omega), if_neg (by omega)] at hG
    have h7 : cell rows k h = 2 := (Classical.not_not.1 h6).symm
    split at hG
    · cases hG
    · rename_i h8
      refine Classical.byContradiction fun hn => h8 ⟨h7, soon_iff.2 ⟨i, g, h1, by omega, hg, sym_bit hF.may hg hh hb, hi⟩⟩
end Go.Proofs.YtpciieagafddcaaDoor.PY
