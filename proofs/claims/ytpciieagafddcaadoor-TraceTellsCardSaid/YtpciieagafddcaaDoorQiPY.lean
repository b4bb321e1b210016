/- Plain laws on rows of lamps: how long runs are; rows without a flaw (own text). -/
import Derived.Test.YtpciieagafddcaaDoorQiPX
namespace Go.Proofs.YtpciieagafddcaaDoor.PY
open Go.RowKit Go.Proofs.YtpciieagafddcaaDoorW.PrintWords Go.Proofs.YtpciieagafddcaaDoorW.PrintLast Go.Proofs.YtpciieagafddcaaDoorW.PrintMore Go.Proofs.YtpciieagafddcaaDoor.F Go.Proofs.YtpciieagafddcaaDoor.PG Go.Proofs.YtpciieagafddcaaDoor.PM Go.Proofs.YtpciieagafddcaaDoor.PP Go.Proofs.YtpciieagafddcaaDoor.PQ Go.Proofs.YtpciieagafddcaaDoor.PL Go.Proofs.YtpciieagafddcaaDoor.PX
set_option linter.unusedSimpArgs false
/-! ### Runs -/
def inR (rows : List (List Int)) (i : Nat) (g : Int) : Bool := decide (0 ≤ g ∧ g < ((rows.getD i []).length : Int))
def shows (rows : List (List Int)) (i : Nat) (g : Int) : Int := if inR rows i g = true then cell rows i g.toNat else -1
def hitR (rows : List (List Int)) (g x : Int) (i : Nat) : Bool := inR rows i g && decide (cell rows i g.toNat = x)
def longS (rows : List (List Int)) (g x : Int) : Nat → List Int × Nat
  | 0 => ([], 0)
  | i + 1 => if hitR rows g x i = true then ((longS rows g x i).1, (longS rows g x i).2 + 1) else ((longS rows g x i).1 ++ (if 0 < (longS rows g x i).2 then [((longS rows g x i).2 : Int)] else []), 0)
def flush (s : List Int × Nat) : List Int := s.1 ++ (if 0 < s.2 then [(s.2 : Int)] else [])
/-- How long the runs are. -/
def longB (rows : List (List Int)) (g x : Int) : List Int := flush (longS rows g x rows.length)
def same (rows : List (List Int)) (g : Int) (i j : Nat) : Prop := shows rows i g = shows rows j g ∧ inR rows i g = inR rows j g
structure IsRun (rows : List (List Int)) (g : Int) (i n : Nat) : Prop where
  pos : 0 < n
  le : i + n ≤ rows.length
  all : ∀ k, k < n → same rows g (i + k) i
  stop : i + n = rows.length ∨ ¬ same rows g (i + n) i
def Runs (rows : List (List Int)) (g : Int) : Nat → List (Int × Nat × Nat) → Nat → Prop
  | i, [], j => i = j
  | i, r :: l, j => r.2.1 = i ∧ r.1 = shows rows i g ∧ IsRun rows g i r.2.2 ∧ Runs rows g (i + r.2.2) l j
theorem Runs.snoc {rows : List (List Int)} {g : Int} : ∀ {l : List (Int × Nat × Nat)} {i j n : Nat}, Runs rows g i l j → IsRun rows g j n → Runs rows g i (l ++ [(shows rows j g, j, n)]) (j + n)
  | [], i, j, n, h, hr => by
    have h : i = j := h
    subst h
    exact ⟨rfl, rfl, hr, rfl⟩
  | r :: l, i, j, n, h, hr => ⟨h.1, h.2.1, h.2.2.1, Runs.snoc h.2.2.2 hr⟩
theorem Runs.last {rows : List (List Int)} {g : Int} : ∀ {l : List (Int × Nat × Nat)} {i j : Nat} {r : Int × Nat × Nat}, Runs rows g i (l ++ [r]) j → Runs rows g i l r.2.1 ∧ r.1 = shows rows r.2.1 g ∧ IsRun rows g r.2.1 r.2.2 ∧ j = r.2.1 + r.2.2
  | [], i, j, r, h => by
    obtain ⟨h1, h2, h3, h4⟩ := h
    subst h1
    have h4 : r.2.1 + r.2.2 = j := h4
    exact ⟨rfl, h2, h3, h4.symm⟩
  | s :: l, i, j, r, h => by
    obtain ⟨h1, h2, h3, h4⟩ := h
    obtain ⟨h5, h6⟩ := Runs.last h4
    exact ⟨⟨h1, h2, h3, h5⟩, h6⟩
/-- At a run's end something else begins. -/
theorem Runs.edge {rows : List (List Int)} {g : Int} {l : List (Int × Nat × Nat)} {j : Nat} (h : Runs rows g 0 l j) (hj : j < rows.length) : j = 0 ∨ ¬ same rows g (j - 1) j := by
  rcases List.eq_nil_or_concat l with rfl | ⟨l', r, rfl⟩
  · exact .inl (Eq.symm h)
  · rw [List.concat_eq_append] at h
    obtain ⟨-, -, hr, rfl⟩ := Runs.last h
    rcases hr.stop with hs | hs
    · omega
    · have hp := hr.pos
      have h1 := hr.all (r.2.2 - 1) (by omega)
      rw [show r.2.1 + (r.2.2 - 1) = r.2.1 + r.2.2 - 1 by omega] at h1
      exact .inr fun h2 => hs ⟨h2.1.symm.trans h1.1, h2.2.symm.trans h1.2⟩
theorem same_hit {rows : List (List Int)} {g x : Int} {i j : Nat} (h : same rows g i j) : hitR rows g x i = hitR rows g x j := by
  obtain ⟨h1, h2⟩ := h
  unfold hitR
  unfold shows at h1
  rw [← h2] at h1 ⊢
  cases hb : inR rows i g with
  | false => rfl
  | true => rw [hb, if_pos rfl, if_pos rfl] at h1; rw [h1]
theorem hit_same {rows : List (List Int)} {g x : Int} {i j : Nat} (h : hitR rows g x i = true) (h' : hitR rows g x j = true) : same rows g i j := by
  unfold hitR at h h'
  simp only [Bool.and_eq_true, decide_eq_true_eq] at h h'
  exact ⟨by unfold shows; rw [h.1, h'.1, if_pos rfl, if_pos rfl, h.2, h'.2], by rw [h.1, h'.1]⟩
theorem longS_succ (rows : List (List Int)) (g x : Int) (i : Nat) : longS rows g x (i + 1) = if hitR rows g x i = true then ((longS rows g x i).1, (longS rows g x i).2 + 1) else ((longS rows g x i).1 ++ (if 0 < (longS rows g x i).2 then [((longS rows g x i).2 : Int)] else []), 0) := rfl
theorem longS_hits {rows : List (List Int)} {g x : Int} {i : Nat} : ∀ n, (∀ k, k < n → hitR rows g x (i + k) = true) → longS rows g x (i + n) = ((longS rows g x i).1, (longS rows g x i).2 + n)
  | 0, _ => rfl
  | n + 1, h => by
    rw [show i + (n + 1) = (i + n) + 1 by omega, longS_succ, if_pos (h n (by omega)), longS_hits n fun k hk => h k (by omega)]
    rfl
theorem longS_miss {rows : List (List Int)} {g x : Int} {i : Nat} : ∀ n, (∀ k, k < n → hitR rows g x (i + k) = false) → flush (longS rows g x (i + n)) = flush (longS rows g x i)
  | 0, _ => rfl
  | n + 1, h => by
    rw [show i + (n + 1) = (i + n) + 1 by omega]
    have e : longS rows g x (i + n + 1) = (flush (longS rows g x (i + n)), 0) := by
      show (if hitR rows g x (i + n) = true then _ else _) = _
      rw [if_neg (by rw [h n (by omega)]; decide)]
      rfl
    rw [e, ← longS_miss n fun k hk => h k (by omega)]
    unfold flush
    simp
theorem longS_zero {rows : List (List Int)} {g x : Int} {j : Nat} (h : j = 0 ∨ hitR rows g x (j - 1) = false) : (longS rows g x j).2 = 0 := by
  cases j with
  | zero => rfl
  | succ j =>
    have h : hitR rows g x j = false := h.elim (fun h => by cases h) id
    show (if hitR rows g x j = true then _ else _ : List Int × Nat).2 = 0
    rw [if_neg (by rw [h]; decide)]
/-- One run more. -/
theorem long_run {rows : List (List Int)} {g x : Int} {l : List (Int × Nat × Nat)} {j n : Nat} (h : Runs rows g 0 l j) (hr : IsRun rows g j n) :
    flush (longS rows g x (j + n)) = if hitR rows g x j = true then flush (longS rows g x j) ++ [(n : Int)] else flush (longS rows g x j) := by
  have hp := hr.pos
  have hl := hr.le
  have hall : ∀ k, k < n → hitR rows g x (j + k) = hitR rows g x j := fun k hk => same_hit (hr.all k hk)
  cases hh : hitR rows g x j with
  | false =>
    rw [if_neg (by decide)]
    exact longS_miss n fun k hk => (hall k hk).trans hh
  | true =>
    rw [if_pos rfl, longS_hits n fun k hk => (hall k hk).trans hh]
    have h0 : (longS rows g x j).2 = 0 := longS_zero (by
      rcases h.edge (by omega) with h1 | h1
      · exact .inl h1
      · refine .inr ?_
        cases hb : hitR rows g x (j - 1) with
        | false => rfl
        | true => exact absurd (hit_same hb hh) h1)
    unfold flush
    simp only [h0, Nat.zero_add, Nat.lt_irrefl, if_false, if_pos hp, List.append_nil]
/-! ### All runs together -/
theorem rng_cell {p : S25} {rows : List (List Int)} {i : Nat} (h : RowOk p rows i) {g : Nat} (hg : g < p.f0.length) : 0 ≤ cell rows i g ∧ cell rows i g < 3 := by
  refine may_rng h.may _ ?_
  have hl := h.len
  unfold cell
  rw [List.getD_eq_getElem?_getD (l := rows.getD i []), List.getElem?_eq_getElem (by rw [hl]; exact hg)]
  exact List.getElem_mem _
/-! ### Rows without a flaw -/
end Go.Proofs.YtpciieagafddcaaDoor.PY
