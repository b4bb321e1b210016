/- Plain laws on rows of lamps: a row's flaw, the first flaw, runs, what stands between two groups (own text). -/
import Derived.Test.YtpciieagafddcaaDoorQiPL
namespace Go.Proofs.YtpciieagafddcaaDoor.PX
open Go.RowKit Go.Proofs.YtpciieagafddcaaDoorW.PrintWords Go.Proofs.YtpciieagafddcaaDoorW.PrintLast Go.Proofs.YtpciieagafddcaaDoorW.PrintMore Go.Proofs.YtpciieagafddcaaDoor.F Go.Proofs.YtpciieagafddcaaDoor.PG Go.Proofs.YtpciieagafddcaaDoor.PM Go.Proofs.YtpciieagafddcaaDoor.PP Go.Proofs.YtpciieagafddcaaDoor.PQ Go.Proofs.YtpciieagafddcaaDoor.PL
set_option linter.unusedSimpArgs false
def fitP (p : S25) : Bool := plan_fitB.f p.f0 p.f1 p.f2 p.f3 p.f4
def clashP (p : S25) (l : List Int) : Bool := clashB p.f0 p.f1 p.f2 p.f3 p.f4 l
theorem fits_of {p : S25} (h : fitP p = true) : Fits p.f0 p.f1 p.f2 p.f3 p.f4 := (fits_iff _ _ _ _ _).1 h
/-- What a group shows in a row. -/
def cell (rows : List (List Int)) (i g : Nat) : Int := (rows.getD i []).getD g 0
/-- Where the run begins that a group has in a row. -/
def beg (rows : List (List Int)) : Nat → Nat → Nat
  | 0, _ => 0
  | i + 1, g => if cell rows i g = cell rows (i + 1) g then beg rows i g else i + 1
theorem beg_le (rows : List (List Int)) : ∀ i g, beg rows i g ≤ i
  | 0, _ => Nat.le_refl 0
  | i + 1, g => by
    unfold beg
    have := beg_le rows i g
    split <;> omega
def leastF (g : Nat) (b : Int) (s : S87) : Int := if s.f0.toNat.testBit g = true then mn b s.f1 else b
def leastB (p : S25) (g : Nat) : Int := p.f1.foldl (leastF g) 200
def nextB (x : Int) : Int := if x = 0 then 2 else if x = 2 then 1 else 0
/-- Was a group that conflicts not red, in one of the rows ahead? -/
def soonB (p : S25) (rows : List (List Int)) (i g : Nat) : Bool :=
  (List.range i).any fun k => decide ((i : Int) ≤ (k : Int) + p.f3) && (List.range p.f0.length).any fun h => (row p.f0 g).testBit h && decide (cell rows k h ≠ 0)
theorem soon_iff {p : S25} {rows : List (List Int)} {i g : Nat} : soonB p rows i g = true ↔ ∃ k h : Nat, k < i ∧ (i : Int) ≤ (k : Int) + p.f3 ∧ h < p.f0.length ∧ (row p.f0 g).testBit h = true ∧ cell rows k h ≠ 0 := by
  unfold soonB
  simp only [List.any_eq_true, List.mem_range, Bool.and_eq_true, decide_eq_true_eq]
  constructor
  · rintro ⟨k, h1, h2, h, h3, h4, h5⟩
    exact ⟨k, h, h1, h2, h3, h4, h5⟩
  · rintro ⟨k, h, h1, h2, h3, h4, h5⟩
    exact ⟨k, h1, h2, h, h3, h4, h5⟩
theorem soon_no {p : S25} {rows : List (List Int)} {i g : Nat} (hn : ∀ k h : Nat, k < i → (i : Int) ≤ (k : Int) + p.f3 → h < p.f0.length → (row p.f0 g).testBit h = true → cell rows k h = 0) : soonB p rows i g = false := by
  cases hs : soonB p rows i g with
  | false => rfl
  | true =>
    obtain ⟨k, h, h1, h2, h3, h4, h5⟩ := soon_iff.1 hs
    exact absurd (hn k h h1 h2 h3 h4) h5
/-- Of a group that shows something else. -/
def groupB (p : S25) (rows : List (List Int)) (i g : Nat) : Int :=
  if nextB (cell rows (i - 1) g) ≠ cell rows i g then 3
  else if cell rows (i - 1) g = 2 ∧ 0 < beg rows (i - 1) g ∧ (i : Int) - (beg rows (i - 1) g : Int) < leastB p g then 4
  else if cell rows (i - 1) g = 1 ∧ 0 < beg rows (i - 1) g ∧ (i : Int) - (beg rows (i - 1) g : Int) ≠ p.f2 then 5
  else if cell rows i g = 2 ∧ soonB p rows i g = true then 6 else 0
def groupsB (p : S25) (rows : List (List Int)) (i : Nat) : Nat → Nat → Int × Int
  | 0, _ => (0, 0)
  | d + 1, g => if cell rows i g ≠ cell rows (i - 1) g ∧ groupB p rows i g ≠ 0 then (groupB p rows i g, (g : Int)) else groupsB p rows i d (g + 1)
/-- Of a row. -/
def rowB (p : S25) (rows : List (List Int)) (i : Nat) : Int × Int :=
  if ¬ (lamp_mayB.f (rows.getD i []) = true ∧ (rows.getD i []).length = p.f0.length) then (1, 0)
  else if clashP p (rows.getD i []) = true then (2, 0) else if i = 0 then (0, 0) else groupsB p rows i p.f0.length 0
def fromB (p : S25) (rows : List (List Int)) : Nat → Nat → Int × Int × Int
  | 0, _ => (0, 0, 0)
  | d + 1, i => if (rowB p rows i).1 ≠ 0 then ((rowB p rows i).1, (i : Int), (rowB p rows i).2) else fromB p rows d (i + 1)
/-- The first flaw. -/
def checkB (p : S25) (rows : List (List Int)) : Int × Int × Int := if fitP p = true then fromB p rows rows.length 0 else (1, 0, 0)
theorem groups_none {p : S25} {rows : List (List Int)} {i : Nat} : ∀ d g, (groupsB p rows i d g).1 = 0 ↔ ∀ h, g ≤ h → h < g + d → cell rows i h ≠ cell rows (i - 1) h → groupB p rows i h = 0
  | 0, g => ⟨fun _ h h1 h2 => by omega, fun _ => rfl⟩
  | d + 1, g => by
    unfold groupsB
    by_cases hc : cell rows i g ≠ cell rows (i - 1) g ∧ groupB p rows i g ≠ 0
    · rw [if_pos hc]
      exact ⟨fun h => absurd h hc.2, fun h => absurd (h g (Nat.le_refl g) (by omega) hc.1) hc.2⟩
    · rw [if_neg hc, groups_none d (g + 1)]
      constructor
      · intro h k h1 h2 h3
        by_cases hk : k = g
        · subst hk
          exact Classical.byContradiction fun hn => hc ⟨h3, hn⟩
        · exact h k (by omega) (by omega) h3
      · intro h k h1 h2 h3
        exact h k (by omega) (by omega) h3
/-- A row without a flaw. -/
structure RowOk (p : S25) (rows : List (List Int)) (i : Nat) : Prop where
  may : lamp_mayB.f (rows.getD i []) = true
  len : (rows.getD i []).length = p.f0.length
  free : clashP p (rows.getD i []) = false
  ch : 0 < i → ∀ g, g < p.f0.length → cell rows i g ≠ cell rows (i - 1) g → groupB p rows i g = 0
theorem row_ok {p : S25} {rows : List (List Int)} {i : Nat} : (rowB p rows i).1 = 0 ↔ RowOk p rows i := by
  unfold rowB
  constructor
  · intro h
    by_cases h1 : lamp_mayB.f (rows.getD i []) = true ∧ (rows.getD i []).length = p.f0.length
    · rw [if_neg (not_not_intro h1)] at h
      cases hc : clashP p (rows.getD i []) with
      | true => rw [hc] at h; cases h
      | false =>
        refine ⟨h1.1, h1.2, hc, fun hi g hg hch => ?_⟩
        rw [hc, if_neg (by decide), if_neg (by omega)] at h
        exact (groups_none _ _).1 h g (Nat.zero_le g) (by omega) hch
    · rw [if_pos h1] at h
      cases h
  · intro h
    rw [if_neg (not_not_intro ⟨h.may, h.len⟩), if_neg (by rw [h.free]; decide)]
    by_cases hi : i = 0
    · rw [if_pos hi]
    · rw [if_neg hi]
      exact (groups_none _ _).2 fun g _ hg hch => h.ch (by omega) g (by omega) hch
/-! ### Fewer rows -/
/-! ### What stands between two groups -/
def onB (p : S25) (rows : List (List Int)) (i g : Nat) : Bool := decide ((rows.getD i []).length = p.f0.length) && decide (cell rows i g ≠ 0)
/-- Between the one and the other one, x rows. -/
def Betw (p : S25) (rows : List (List Int)) (g h : Nat) (i k : Nat) : Prop := i < k ∧ k < rows.length ∧ onB p rows i g = true ∧ onB p rows k h = true ∧ ∀ j, i < j → j < k → onB p rows j g = false ∧ onB p rows j h = false
/-- The least one of what there is, of what begins ahead of a row; or none. -/
def LeastI (S : Nat → Nat → Prop) (r : Int) : Prop := (r = -1 ∧ ∀ i k, ¬ S i k) ∨ ((∃ i k, S i k ∧ i < k ∧ r = (k : Int) - (i : Int) - 1) ∧ ∀ i k, S i k → r ≤ (k : Int) - (i : Int) - 1)
theorem LeastI.eq {S : Nat → Nat → Prop} {r r' : Int} (h : LeastI S r) (h' : LeastI S r') : r = r' := by
  rcases h with ⟨rfl, h1⟩ | ⟨⟨i, k, h1, h2, h3⟩, h4⟩ <;> rcases h' with ⟨rfl, h1'⟩ | ⟨⟨i', k', h1', h2', h3'⟩, h4'⟩
  · rfl
  · exact absurd h1' (h1 _ _)
  · exact absurd h1 (h1' _ _)
  · have := h4 _ _ h1'
    have := h4' _ _ h1
    omega
theorem LeastI.congr {S S' : Nat → Nat → Prop} {r : Int} (h : LeastI S r) (hs : ∀ i k, S i k ↔ S' i k) : LeastI S' r := by
  have : S = S' := by funext i k; exact propext (hs i k)
  rw [← this]; exact h
/-- One more. -/
theorem LeastI.more {S S' : Nat → Nat → Prop} {r r' : Int} {i k : Nat} (h : LeastI S r) (hik : i < k) (hs : ∀ a b, S' a b ↔ (S a b ∨ (a = i ∧ b = k))) (hr : r' = if r = -1 ∨ (k : Int) - (i : Int) - 1 < r then (k : Int) - (i : Int) - 1 else r) : LeastI S' r' := by
  have hn : S' i k := (hs i k).2 (.inr ⟨rfl, rfl⟩)
  rcases h with ⟨rfl, h1⟩ | ⟨⟨a, b, h1, h2, h3⟩, h4⟩
  · rw [if_pos (.inl rfl)] at hr
    refine .inr ⟨⟨i, k, hn, hik, hr⟩, fun x y hxy => ?_⟩
    rcases (hs x y).1 hxy with hxy | ⟨rfl, rfl⟩
    · exact absurd hxy (h1 x y)
    · omega
  · by_cases hc : r = -1 ∨ (k : Int) - (i : Int) - 1 < r
    · rw [if_pos hc] at hr
      refine .inr ⟨⟨i, k, hn, hik, hr⟩, fun x y hxy => ?_⟩
      rcases (hs x y).1 hxy with hxy | ⟨rfl, rfl⟩
      · have := h4 x y hxy
        omega
      · omega
    · rw [if_neg hc] at hr
      subst hr
      refine .inr ⟨⟨a, b, (hs a b).2 (.inl h1), h2, h3⟩, fun x y hxy => ?_⟩
      rcases (hs x y).1 hxy with hxy | ⟨rfl, rfl⟩
      · exact h4 x y hxy
      · omega
theorem LeastI.ex {S : Nat → Nat → Prop} (hs : ∀ i k, S i k → i < k) : ∃ r, LeastI S r := by
  by_cases h : ∃ i k, S i k
  · have key : ∀ n : Nat, ∀ i k, S i k → k - i ≤ n → ∃ r, LeastI S r := by
      intro n
      induction n with
      | zero => intro i k h1 h2; have := hs i k h1; omega
      | succ n ih =>
        intro i k h1 h2
        by_cases hm : ∃ a b, S a b ∧ b - a ≤ n
        · obtain ⟨a, b, h3, h4⟩ := hm
          exact ih a b h3 h4
        · have hik := hs i k h1
          refine ⟨(k : Int) - (i : Int) - 1, .inr ⟨⟨i, k, h1, hik, rfl⟩, fun a b h3 => ?_⟩⟩
          have := hs a b h3
          have : ¬ b - a ≤ n := fun h4 => hm ⟨a, b, h3, h4⟩
          omega
    obtain ⟨i, k, h⟩ := h
    exact key _ i k h (Nat.le_refl _)
  · exact ⟨-1, .inl ⟨rfl, fun i k hx => h ⟨i, k, hx⟩⟩⟩
theorem betw_lt {p : S25} {rows : List (List Int)} {g h i k : Nat} (hb : Betw p rows g h i k) : i < k := hb.1
/-- What is told of two groups. -/
def ClearIs (p : S25) (rows : List (List Int)) (g h : Int) (r : Int) : Prop :=
  if fitP p = true ∧ 0 ≤ g ∧ 0 ≤ h ∧ g < (p.f0.length : Int) ∧ h < (p.f0.length : Int) then LeastI (Betw p rows g.toNat h.toNat) r else r = -1
theorem ClearIs.eq {p : S25} {rows : List (List Int)} {g h r r' : Int} (h1 : ClearIs p rows g h r) (h2 : ClearIs p rows g h r') : r = r' := by
  unfold ClearIs at h1 h2
  split at h1
  · rename_i hc
    rw [if_pos hc] at h2
    exact h1.eq h2
  · rename_i hc
    rw [if_neg hc] at h2
    rw [h1, h2]
theorem clear_ex (p : S25) (rows : List (List Int)) (g h : Int) : ∃ r, ClearIs p rows g h r := by
  unfold ClearIs
  split
  · exact LeastI.ex fun _ _ => betw_lt
  · exact ⟨-1, rfl⟩
/-- The row that was not red last, with nothing behind it. -/
def Open (p : S25) (rows : List (List Int)) (g h a i : Nat) : Prop := a < i ∧ onB p rows a g = true ∧ ∀ j, a < j → j < i → onB p rows j g = false ∧ onB p rows j h = false
def LastIs (p : S25) (rows : List (List Int)) (g h i : Nat) (x : Int) : Prop := (x = -1 ∧ ∀ a, ¬ Open p rows g h a i) ∨ ∃ a : Nat, x = (a : Int) ∧ Open p rows g h a i
abbrev SoFar (p : S25) (rows : List (List Int)) (g h i : Nat) (a b : Nat) : Prop := Betw p rows g h a b ∧ b < i
section
variable {p : S25} {rows : List (List Int)} {g h i : Nat} {x r : Int}
theorem Open.eq {a b : Nat} (h1 : Open p rows g h a i) (h2 : Open p rows g h b i) : a = b := by
  rcases Nat.lt_trichotomy a b with hab | hab | hab
  · have := (h1.2.2 b hab h2.1).1
    rw [h2.2.1] at this
    cases this
  · exact hab
  · have := (h2.2.2 a hab h1.1).1
    rw [h1.2.1] at this
    cases this
theorem last_g (hG : onB p rows i g = true) : LastIs p rows g h (i + 1) (i : Int) := .inr ⟨i, rfl, by omega, hG, fun j h1 h2 => by omega⟩
theorem last_h (hG : onB p rows i g = false) (hH : onB p rows i h = true) : LastIs p rows g h (i + 1) (-1) := .inl ⟨rfl, fun a ⟨h1, h2, h3⟩ => by
  by_cases hai : a = i
  · rw [hai, hG] at h2; cases h2
  · have := (h3 i (by omega) (by omega)).2
    rw [hH] at this; cases this⟩
theorem last_no (hG : onB p rows i g = false) (hH : onB p rows i h = false) (hl : LastIs p rows g h i x) : LastIs p rows g h (i + 1) x := by
  rcases hl with ⟨rfl, hn⟩ | ⟨a, rfl, h1, h2, h3⟩
  · refine .inl ⟨rfl, fun a ⟨h1, h2, h3⟩ => ?_⟩
    by_cases hai : a = i
    · rw [hai, hG] at h2; cases h2
    · exact hn a ⟨by omega, h2, fun j h4 h5 => h3 j h4 (by omega)⟩
  · refine .inr ⟨a, rfl, by omega, h2, fun j h4 h5 => ?_⟩
    by_cases hji : j = i
    · rw [hji]; exact ⟨hG, hH⟩
    · exact h3 j h4 (by omega)
theorem least_no (hr : LeastI (SoFar p rows g h i) r) (hH : onB p rows i h = false ∨ ∀ a, ¬ Open p rows g h a i) : LeastI (SoFar p rows g h (i + 1)) r := by
  refine hr.congr fun a b => ⟨fun ⟨h1, h2⟩ => ⟨h1, by omega⟩, fun ⟨h1, h2⟩ => ⟨h1, ?_⟩⟩
  by_cases hbi : b = i
  · obtain ⟨g1, g2, g3, g4, g5⟩ := h1
    rw [hbi] at g1 g4 g5
    rcases hH with hH | hH
    · rw [hH] at g4; cases g4
    · exact absurd ⟨g1, g3, g5⟩ (hH a)
  · omega
theorem least_yes {a : Nat} {r' : Int} (hi : i < rows.length) (hr : LeastI (SoFar p rows g h i) r) (hH : onB p rows i h = true) (ho : Open p rows g h a i) (hr' : r' = if r = -1 ∨ (i : Int) - (a : Int) - 1 < r then (i : Int) - (a : Int) - 1 else r) : LeastI (SoFar p rows g h (i + 1)) r' := by
  refine hr.more ho.1 (fun x y => ?_) hr'
  constructor
  · rintro ⟨h1, h2⟩
    by_cases hyi : y = i
    · refine .inr ⟨?_, hyi⟩
      obtain ⟨g1, g2, g3, g4, g5⟩ := h1
      rw [hyi] at g1 g4 g5
      exact Open.eq ⟨g1, g3, g5⟩ ho
    · exact .inl ⟨h1, by omega⟩
  · rintro (⟨h1, h2⟩ | ⟨rfl, rfl⟩)
    · exact ⟨h1, by omega⟩
    · exact ⟨⟨ho.1, hi, ho.2.1, hH, ho.2.2⟩, by omega⟩
theorem least_end (hr : LeastI (SoFar p rows g h rows.length) r) : LeastI (Betw p rows g h) r := hr.congr fun a b => ⟨fun h => h.1, fun h => ⟨h, h.2.1⟩⟩
theorem least_zero : LeastI (SoFar p rows g h 0) (-1) := .inl ⟨rfl, fun _ _ h => by have := h.2; omega⟩
theorem last_zero : LastIs p rows g h 0 (-1) := .inl ⟨rfl, fun _ h => by have := h.1; omega⟩
end
end Go.Proofs.YtpciieagafddcaaDoor.PX
