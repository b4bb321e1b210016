/- Plain laws on rows of lamps: a row's flaw, the first flaw, runs, what stands between two groups (own text). -/
import Derived.Test.YtpciieagafddcaaDoorQjPQ
import Derived.Test.YtpciieagafddcaaDoorQjEC
import Derived.Test.YtpciieagafddcaaDoorQjERB
import Derived.Test.YtpciieagafddcaaDoorQjETY
import Derived.Test.YtpciieagafddcaaDoorQjF7
namespace Go.Proofs.YtpciieagafddcaaDoor.PX
open Go.RowKit Go.Proofs.YtpciieagafddcaaDoorW.PrintWords Go.Proofs.YtpciieagafddcaaDoorW.PrintLast Go.Proofs.YtpciieagafddcaaDoorW.PrintMore Go.Proofs.YtpciieagafddcaaDoor.F Go.Proofs.YtpciieagafddcaaDoor.PG Go.Proofs.YtpciieagafddcaaDoor.PM Go.Proofs.YtpciieagafddcaaDoor.PP Go.Proofs.YtpciieagafddcaaDoor.PQ Go.Proofs.YtpciieagafddcaaDoor.PL
set_option linter.unusedSimpArgs false
def fitP (p : S25) : Bool := plan_fitB.f p.f0 p.f1 p.f2 p.f3 p.f4
def clashP (p : S25) (l : List Int) : Bool := clashB p.f0 p.f1 p.f2 p.f3 p.f4 l
theorem fits_of {p : S25} (h : fitP p = true) : Fits p.f0 p.f1 p.f2 p.f3 p.f4 := (fits_iff _ _ _ _ _).1 h
def cell (rows : List (List Int)) (i g : Nat) : Int := (rows.getD i []).getD g 0
def beg (rows : List (List Int)) : Nat → Nat → Nat
  | 0, _ => 0
  | i + 1, g => if cell rows i g = cell rows (i + 1) g then beg rows i g else i + 1
def leastF (g : Nat) (b : Int) (s : S87) : Int := if s.f0.toNat.testBit g = true then mn b s.f1 else b
def leastB (p : S25) (g : Nat) : Int := p.f1.foldl (leastF g) 200
def nextB (x : Int) : Int := if x = 0 then 2 else if x = 2 then 1 else 0
def soonB (p : S25) (rows : List (List Int)) (i g : Nat) : Bool :=
  (List.range i).any fun k => decide ((i : Int) ≤ (k : Int) + p.f3) && (List.range p.f0.length).any fun h => (row p.f0 g).testBit h && decide (cell rows k h ≠ 0)
def groupB (p : S25) (rows : List (List Int)) (i g : Nat) : Int :=
  if nextB (cell rows (i - 1) g) ≠ cell rows i g then 3
  else if cell rows (i - 1) g = 2 ∧ 0 < beg rows (i - 1) g ∧ (i : Int) - (beg rows (i - 1) g : Int) < leastB p g then 4
  else if cell rows (i - 1) g = 1 ∧ 0 < beg rows (i - 1) g ∧ (i : Int) - (beg rows (i - 1) g : Int) ≠ p.f2 then 5
  else if cell rows i g = 2 ∧ soonB p rows i g = true then 6 else 0
def groupsB (p : S25) (rows : List (List Int)) (i : Nat) : Nat → Nat → Int × Int
  | 0, _ => (0, 0)
  | d + 1, g => if cell rows i g ≠ cell rows (i - 1) g ∧ groupB p rows i g ≠ 0 then (groupB p rows i g, (g : Int)) else groupsB p rows i d (g + 1)
def rowB (p : S25) (rows : List (List Int)) (i : Nat) : Int × Int :=
  if ¬ (lamp_mayB.f (rows.getD i []) = true ∧ (rows.getD i []).length = p.f0.length) then (1, 0)
  else if clashP p (rows.getD i []) = true then (2, 0) else if i = 0 then (0, 0) else groupsB p rows i p.f0.length 0
def fromB (p : S25) (rows : List (List Int)) : Nat → Nat → Int × Int × Int
  | 0, _ => (0, 0, 0)
  | d + 1, i => if (rowB p rows i).1 ≠ 0 then ((rowB p rows i).1, (i : Int), (rowB p rows i).2) else fromB p rows d (i + 1)
def checkB (p : S25) (rows : List (List Int)) : Int × Int × Int := if fitP p = true then fromB p rows rows.length 0 else (1, 0, 0)
structure RowOk (p : S25) (rows : List (List Int)) (i : Nat) : Prop where
  may : lamp_mayB.f (rows.getD i []) = true
  len : (rows.getD i []).length = p.f0.length
  free : clashP p (rows.getD i []) = false
  ch : 0 < i → ∀ g, g < p.f0.length → cell rows i g ≠ cell rows (i - 1) g → groupB p rows i g = 0
def LeastI (S : Nat → Nat → Prop) (r : Int) : Prop := (r = -1 ∧ ∀ i k, ¬ S i k) ∨ ((∃ i k, S i k ∧ i < k ∧ r = (k : Int) - (i : Int) - 1) ∧ ∀ i k, S i k → r ≤ (k : Int) - (i : Int) - 1)
theorem LeastI.congr {S S' : Nat → Nat → Prop} {r : Int} (h : LeastI S r) (hs : ∀ i k, S i k ↔ S' i k) : LeastI S' r := by
  have : S = S' := by funext i k; exact propext (hs i k)
  rw [← this]; exact h
section
variable {p : S25} {rows : List (List Int)} {g h i : Nat} {x r : Int}
end
end Go.Proofs.YtpciieagafddcaaDoor.PX
/- Plain laws on rows of lamps: how long runs are; rows without a flaw (own text). -/
namespace Go.Proofs.YtpciieagafddcaaDoor.PY
open Go.RowKit Go.Proofs.YtpciieagafddcaaDoorW.PrintWords Go.Proofs.YtpciieagafddcaaDoorW.PrintLast Go.Proofs.YtpciieagafddcaaDoorW.PrintMore Go.Proofs.YtpciieagafddcaaDoor.F Go.Proofs.YtpciieagafddcaaDoor.PG Go.Proofs.YtpciieagafddcaaDoor.PM Go.Proofs.YtpciieagafddcaaDoor.PP Go.Proofs.YtpciieagafddcaaDoor.PQ Go.Proofs.YtpciieagafddcaaDoor.PL Go.Proofs.YtpciieagafddcaaDoor.PX
set_option linter.unusedSimpArgs false
def inR (rows : List (List Int)) (i : Nat) (g : Int) : Bool := decide (0 ≤ g ∧ g < ((rows.getD i []).length : Int))
def shows (rows : List (List Int)) (i : Nat) (g : Int) : Int := if inR rows i g = true then cell rows i g.toNat else -1
def same (rows : List (List Int)) (g : Int) (i j : Nat) : Prop := shows rows i g = shows rows j g ∧ inR rows i g = inR rows j g
structure IsRun (rows : List (List Int)) (g : Int) (i n : Nat) : Prop where
  pos : 0 < n
  le : i + n ≤ rows.length
  all : ∀ k, k < n → same rows g (i + k) i
  stop : i + n = rows.length ∨ ¬ same rows g (i + n) i
def Runs (rows : List (List Int)) (g : Int) : Nat → List (Int × Nat × Nat) → Nat → Prop
  | i, [], j => i = j
  | i, r :: l, j => r.2.1 = i ∧ r.1 = shows rows i g ∧ IsRun rows g i r.2.2 ∧ Runs rows g (i + r.2.2) l j
theorem Runs.snoc {rows : List (List Int)} {g : Int} : ∀ {l : List (Int × Nat × Nat)} {i j n : Nat}, Runs rows g i l j → IsRun rows g j n → Runs rows g i (l ++ [(shows rows j g, j, n)]) (j + n)
  | [], i, j, n, h, hr => by
    have h : i = j := h
    subst h
    exact ⟨rfl, rfl, hr, rfl⟩
  | r :: l, i, j, n, h, hr => ⟨h.1, h.2.1, h.2.2.1, Runs.snoc h.2.2.2 hr⟩
theorem Runs.last {rows : List (List Int)} {g : Int} : ∀ {l : List (Int × Nat × Nat)} {i j : Nat} {r : Int × Nat × Nat}, Runs rows g i (l ++ [r]) j → Runs rows g i l r.2.1 ∧ r.1 = shows rows r.2.1 g ∧ IsRun rows g r.2.1 r.2.2 ∧ j = r.2.1 + r.2.2
  | [], i, j, r, h => by
    obtain ⟨h1, h2, h3, h4⟩ := h
    subst h1
    have h4 : r.2.1 + r.2.2 = j := h4
    exact ⟨rfl, h2, h3, h4.symm⟩
  | s :: l, i, j, r, h => by
    obtain ⟨h1, h2, h3, h4⟩ := h
    obtain ⟨h5, h6⟩ := Runs.last h4
    exact ⟨⟨h1, h2, h3, h5⟩, h6⟩
end Go.Proofs.YtpciieagafddcaaDoor.PY
/- Rows of lamps that are looked at, walked by the engine (own text): the first flaw. -/
namespace Go.Proofs.YtpciieagafddcaaDoor.E
open Go Go.RowKit Go.Proofs Go.Proofs.YtpciieagafddcaaDoorW.PrintWords Go.Proofs.YtpciieagafddcaaDoorW.PrintLast Go.Proofs.YtpciieagafddcaaDoorW.PrintMore Go.Proofs.YtpciieagafddcaaDoor.F
set_option linter.unusedVariables false
set_option linter.unusedSimpArgs false
set_option maxRecDepth 100000
set_option maxHeartbeats 8000000
attribute [local irreducible] acode callR
namespace Tr
open St Rw
open PX (fitP clashP cell beg leastF leastB nextB soonB groupB groupsB rowB fromB checkB RowOk)
def fInts (v : List Int) : FV := .t (.one (cInts v))
theorem stage_rng {p : S25} (hF : PQ.Fits p.f0 p.f1 p.f2 p.f3 p.f4) {i : Nat} (hi : i < p.f1.length) : 0 ≤ (p.f1.getD i z87).f0 ∧ (p.f1.getD i z87).f0 < 256 := by
  obtain ⟨G, hG, hG2, -⟩ := PL.stage_set hF hi
  rw [PP.rd_stage _ hi] at hG
  rw [List.getD_eq_getElem?_getD, List.getElem?_eq_getElem hi]
  have := hF.may.p8
  show 0 ≤ (p.f1[i]).f0 ∧ (p.f1[i]).f0 < 256
  rw [hG]
  omega
section
variable {T : TT} {Γ : Nat → Option Spec} {ops : Array Oper} {nid i : Nat} {o : Oper} {l : List Oper} {fr : List (Nat × FV)} {hp : HP} {n0 N m : Nat} {acc : List Rec} {k : List Rec → AS → Prop}
theorem st_w (d : Nat) {xs : List FV} {fv fv' : FV} (hdst : o.dst = some d) (hd : dstOk o.dst N = true) (hg : gst ops fr o = some true) (hp0 : isPlain o = true) (hx : evs fr o.op.operands.toList = some xs) (he : ∀ K : FV → HP → Prop, Ex T o xs hp (nid + i) K = K fv []) (hw : fv = fv') (hb : ∀ K : FV → Prop, boolF fv' K = K fv') (h : next T Γ ops nid l (i + 1) ((d, fv') :: fr) hp n0 N m (recOf ops o fv' [] (addO (need o.op xs) []) :: acc) k) : next T Γ ops nid (o :: l) i fr hp n0 N m acc k := by
  subst hw
  exact st_v hd hg hp0 hx he hdst hb h
theorem st_wb (d : Nat) {xs : List FV} {b b' : Bool} (hdst : o.dst = some d) (hd : dstOk o.dst N = true) (hg : gst ops fr o = some true) (hp0 : isPlain o = true) (hx : evs fr o.op.operands.toList = some xs) (he : ∀ K : FV → HP → Prop, Ex T o xs hp (nid + i) K = K (vB b) []) (hw : b = b') (ht : b' = true → next T Γ ops nid l (i + 1) ((d, vB true) :: fr) hp n0 N m (recOf ops o (vB true) [] (addO (need o.op xs) []) :: acc) k) (hf : b' = false → next T Γ ops nid l (i + 1) ((d, vB false) :: fr) hp n0 N m (recOf ops o (vB false) [] (addO (need o.op xs) []) :: acc) k) : next T Γ ops nid (o :: l) i fr hp n0 N m acc k := by
  subst hw
  exact st_b hd hg hp0 hx he hdst ht hf
end
theorem vI_eq {a b : Int} (h : a = b) : vI .i64 a = fI b := by subst h; rfl
section
variable {p : S25} {rows : List (List Int)} {i g : Nat}
theorem g3 (h : nextB (cell rows (i - 1) g) ≠ cell rows i g) : groupB p rows i g = 3 := by
  unfold groupB
  rw [if_pos h]
theorem g4 (h : nextB (cell rows (i - 1) g) = cell rows i g) (h4 : cell rows (i - 1) g = 2 ∧ 0 < beg rows (i - 1) g ∧ (i : Int) - (beg rows (i - 1) g : Int) < leastB p g) : groupB p rows i g = 4 := by
  unfold groupB
  rw [if_neg (not_not_intro h), if_pos h4]
theorem g5 (h : nextB (cell rows (i - 1) g) = cell rows i g) (h5 : cell rows (i - 1) g = 1 ∧ 0 < beg rows (i - 1) g ∧ (i : Int) - (beg rows (i - 1) g : Int) ≠ p.f2) : groupB p rows i g = 5 := by
  unfold groupB
  rw [if_neg (not_not_intro h), if_neg (fun hx => by have := hx.1; have := h5.1; omega), if_pos h5]
theorem g6 (h : nextB (cell rows (i - 1) g) = cell rows i g) (h4 : ¬ (cell rows (i - 1) g = 2 ∧ 0 < beg rows (i - 1) g ∧ (i : Int) - (beg rows (i - 1) g : Int) < leastB p g)) (h5 : ¬ (cell rows (i - 1) g = 1 ∧ 0 < beg rows (i - 1) g ∧ (i : Int) - (beg rows (i - 1) g : Int) ≠ p.f2)) (h2 : cell rows i g = 2) (hs : soonB p rows i g = true) : groupB p rows i g = 6 := by
  unfold groupB
  rw [if_neg (not_not_intro h), if_neg h4, if_neg h5, if_pos ⟨h2, hs⟩]
theorem g0 (h : nextB (cell rows (i - 1) g) = cell rows i g) (h4 : ¬ (cell rows (i - 1) g = 2 ∧ 0 < beg rows (i - 1) g ∧ (i : Int) - (beg rows (i - 1) g : Int) < leastB p g)) (h5 : ¬ (cell rows (i - 1) g = 1 ∧ 0 < beg rows (i - 1) g ∧ (i : Int) - (beg rows (i - 1) g : Int) ≠ p.f2)) (h6 : ¬ (cell rows i g = 2 ∧ soonB p rows i g = true)) : groupB p rows i g = 0 := by
  unfold groupB
  rw [if_neg (not_not_intro h), if_neg h4, if_neg h5, if_neg h6]
end
structure LookOk (p : S25) (rows : List (List Int)) (i g : Nat) (F : Nat → Int) : Prop where
  fit : fitP p = true
  few : rows.length ≤ 1000
  lt : i < rows.length
  pos : 0 < i
  gl : g < p.f0.length
  len : ∀ k, k ≤ i → (rows.getD k []).length = p.f0.length
  was : 0 ≤ cell rows (i - 1) g ∧ cell rows (i - 1) g < 3
  from_ : F g = (beg rows (i - 1) g : Int)
end Tr
end Go.Proofs.YtpciieagafddcaaDoor.E
