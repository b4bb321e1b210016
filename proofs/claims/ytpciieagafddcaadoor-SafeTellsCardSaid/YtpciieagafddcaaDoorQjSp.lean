/- Plain words of this repo: what the program's functions compute, on numbers and lists alone. -/
import Derived.Lib.TrailingZeros
import Derived.Laws.Bits64b
import Derived.Test.YtpciieagafddcaaDoorQjV0
import Derived.Test.YtpciieagafddcaaDoorProg
import Derived.Below
import Derived.Deep.Draws
import Derived.Deep.AppendLies
import Derived.Maps.AppendAt
import Derived.OwnWalk
import Derived.Laws.BytesArg
import Derived.Laws.MakeOwn
import Derived.Laws.OwnMore
import Derived.Deep.OwnRows
import Derived.Tactics
import Derived.Lib.ConvBytes
import Derived.Laws.Slices
import Derived.WalkKit
import Derived.KernelRfl
import Derived.RowKit3
import Derived.Deep.LoopGhost
import Derived.Deep.QuietTactic
import Derived.BigQuiet
import Derived.WideLaws
import Derived.Deep.DeepCutAuto
import Derived.Deep.CutBlock
import Derived.Deep.RegionHeld3
import Derived.Laws.Rows
import Derived.Lib.AppendStr
import Derived.ArgAppend
import Derived.Laws.IdiomCopy
import Derived.OrdersHeld
import Derived.Laws.BitsLemmas
import Derived.RowKit
import Derived.Lib.Hide
namespace Go.Proofs.YtpciieagafddcaaDoor.Sp
def bitsOf (x : Nat) : List Int := ((List.range 8).filter (fun i : Nat => x.testBit i)).map (fun i : Nat => (i : Int))
def groupsOf (s : Int) : List Int := if 0 ≤ s ∧ s < 256 then bitsOf s.toNat else []
theorem bitsOf_zero : bitsOf 0 = [] := by decide
theorem bits_facts : ∀ x, x < 256 → x ≠ 0 → bitsOf x = (Lib.ctz 64 x : Int) :: bitsOf (x &&& (x - 1)) ∧ Lib.ctz 64 x < 8 ∧ x &&& (x - 1) < x := by decide +kernel
theorem bitsOf_step (x : Nat) (hx : x < 256) (h0 : x ≠ 0) : bitsOf x = (Lib.ctz 64 x : Int) :: bitsOf (x &&& (x - 1)) ∧ Lib.ctz 64 x < 8 := ⟨(bits_facts x hx h0).1, (bits_facts x hx h0).2.1⟩
theorem low_lt (x : Nat) (hx : x < 256) (h0 : x ≠ 0) : x &&& (x - 1) < x := (bits_facts x hx h0).2.2
def inB (x n : Int) : Bool := decide (0 ≤ x ∧ x < 2 ^ n.toNat)
def bitAt (x i : Int) : Bool := x.toNat.testBit i.toNat
theorem bit_facts : ∀ r : Nat, r < 256 → ∀ k : Nat, k < 8 → (bits .and .i64 ((r : Int) / 2 ^ k) 1 == 0) = !(Nat.testBit r k) := by decide +kernel
theorem bit_eq {r : Int} {k : Nat} (h0 : 0 ≤ r) (h1 : r < 256) (hk : k < 8) : (bits .and .i64 (r / 2 ^ k) 1 == 0) = !(bitAt r (k : Int)) := by
  obtain ⟨m, rfl⟩ := Int.eq_ofNat_of_zero_le h0
  rw [bit_facts m (by omega) k hk]
  simp [bitAt]
theorem inB_256 {x : Int} {n : Nat} (hn : n ≤ 8) (h : inB x (n : Int) = true) : 0 ≤ x ∧ x < 256 := by
  have h := of_decide_eq_true h
  rw [Int.toNat_natCast] at h
  refine ⟨h.1, Int.lt_of_lt_of_le h.2 ?_⟩
  rcases (by omega : n = 0 ∨ n = 1 ∨ n = 2 ∨ n = 3 ∨ n = 4 ∨ n = 5 ∨ n = 6 ∨ n = 7 ∨ n = 8) with rfl | rfl | rfl | rfl | rfl | rfl | rfl | rfl | rfl <;> decide
def rowBit (m : List Int) (i : Nat) (k : Int) : Bool := k != (i : Int) && bitAt (m.getD k.toNat 0) (i : Int)
def mayRow (m : List Int) (i : Nat) : Bool := (groupsOf (m.getD i 0)).all (rowBit m i)
def may (m : List Int) : Bool := decide (1 ≤ m.length ∧ m.length ≤ 8) && !(m.any fun x => !inB x (m.length : Int)) && (List.range m.length).all (mayRow m)
theorem may_len {m : List Int} (h : may m = true) : 1 ≤ m.length ∧ m.length ≤ 8 := by
  simp only [may, Bool.and_eq_true, decide_eq_true_eq] at h
  exact h.1.1
theorem may_rows {m : List Int} (h : may m = true) : ∀ x ∈ m, inB x (m.length : Int) = true := by
  simp only [may, Bool.and_eq_true, Bool.not_eq_true', List.any_eq_false] at h
  intro x hx
  simpa using h.1.2 x hx
def orAll (m : List Int) (ks : List Int) : Int := ks.foldl (fun o k => bits .or .i64 o (m.getD k.toNat 0)) 0
theorem orAll_snoc (m ks : List Int) (k : Int) : orAll m (ks ++ [k]) = bits .or .i64 (orAll m ks) (m.getD k.toNat 0) := by simp [orAll]
def against (m : List Int) (set : Int) : Int := if may m && inB set (m.length : Int) then orAll m (groupsOf set) else -1
theorem mem_bitsOf {x : Nat} {y : Int} (h : y ∈ bitsOf x) : 0 ≤ y ∧ y < 8 ∧ x.testBit y.toNat = true := by
  unfold bitsOf at h
  simp only [List.mem_map, List.mem_filter, List.mem_range] at h
  obtain ⟨i, ⟨h1, h2⟩, rfl⟩ := h
  exact ⟨by omega, by omega, by simpa using h2⟩
theorem mem_groupsOf {x y : Int} (h : y ∈ groupsOf x) : 0 ≤ x ∧ x < 256 ∧ 0 ≤ y ∧ y < 8 ∧ x.toNat.testBit y.toNat = true := by
  unfold groupsOf at h
  split at h
  · exact ⟨by omega, by omega, mem_bitsOf h⟩
  · cases h
theorem groupsOf_len (s : Int) : (groupsOf s).length ≤ 8 := by
  unfold groupsOf
  split
  · unfold bitsOf
    rw [List.length_map]
    exact Nat.le_trans (List.length_filter_le _ _) (by simp)
  · simp
theorem groupsOf_lt {x y : Int} {n : Nat} (hx : inB x (n : Int) = true) (h : y ∈ groupsOf x) : 0 ≤ y ∧ y < (n : Int) := by
  obtain ⟨h0, _, hy0, _, ht⟩ := mem_groupsOf h
  refine ⟨hy0, ?_⟩
  have hx := of_decide_eq_true hx
  rw [Int.toNat_natCast] at hx
  have hlt : x.toNat < 2 ^ n := by
    obtain ⟨m, rfl⟩ := Int.eq_ofNat_of_zero_le h0
    have := hx.2
    exact_mod_cast this
  have := Nat.ge_two_pow_of_testBit ht
  have hp : y.toNat < n := (Nat.pow_lt_pow_iff_right (by decide : 1 < 2)).1 (Nat.lt_of_le_of_lt this hlt)
  omega
end Go.Proofs.YtpciieagafddcaaDoor.Sp
/- Woven by wip/weave/weave.py of this repo (own tool) out of the translation: the contracts of some functions. Lean checks it. -/
namespace Go.Proofs.YtpciieagafddcaaDoor.F
open Go.RowKit Go.Proofs.YtpciieagafddcaaDoorW.PrintWords Go.Proofs.YtpciieagafddcaaDoorW.PrintLast Go.Proofs.YtpciieagafddcaaDoorW.PrintMore
attribute [local go_sem] max2_int min2_int max_two min_two max_three min_three max_four min_four   -- for this text's walks alone
set_option linter.unusedVariables false
set_option linter.unusedSimpArgs false
def errW : Option Int → Value
  | none => .nilIface
  | some c => .iface 0 (.int .i64 c)
theorem errW_none : errW none = .nilIface := rfl
theorem errW_some (c : Int) : errW (some c) = .iface 0 (.int .i64 c) := rfl
def GlobOk (w : World) : Prop := ∀ j, j < Lib.deBruijn64tab.length → w.cell? ⟨1, j, none⟩ = some (.int .u8 (Lib.deBruijn64tab.getD j 0))
theorem GlobOk.below {w w1 : World} (h : GlobOk w) (hb : Below w.heap.size w w1) : GlobOk w1 := fun j hj => pw_cell_below hb (h j hj)
theorem GlobOk.lt {w : World} (h : GlobOk w) : 1 < w.heap.size := World.block_lt_of_cell? w _ (h 0 (by decide))
theorem GlobOk.belowN {n : Nat} {w w1 : World} (h : GlobOk w) (hn : 1 < n) (hb : Below n w w1) : GlobOk w1 := fun j hj => (hb.cell (p := ⟨1, j, none⟩) hn).trans (h j hj)
structure Sg where
  plan : Int
  stage : Int
  next : Int
  phase : Int
  t : Int
  hold : Int
  held : Int
  ask : Int
  want : Int
  stop : Bool
theorem info3 : (Tryd.prog.info? 3).map (fun i => (i.zero, i.size, i.bytes)) = some (some (.int .i64 0), 1, 8) := by kernel_rfl
-- the values' own types
structure S87 where
  f0 : Int
  f1 : Int
  f2 : Int
def z87 : S87 := ⟨(0 : Int), (0 : Int), (0 : Int)⟩
def k87 : Kd S87 := Kd.iso (Kd.pair (Kd.int .i64) (Kd.pair (Kd.int .i64) (Kd.int .i64))) (fun x : S87 => (x.f0, x.f1, x.f2))
theorem k87_open {w : World} {x : S87} {cs : List Value} (h : k87.K w x cs) : cs = [.int .i64 x.f0, .int .i64 x.f1, .int .i64 x.f2] := by
  obtain ⟨_, _, rfl, rfl, ⟨_, _, rfl, rfl, rfl⟩⟩ := h
  exact rfl
theorem k87_mk (w : World) (x : S87)  : k87.K w x [.int .i64 x.f0, .int .i64 x.f1, .int .i64 x.f2] := ⟨[.int .i64 x.f0], [.int .i64 x.f1, .int .i64 x.f2], rfl, rfl, ⟨[.int .i64 x.f1], [.int .i64 x.f2], rfl, rfl, rfl⟩⟩
def rd_T87 (xs : List S87) (i : Int) : S87 := xs.getD i.toNat z87
theorem at_T87 {w : World} {A : Option Addr} {n : Nat} {xs : List S87} (h : Kd.C k87 w A n xs) (i : Int) (h0 : 0 ≤ i) (h1 : i < n) : ∃ ad , A = some ad ∧ w.cell? (ad.add (i.toNat * 3)) = some (.int .i64 (rd_T87 xs i).f0) ∧ w.cell? ⟨(ad.add (i.toNat * 3)).block, (ad.add (i.toNat * 3)).off + 1, none⟩ = some (.int .i64 (rd_T87 xs i).f1) ∧ w.cell? ⟨(ad.add (i.toNat * 3)).block, (ad.add (i.toNat * 3)).off + 2, none⟩ = some (.int .i64 (rd_T87 xs i).f2) := by
  obtain ⟨ad, c, e, _, hK, hc0⟩ := Kd.C_get h z87 i h0 h1
  have hc : ∀ j u, c[j]? = some u → w.cell? (ad.add (i.toNat * 3 + j)) = some u := hc0
  obtain rfl := k87_open hK
  exact ⟨ad, e, hc 0 _ rfl, by rw [← add_field _ _ 1 (by omega)]; exact hc 1 _ rfl, by rw [← add_field _ _ 2 (by omega)]; exact hc 2 _ rfl⟩
structure S25 where
  f0 : (List Int)
  f1 : (List S87)
  f2 : Int
  f3 : Int
  f4 : Int
def z25 : S25 := ⟨([] : List Int), ([] : List S87), (0 : Int), (0 : Int), (0 : Int)⟩
def k25 : Kd S25 := Kd.iso (Kd.pair (Kd.slice 3 (Kd.int .i64)) (Kd.pair (Kd.slice 87 k87) (Kd.pair (Kd.int .i64) (Kd.pair (Kd.int .i64) (Kd.int .i64))))) (fun x : S25 => (x.f0, x.f1, x.f2, x.f3, x.f4))
theorem k25_open {w : World} {x : S25} {cs : List Value} (h : k25.K w x cs) : ∃ A0 c0 A1 c1, cs = [.slice A0 x.f0.length c0, .slice A1 x.f1.length c1, .int .i64 x.f2, .int .i64 x.f3, .int .i64 x.f4] ∧ x.f0.length ≤ c0 ∧ (Kd.int .i64).C w A0 x.f0.length x.f0 ∧ x.f1.length ≤ c1 ∧ k87.C w A1 x.f1.length x.f1 := by
  obtain ⟨_, _, rfl, ⟨A0, c0, rfl, l0, g0⟩, ⟨_, _, rfl, ⟨A1, c1, rfl, l1, g1⟩, ⟨_, _, rfl, rfl, ⟨_, _, rfl, rfl, rfl⟩⟩⟩⟩ := h
  exact ⟨A0, c0, A1, c1, rfl, l0, g0, l1, g1⟩
theorem k25_mk (w : World) (x : S25) {A0 : Option Addr} {c0 : Nat} (l0 : x.f0.length ≤ c0) (g0 : (Kd.int .i64).C w A0 x.f0.length x.f0) {A1 : Option Addr} {c1 : Nat} (l1 : x.f1.length ≤ c1) (g1 : k87.C w A1 x.f1.length x.f1) : k25.K w x [.slice A0 x.f0.length c0, .slice A1 x.f1.length c1, .int .i64 x.f2, .int .i64 x.f3, .int .i64 x.f4] := ⟨[.slice A0 x.f0.length c0], [.slice A1 x.f1.length c1, .int .i64 x.f2, .int .i64 x.f3, .int .i64 x.f4], rfl, ⟨A0, c0, rfl, l0, g0⟩, ⟨[.slice A1 x.f1.length c1], [.int .i64 x.f2, .int .i64 x.f3, .int .i64 x.f4], rfl, ⟨A1, c1, rfl, l1, g1⟩, ⟨[.int .i64 x.f2], [.int .i64 x.f3, .int .i64 x.f4], rfl, rfl, ⟨[.int .i64 x.f3], [.int .i64 x.f4], rfl, rfl, rfl⟩⟩⟩⟩
def rd_T25 (xs : List S25) (i : Int) : S25 := xs.getD i.toNat z25
theorem at_T25 {w : World} {A : Option Addr} {n : Nat} {xs : List S25} (h : Kd.C k25 w A n xs) (i : Int) (h0 : 0 ≤ i) (h1 : i < n) : ∃ ad A0 c0 A1 c1, A = some ad ∧ w.cell? (ad.add (i.toNat * 5)) = some (.slice A0 (rd_T25 xs i).f0.length c0) ∧ w.cell? ⟨(ad.add (i.toNat * 5)).block, (ad.add (i.toNat * 5)).off + 1, none⟩ = some (.slice A1 (rd_T25 xs i).f1.length c1) ∧ w.cell? ⟨(ad.add (i.toNat * 5)).block, (ad.add (i.toNat * 5)).off + 2, none⟩ = some (.int .i64 (rd_T25 xs i).f2) ∧ w.cell? ⟨(ad.add (i.toNat * 5)).block, (ad.add (i.toNat * 5)).off + 3, none⟩ = some (.int .i64 (rd_T25 xs i).f3) ∧ w.cell? ⟨(ad.add (i.toNat * 5)).block, (ad.add (i.toNat * 5)).off + 4, none⟩ = some (.int .i64 (rd_T25 xs i).f4) ∧ (rd_T25 xs i).f0.length ≤ c0 ∧ (Kd.int .i64).C w A0 (rd_T25 xs i).f0.length (rd_T25 xs i).f0 ∧ (rd_T25 xs i).f1.length ≤ c1 ∧ k87.C w A1 (rd_T25 xs i).f1.length (rd_T25 xs i).f1 := by
  obtain ⟨ad, c, e, _, hK, hc0⟩ := Kd.C_get h z25 i h0 h1
  have hc : ∀ j u, c[j]? = some u → w.cell? (ad.add (i.toNat * 5 + j)) = some u := hc0
  obtain ⟨A0, c0, A1, c1, rfl, l0, g0, l1, g1⟩ := k25_open hK
  exact ⟨ad, A0, c0, A1, c1, e, hc 0 _ rfl, by rw [← add_field _ _ 1 (by omega)]; exact hc 1 _ rfl, by rw [← add_field _ _ 2 (by omega)]; exact hc 2 _ rfl, by rw [← add_field _ _ 3 (by omega)]; exact hc 3 _ rfl, by rw [← add_field _ _ 4 (by omega)]; exact hc 4 _ rfl, l0, g0, l1, g1⟩
structure S43 where
  f0 : Int
  f1 : Int
  f2 : Int
  f3 : Int
  f4 : Int
  f5 : Int
  f6 : Int
  f7 : Int
  f8 : Int
  f9 : Bool
structure S65 where
  f0 : Int
  f1 : Int
def z65 : S65 := ⟨(0 : Int), (0 : Int)⟩
def k65 : Kd S65 := Kd.iso (Kd.pair (Kd.int .i64) (Kd.int .i64)) (fun x : S65 => (x.f0, x.f1))
theorem k65_open {w : World} {x : S65} {cs : List Value} (h : k65.K w x cs) : cs = [.int .i64 x.f0, .int .i64 x.f1] := by
  obtain ⟨_, _, rfl, rfl, rfl⟩ := h
  exact rfl
theorem k65_mk (w : World) (x : S65)  : k65.K w x [.int .i64 x.f0, .int .i64 x.f1] := ⟨[.int .i64 x.f0], [.int .i64 x.f1], rfl, rfl, rfl⟩
end Go.Proofs.YtpciieagafddcaaDoor.F
