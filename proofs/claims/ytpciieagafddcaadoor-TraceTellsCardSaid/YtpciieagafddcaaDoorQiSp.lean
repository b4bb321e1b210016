/- Plain words of this repo: what the program's functions compute, on numbers and lists alone. -/
import Derived.Lib.TrailingZeros
import Derived.Laws.Bits64b
namespace Go.Proofs.YtpciieagafddcaaDoor.Sp
def bitsOf (x : Nat) : List Int := ((List.range 8).filter (fun i : Nat => x.testBit i)).map (fun i : Nat => (i : Int))
def groupsOf (s : Int) : List Int := if 0 ≤ s ∧ s < 256 then bitsOf s.toNat else []
theorem bitsOf_zero : bitsOf 0 = [] := by decide
theorem bits_facts : ∀ x, x < 256 → x ≠ 0 → bitsOf x = (Lib.ctz 64 x : Int) :: bitsOf (x &&& (x - 1)) ∧ Lib.ctz 64 x < 8 ∧ x &&& (x - 1) < x := by decide +kernel
theorem bitsOf_step (x : Nat) (hx : x < 256) (h0 : x ≠ 0) : bitsOf x = (Lib.ctz 64 x : Int) :: bitsOf (x &&& (x - 1)) ∧ Lib.ctz 64 x < 8 := ⟨(bits_facts x hx h0).1, (bits_facts x hx h0).2.1⟩
theorem low_lt (x : Nat) (hx : x < 256) (h0 : x ≠ 0) : x &&& (x - 1) < x := (bits_facts x hx h0).2.2
/-- group's in: is a set one of so many groups. -/
def inB (x n : Int) : Bool := decide (0 ≤ x ∧ x < 2 ^ n.toNat)
/-- The bit of a set. -/
def bitAt (x i : Int) : Bool := x.toNat.testBit i.toNat
theorem bit_facts : ∀ r : Nat, r < 256 → ∀ k : Nat, k < 8 → (bits .and .i64 ((r : Int) / 2 ^ k) 1 == 0) = !(Nat.testBit r k) := by decide +kernel
theorem bit_eq {r : Int} {k : Nat} (h0 : 0 ≤ r) (h1 : r < 256) (hk : k < 8) : (bits .and .i64 (r / 2 ^ k) 1 == 0) = !(bitAt r (k : Int)) := by
  obtain ⟨m, rfl⟩ := Int.eq_ofNat_of_zero_le h0
  rw [bit_facts m (by omega) k hk]
  simp [bitAt]
theorem inB_256 {x : Int} {n : Nat} (hn : n ≤ 8) (h : inB x (n : Int) = true) : 0 ≤ x ∧ x < 256 := by
  have h := of_decide_eq_true h
  rw [Int.toNat_natCast] at h
  refine ⟨h.1, Int.lt_of_lt_of_le h.2 ?_⟩
  rcases (by omega : n = 0 ∨ n = 1 ∨ n = 2 ∨ n = 3 ∨ n = 4 ∨ n = 5 ∨ n = 6 ∨ n = 7 ∨ n = 8) with rfl | rfl | rfl | rfl | rfl | rfl | rfl | rfl | rfl <;> decide
def rowBit (m : List Int) (i : Nat) (k : Int) : Bool := k != (i : Int) && bitAt (m.getD k.toNat 0) (i : Int)
def mayRow (m : List Int) (i : Nat) : Bool := (groupsOf (m.getD i 0)).all (rowBit m i)
/-- group.May. -/
def may (m : List Int) : Bool := decide (1 ≤ m.length ∧ m.length ≤ 8) && !(m.any fun x => !inB x (m.length : Int)) && (List.range m.length).all (mayRow m)
theorem may_len {m : List Int} (h : may m = true) : 1 ≤ m.length ∧ m.length ≤ 8 := by
  simp only [may, Bool.and_eq_true, decide_eq_true_eq] at h
  exact h.1.1
theorem may_rows {m : List Int} (h : may m = true) : ∀ x ∈ m, inB x (m.length : Int) = true := by
  simp only [may, Bool.and_eq_true, Bool.not_eq_true', List.any_eq_false] at h
  intro x hx
  simpa using h.1.2 x hx
/-- group.Against: the groups against a set. -/
def orAll (m : List Int) (ks : List Int) : Int := ks.foldl (fun o k => bits .or .i64 o (m.getD k.toNat 0)) 0
theorem orAll_snoc (m ks : List Int) (k : Int) : orAll m (ks ++ [k]) = bits .or .i64 (orAll m ks) (m.getD k.toNat 0) := by simp [orAll]
def against (m : List Int) (set : Int) : Int := if may m && inB set (m.length : Int) then orAll m (groupsOf set) else -1
theorem mem_bitsOf {x : Nat} {y : Int} (h : y ∈ bitsOf x) : 0 ≤ y ∧ y < 8 ∧ x.testBit y.toNat = true := by
  unfold bitsOf at h
  simp only [List.mem_map, List.mem_filter, List.mem_range] at h
  obtain ⟨i, ⟨h1, h2⟩, rfl⟩ := h
  exact ⟨by omega, by omega, by simpa using h2⟩
theorem mem_groupsOf {x y : Int} (h : y ∈ groupsOf x) : 0 ≤ x ∧ x < 256 ∧ 0 ≤ y ∧ y < 8 ∧ x.toNat.testBit y.toNat = true := by
  unfold groupsOf at h
  split at h
  · exact ⟨by omega, by omega, mem_bitsOf h⟩
  · cases h
theorem groupsOf_lt {x y : Int} {n : Nat} (hx : inB x (n : Int) = true) (h : y ∈ groupsOf x) : 0 ≤ y ∧ y < (n : Int) := by
  obtain ⟨h0, _, hy0, _, ht⟩ := mem_groupsOf h
  refine ⟨hy0, ?_⟩
  have hx := of_decide_eq_true hx
  rw [Int.toNat_natCast] at hx
  have hlt : x.toNat < 2 ^ n := by
    obtain ⟨m, rfl⟩ := Int.eq_ofNat_of_zero_le h0
    have := hx.2
    exact_mod_cast this
  have := Nat.ge_two_pow_of_testBit ht
  have hp : y.toNat < n := (Nat.pow_lt_pow_iff_right (by decide : 1 < 2)).1 (Nat.lt_of_le_of_lt this hlt)
  omega
end Go.Proofs.YtpciieagafddcaaDoor.Sp
