/- Plain laws on what package group's functions compute: numbers and lists alone (own text). -/
import Derived.Test.YtechgjbhgeddjaaDoorQsD
namespace Go.Proofs.YtechgjbhgeddjaaDoor.PG
open Go.RowKit Go.Proofs.YtechgjbhgeddjaaDoorW.PrintWords Go.Proofs.YtechgjbhgeddjaaDoorW.PrintLast Go.Proofs.YtechgjbhgeddjaaDoorW.PrintMore Go.Proofs.YtechgjbhgeddjaaDoor.F
theorem wr {x : Int} (h0 : -9223372036854775808 ≤ x) (h1 : x ≤ 9223372036854775807) : wrap64 x = x := by unfold wrap64; omega
/-! ### bits of numbers below 2^63 -/
theorem and_nat (a b : Nat) (ha : a < 9223372036854775808) (hb : b < 9223372036854775808) : bits .and .i64 (a : Int) (b : Int) = ((a &&& b : Nat) : Int) := by
  have hx : a &&& b < 2 ^ 63 := Nat.and_lt_two_pow _ (by omega)
  have h1 : (BitVec.ofInt 64 (a : Int)).toNat = a := by
    rw [BitVec.ofInt_natCast, BitVec.toNat_ofNat]; exact Nat.mod_eq_of_lt (by omega)
  have h2 : (BitVec.ofInt 64 (b : Int)).toNat = b := by
    rw [BitVec.ofInt_natCast, BitVec.toNat_ofNat]; exact Nat.mod_eq_of_lt (by omega)
  show IntKind.i64.wrap ((BitVec.ofInt 64 (a : Int) &&& BitVec.ofInt 64 (b : Int)).toNat : Int) = _
  rw [BitVec.toNat_and, h1, h2, IntKind.wrap_i64]
  omega
theorem or_nat (a b : Nat) (ha : a < 9223372036854775808) (hb : b < 9223372036854775808) : bits .or .i64 (a : Int) (b : Int) = ((a ||| b : Nat) : Int) := by
  have hx : a ||| b < 2 ^ 63 := Nat.or_lt_two_pow (by omega) (by omega)
  have h1 : (BitVec.ofInt 64 (a : Int)).toNat = a := by
    rw [BitVec.ofInt_natCast, BitVec.toNat_ofNat]; exact Nat.mod_eq_of_lt (by omega)
  have h2 : (BitVec.ofInt 64 (b : Int)).toNat = b := by
    rw [BitVec.ofInt_natCast, BitVec.toNat_ofNat]; exact Nat.mod_eq_of_lt (by omega)
  show IntKind.i64.wrap ((BitVec.ofInt 64 (a : Int) ||| BitVec.ofInt 64 (b : Int)).toNat : Int) = _
  rw [BitVec.toNat_or, h1, h2, IntKind.wrap_i64]
  omega
theorem shl_one : ∀ i : Nat, i < 9 → shl .i64 1 (i : Int) = ((2 ^ i : Nat) : Int) := by decide +kernel
theorem bit_facts : ∀ x : Nat, x < 256 → ∀ i : Nat, i < 8 → bits .and .i64 (shr .i64 (x : Int) (i : Int)) 1 = if x.testBit i then 1 else 0 := by decide +kernel
theorem or_lt {a b : Nat} (ha : a < 256) (hb : b < 256) : a ||| b < 256 := Nat.or_lt_two_pow (n := 8) ha hb
/-! ### the groups of a set -/
theorem mem_bits {x : Nat} {i : Nat} : (i : Int) ∈ Sp.bitsOf x ↔ i < 8 ∧ x.testBit i = true := by
  unfold Sp.bitsOf
  simp only [List.mem_map, List.mem_filter, List.mem_range]
  constructor
  · rintro ⟨j, ⟨h1, h2⟩, h3⟩
    obtain rfl : j = i := by omega
    exact ⟨h1, h2⟩
  · rintro ⟨h1, h2⟩
    exact ⟨i, ⟨h1, h2⟩, rfl⟩
theorem groupsOf_nat {x : Nat} (h : x < 256) : Sp.groupsOf (x : Int) = Sp.bitsOf x := by rw [Sp.groupsOf, if_pos ⟨by omega, by omega⟩, Int.toNat_natCast]
/-! ### are two lists the same -/
end Go.Proofs.YtechgjbhgeddjaaDoor.PG
