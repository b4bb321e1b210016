/- Plain laws on what package group's functions compute: numbers and lists alone (own text). -/
import Derived.Test.YtpciieagafddcaaDoorQiD
namespace Go.Proofs.YtpciieagafddcaaDoor.PG
open Go.RowKit Go.Proofs.YtpciieagafddcaaDoorW.PrintWords Go.Proofs.YtpciieagafddcaaDoorW.PrintLast Go.Proofs.YtpciieagafddcaaDoorW.PrintMore Go.Proofs.YtpciieagafddcaaDoor.F
theorem wr {x : Int} (h0 : -9223372036854775808 ≤ x) (h1 : x ≤ 9223372036854775807) : wrap64 x = x := by unfold wrap64; omega
/-! ### bits of numbers below 2^63 -/
theorem and_nat (a b : Nat) (ha : a < 9223372036854775808) (hb : b < 9223372036854775808) : bits .and .i64 (a : Int) (b : Int) = ((a &&& b : Nat) : Int) := by
  have hx : a &&& b < 2 ^ 63 := Nat.and_lt_two_pow _ (by omega)
  have h1 : (BitVec.ofInt 64 (a : Int)).toNat = a := by
    rw [BitVec.ofInt_natCast, BitVec.toNat_ofNat]; exact Nat.mod_eq_of_lt (by omega)
  have h2 : (BitVec.ofInt 64 (b : Int)).toNat = b := by
    rw [BitVec.ofInt_natCast, BitVec.toNat_ofNat]; exact Nat.mod_eq_of_lt (by omega)
  show IntKind.i64.wrap ((BitVec.ofInt 64 (a : Int) &&& BitVec.ofInt 64 (b : Int)).toNat : Int) = _
  rw [BitVec.toNat_and, h1, h2, IntKind.wrap_i64]
  omega
theorem or_nat (a b : Nat) (ha : a < 9223372036854775808) (hb : b < 9223372036854775808) : bits .or .i64 (a : Int) (b : Int) = ((a ||| b : Nat) : Int) := by
  have hx : a ||| b < 2 ^ 63 := Nat.or_lt_two_pow (by omega) (by omega)
  have h1 : (BitVec.ofInt 64 (a : Int)).toNat = a := by
    rw [BitVec.ofInt_natCast, BitVec.toNat_ofNat]; exact Nat.mod_eq_of_lt (by omega)
  have h2 : (BitVec.ofInt 64 (b : Int)).toNat = b := by
    rw [BitVec.ofInt_natCast, BitVec.toNat_ofNat]; exact Nat.mod_eq_of_lt (by omega)
  show IntKind.i64.wrap ((BitVec.ofInt 64 (a : Int) ||| BitVec.ofInt 64 (b : Int)).toNat : Int) = _
  rw [BitVec.toNat_or, h1, h2, IntKind.wrap_i64]
  omega
theorem shl_one : ∀ i : Nat, i < 9 → shl .i64 1 (i : Int) = ((2 ^ i : Nat) : Int) := by decide +kernel
theorem bit_facts : ∀ x : Nat, x < 256 → ∀ i : Nat, i < 8 → bits .and .i64 (shr .i64 (x : Int) (i : Int)) 1 = if x.testBit i then 1 else 0 := by decide +kernel
theorem or_lt {a b : Nat} (ha : a < 256) (hb : b < 256) : a ||| b < 256 := Nat.or_lt_two_pow (n := 8) ha hb
theorem pow_lt {i : Nat} (h : i < 8) : 2 ^ i < 256 := Nat.pow_lt_pow_right (by decide) h
/-! ### the groups of a set -/
theorem mem_bits {x : Nat} {i : Nat} : (i : Int) ∈ Sp.bitsOf x ↔ i < 8 ∧ x.testBit i = true := by
  unfold Sp.bitsOf
  simp only [List.mem_map, List.mem_filter, List.mem_range]
  constructor
  · rintro ⟨j, ⟨h1, h2⟩, h3⟩
    obtain rfl : j = i := by omega
    exact ⟨h1, h2⟩
  · rintro ⟨h1, h2⟩
    exact ⟨i, ⟨h1, h2⟩, rfl⟩
theorem groupsOf_nat {x : Nat} (h : x < 256) : Sp.groupsOf (x : Int) = Sp.bitsOf x := by rw [Sp.groupsOf, if_pos ⟨by omega, by omega⟩, Int.toNat_natCast]
/-! ### are two lists the same -/
theorem ints_loop (a b : List Int) (hab : a.length = b.length) (hl : a.length < 9223372036854775807) : ∀ (d k : Nat), k + d = a.length → a.take k = b.take k → Ev (fun n => pelicanref05_Ints.l0 n a b (k : Int)) (decide (a = b)) := by
  intro d
  induction d with
  | zero =>
    intro k hk h
    rw [List.take_of_length_le (by omega), List.take_of_length_le (by omega)] at h
    refine Ev.step (f := fun _ => some (decide (a = b))) (fun n => by simp only [pelicanref05_Ints.l0]; rw [if_neg (by omega)]; simp [h]) (Ev.now _)
  | succ d ih =>
    intro k hk h
    have hlt : k < a.length := by omega
    have hlt' : k < b.length := by omega
    have ha : rd a (k : Int) = a[k] := by simp [rd, hlt]
    have hb : rd b (k : Int) = b[k] := by simp [rd, hlt']
    by_cases e : a[k] = b[k]
    · refine Ev.step (f := fun n => pelicanref05_Ints.l0 n a b ((k + 1 : Nat) : Int)) (fun n => ?_) (ih (k + 1) (by omega) (by rw [List.take_succ_eq_append_getElem hlt, List.take_succ_eq_append_getElem hlt', h, e]))
      simp only [pelicanref05_Ints.l0]
      rw [if_pos (by omega), if_pos (by omega), if_pos (by omega), ha, hb, if_pos e, wr (by omega) (by omega)]
      rfl
    · have hne : a ≠ b := fun h => by subst h; exact e rfl
      refine Ev.step (f := fun _ => some (decide (a = b))) (fun n => ?_) (Ev.now _)
      simp only [pelicanref05_Ints.l0]
      rw [if_pos (by omega), if_pos (by omega), if_pos (by omega), ha, hb, if_neg e, decide_eq_false hne]
theorem ints_ev (a b : List Int) (hl : a.length < 9223372036854775807) : Ev (fun n => pelicanref05_Ints.f n a b) (decide (a = b)) := by
  by_cases h : a.length = b.length
  · refine Ev.congr (f := fun n => pelicanref05_Ints.l0 n a b ((0 : Nat) : Int)) (fun n => by unfold pelicanref05_Ints.f; rw [if_pos (by omega)]; rfl) (ints_loop a b h hl a.length 0 (by omega) (by simp))
  · have hne : a ≠ b := fun e => h (by rw [e])
    refine Ev.congr (f := fun _ => some (decide (a = b))) (fun n => by unfold pelicanref05_Ints.f; rw [if_neg (by omega), decide_eq_false hne]) (Ev.now _)
end Go.Proofs.YtpciieagafddcaaDoor.PG
