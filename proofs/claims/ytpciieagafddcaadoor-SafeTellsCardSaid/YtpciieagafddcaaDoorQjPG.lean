/- Plain laws on what package group's functions compute: numbers and lists alone (own text). -/
import Derived.Test.YtpciieagafddcaaDoorQjD
namespace Go.Proofs.YtpciieagafddcaaDoor.PG
open Go.RowKit Go.Proofs.YtpciieagafddcaaDoorW.PrintWords Go.Proofs.YtpciieagafddcaaDoorW.PrintLast Go.Proofs.YtpciieagafddcaaDoorW.PrintMore Go.Proofs.YtpciieagafddcaaDoor.F
theorem wr {x : Int} (h0 : -9223372036854775808 ≤ x) (h1 : x ≤ 9223372036854775807) : wrap64 x = x := by unfold wrap64; omega
theorem and_nat (a b : Nat) (ha : a < 9223372036854775808) (hb : b < 9223372036854775808) : bits .and .i64 (a : Int) (b : Int) = ((a &&& b : Nat) : Int) := by
  have hx : a &&& b < 2 ^ 63 := Nat.and_lt_two_pow _ (by omega)
  have h1 : (BitVec.ofInt 64 (a : Int)).toNat = a := by
    rw [BitVec.ofInt_natCast, BitVec.toNat_ofNat]; exact Nat.mod_eq_of_lt (by omega)
  have h2 : (BitVec.ofInt 64 (b : Int)).toNat = b := by
    rw [BitVec.ofInt_natCast, BitVec.toNat_ofNat]; exact Nat.mod_eq_of_lt (by omega)
  show IntKind.i64.wrap ((BitVec.ofInt 64 (a : Int) &&& BitVec.ofInt 64 (b : Int)).toNat : Int) = _
  rw [BitVec.toNat_and, h1, h2, IntKind.wrap_i64]
  omega
theorem or_nat (a b : Nat) (ha : a < 9223372036854775808) (hb : b < 9223372036854775808) : bits .or .i64 (a : Int) (b : Int) = ((a ||| b : Nat) : Int) := by
  have hx : a ||| b < 2 ^ 63 := Nat.or_lt_two_pow (by omega) (by omega)
  have h1 : (BitVec.ofInt 64 (a : Int)).toNat = a := by
    rw [BitVec.ofInt_natCast, BitVec.toNat_ofNat]; exact Nat.mod_eq_of_lt (by omega)
  have h2 : (BitVec.ofInt 64 (b : Int)).toNat = b := by
    rw [BitVec.ofInt_natCast, BitVec.toNat_ofNat]; exact Nat.mod_eq_of_lt (by omega)
  show IntKind.i64.wrap ((BitVec.ofInt 64 (a : Int) ||| BitVec.ofInt 64 (b : Int)).toNat : Int) = _
  rw [BitVec.toNat_or, h1, h2, IntKind.wrap_i64]
  omega
theorem shl_one : ∀ i : Nat, i < 9 → shl .i64 1 (i : Int) = ((2 ^ i : Nat) : Int) := by decide +kernel
theorem bit_facts : ∀ x : Nat, x < 256 → ∀ i : Nat, i < 8 → bits .and .i64 (shr .i64 (x : Int) (i : Int)) 1 = if x.testBit i then 1 else 0 := by decide +kernel
theorem or_lt {a b : Nat} (ha : a < 256) (hb : b < 256) : a ||| b < 256 := Nat.or_lt_two_pow (n := 8) ha hb
theorem mem_bits {x : Nat} {i : Nat} : (i : Int) ∈ Sp.bitsOf x ↔ i < 8 ∧ x.testBit i = true := by
  unfold Sp.bitsOf
  simp only [List.mem_map, List.mem_filter, List.mem_range]
  constructor
  · rintro ⟨j, ⟨h1, h2⟩, h3⟩
    obtain rfl : j = i := by omega
    exact ⟨h1, h2⟩
  · rintro ⟨h1, h2⟩
    exact ⟨i, ⟨h1, h2⟩, rfl⟩
theorem groupsOf_nat {x : Nat} (h : x < 256) : Sp.groupsOf (x : Int) = Sp.bitsOf x := by rw [Sp.groupsOf, if_pos ⟨by omega, by omega⟩, Int.toNat_natCast]
end Go.Proofs.YtpciieagafddcaaDoor.PG
/- Plain laws on the matrices that may be, on what is against a set, and on the document's answers for layer 13 (own text). -/
namespace Go.Proofs.YtpciieagafddcaaDoor.PM
open Go.RowKit Go.Proofs.YtpciieagafddcaaDoorW.PrintWords Go.Proofs.YtpciieagafddcaaDoorW.PrintLast Go.Proofs.YtpciieagafddcaaDoorW.PrintMore Go.Proofs.YtpciieagafddcaaDoor.F Go.Proofs.YtpciieagafddcaaDoor.PG
theorem loop_all {g : Nat → Nat → Option Bool} {n : Nat} {ok : Nat → Bool} {C : Bool}
    (hend : (∀ j, j < n → ok j = true) → Ev (fun f => g f n) C)
    (hstep : ∀ k, k < n → ok k = true → ∀ r, Ev (fun f => g f (k + 1)) r → Ev (fun f => g f k) r)
    (hstop : ∀ k, k < n → ok k = false → Ev (fun f => g f k) false) :
    ∀ d k, k + d = n → (∀ j, j < k → ok j = true) → Ev (fun f => g f k) ((List.range' k d).all ok && C) := by
  intro d
  induction d with
  | zero =>
    intro k hk h
    obtain rfl : k = n := by omega
    exact hend h
  | succ d ih =>
    intro k hk h
    rw [List.range'_succ, List.all_cons]
    cases hok : ok k with
    | true =>
      rw [Bool.true_and]
      refine hstep k (by omega) hok _ (ih (k + 1) (by omega) fun j hj => ?_)
      rcases Nat.lt_or_ge j k with h1 | h1
      · exact h j h1
      · obtain rfl : j = k := by omega
        exact hok
    | false => exact hstop k (by omega) hok
theorem all_range {n : Nat} {ok : Nat → Bool} : (List.range' 0 n).all ok = true ↔ ∀ j, j < n → ok j = true := by
  rw [List.all_eq_true]
  constructor
  · intro h j hj
    exact h j (List.mem_range'_1.2 ⟨by omega, by omega⟩)
  · intro h j hj
    exact h j (by have := (List.mem_range'_1.1 hj).2; omega)
def row (m : List Int) (i : Nat) : Nat := (m.getD i 0).toNat
structure MayOk (m : List Int) : Prop where
  len1 : 1 ≤ m.length
  len8 : m.length ≤ 8
  rng : ∀ i, i < m.length → 0 ≤ m.getD i 0 ∧ m.getD i 0 < ((2 ^ m.length : Nat) : Int)
  sym : ∀ i k, i < m.length → k < m.length → (row m i).testBit k = (row m k).testBit i
  irr : ∀ i, i < m.length → (row m i).testBit i = false
theorem lt_of_testBit {x n k : Nat} (h : x < 2 ^ n) (ht : x.testBit k = true) : k < n := by
  have := Nat.ge_two_pow_of_testBit ht
  exact (Nat.pow_lt_pow_iff_right (by decide : 1 < 2)).1 (Nat.lt_of_le_of_lt this h)
theorem pow_le8 {n : Nat} (h : n ≤ 8) : 2 ^ n ≤ 256 := Nat.pow_le_pow_right (n := 2) (by decide) h
namespace MayOk
variable {m : List Int}
theorem row_lt (h : MayOk m) {i : Nat} (hi : i < m.length) : row m i < 2 ^ m.length := by
  have := h.rng i hi
  unfold row
  omega
theorem row_eq (h : MayOk m) {i : Nat} (hi : i < m.length) : m.getD i 0 = (row m i : Int) := by
  have := h.rng i hi
  unfold row
  omega
theorem p8 (h : MayOk m) : 2 ^ m.length ≤ 256 := pow_le8 h.len8
end MayOk
theorem may_iff (m : List Int) : Sp.may m = true ↔ MayOk m := by
  constructor
  · intro h
    obtain ⟨h1, h8⟩ := Sp.may_len h
    have hr := Sp.may_rows h
    have hall : ∀ i, i < m.length → ∀ y ∈ Sp.groupsOf (m.getD i 0), Sp.rowBit m i y = true := by
      simp only [Sp.may, Bool.and_eq_true, List.all_eq_true, Sp.mayRow] at h
      intro i hi
      exact h.2 i (List.mem_range.2 hi)
    have hrng : ∀ i, i < m.length → 0 ≤ m.getD i 0 ∧ m.getD i 0 < ((2 ^ m.length : Nat) : Int) := by
      intro i hi
      have e : m.getD i 0 = m[i] := by simp [hi]
      have hx := of_decide_eq_true (hr _ (List.getElem_mem hi))
      rw [Int.toNat_natCast] at hx
      rw [e]
      exact ⟨hx.1, by exact_mod_cast hx.2⟩
    have hp8 := pow_le8 h8
    have key : ∀ i k, i < m.length → k < m.length → (row m i).testBit k = true → k ≠ i ∧ (row m k).testBit i = true := by
      intro i k hi hk ht
      have hri := hrng i hi
      have hy : (k : Int) ∈ Sp.groupsOf (m.getD i 0) := by
        rw [Sp.groupsOf, if_pos ⟨hri.1, by omega⟩]
        exact mem_bits.2 ⟨by omega, ht⟩
      have hb := hall i hi _ hy
      simp only [Sp.rowBit, Sp.bitAt, Bool.and_eq_true, bne_iff_ne, ne_eq, Int.toNat_natCast] at hb
      exact ⟨by omega, hb.2⟩
    refine ⟨h1, h8, hrng, fun i k hi hk => ?_, fun i hi => ?_⟩
    · rw [Bool.eq_iff_iff]
      exact ⟨fun ht => (key i k hi hk ht).2, fun ht => (key k i hk hi ht).2⟩
    · cases hb : (row m i).testBit i with
      | false => rfl
      | true => exact absurd rfl (key i i hi hi hb).1
  · intro h
    have hp8 := h.p8
    have e1 : decide (1 ≤ m.length ∧ m.length ≤ 8) = true := decide_eq_true ⟨h.len1, h.len8⟩
    have e2 : (m.any fun x => !Sp.inB x (m.length : Int)) = false := by
      rw [List.any_eq_false]
      intro x hx
      obtain ⟨i, hi, rfl⟩ := List.mem_iff_getElem.1 hx
      have := h.rng i hi
      have e : m.getD i 0 = m[i] := by simp [hi]
      rw [e] at this
      have : Sp.inB m[i] (m.length : Int) = true := by
        unfold Sp.inB
        rw [Int.toNat_natCast]
        exact decide_eq_true ⟨this.1, by exact_mod_cast this.2⟩
      simp [this]
    have e3 : (List.range m.length).all (Sp.mayRow m) = true := by
      rw [List.all_eq_true]
      intro i hi
      have hi := List.mem_range.1 hi
      unfold Sp.mayRow
      rw [List.all_eq_true]
      intro y hy
      obtain ⟨_, _, hy0, hy8, ht⟩ := Sp.mem_groupsOf hy
      have ht : (row m i).testBit y.toNat = true := ht
      have hlt := lt_of_testBit (h.row_lt hi) ht
      have hne : y.toNat ≠ i := by
        rintro e
        rw [e, h.irr i hi] at ht
        cases ht
      have hs := h.sym i y.toNat hi hlt
      simp only [Sp.rowBit, Sp.bitAt, Bool.and_eq_true, bne_iff_ne, ne_eq, Int.toNat_natCast]
      refine ⟨by omega, ?_⟩
      rw [ht] at hs
      exact hs.symm
    simp only [Sp.may, e1, e2, e3, Bool.not_false, Bool.and_true]
theorem may_false {m : List Int} (h : ¬ MayOk m) : Sp.may m = false := by
  cases e : Sp.may m with
  | false => rfl
  | true => exact absurd ((may_iff m).1 e) h
def hit (m : List Int) (s k : Nat) : Prop := ∃ i, i < m.length ∧ s.testBit i = true ∧ (row m i).testBit k = true
theorem fold_nat {m : List Int} (h : MayOk m) : ∀ (ks : List Int), (∀ y ∈ ks, 0 ≤ y ∧ y < (m.length : Int)) → ∀ o : Nat, o < 2 ^ m.length →
    ∃ a : Nat, ks.foldl (fun o k => bits .or .i64 o (m.getD k.toNat 0)) (o : Int) = a ∧ a < 2 ^ m.length ∧ ∀ k, a.testBit k = true ↔ (o.testBit k = true ∨ ∃ y ∈ ks, (row m y.toNat).testBit k = true) := by
  intro ks
  induction ks with
  | nil => intro _ o ho; exact ⟨o, rfl, ho, by simp⟩
  | cons y ks ih =>
    intro hy o ho
    have hp8 := h.p8
    have h1 := hy y (by simp)
    have hlt : y.toNat < m.length := by omega
    have hr := h.row_lt hlt
    obtain ⟨a, e, ha, hb⟩ := ih (fun z hz => hy z (by simp [hz])) (o ||| row m y.toNat) (Nat.or_lt_two_pow ho hr)
    refine ⟨a, ?_, ha, fun k => ?_⟩
    · rw [List.foldl_cons, h.row_eq hlt, or_nat o _ (by omega) (by omega)]
      exact e
    · rw [hb k, Nat.testBit_or, Bool.or_eq_true, or_assoc]
      simp
structure AgOk (m : List Int) (s a : Nat) : Prop where
  lt : a < 2 ^ m.length
  mem : ∀ k, a.testBit k = true ↔ hit m s k
theorem against_nat {m : List Int} (h : MayOk m) {s : Nat} (hs : s < 2 ^ m.length) : ∃ a : Nat, Sp.against m (s : Int) = a ∧ AgOk m s a := by
  have hin : Sp.inB (s : Int) (m.length : Int) = true := by
    unfold Sp.inB
    rw [Int.toNat_natCast]
    exact decide_eq_true ⟨by omega, by exact_mod_cast hs⟩
  obtain ⟨a, e, ha, hb⟩ := fold_nat h (Sp.groupsOf (s : Int)) (fun y hy => Sp.groupsOf_lt hin hy) 0 (Nat.two_pow_pos _)
  refine ⟨a, ?_, ha, fun k => ?_⟩
  · rw [Sp.against, (may_iff m).2 h, hin]
    exact e
  · have hp8 := h.p8
    rw [hb k, groupsOf_nat (by omega)]
    constructor
    · rintro (h0 | ⟨y, hy, ht⟩)
      · simp at h0
      · obtain ⟨h1, h2, h3⟩ := Sp.mem_bitsOf hy
        exact ⟨y.toNat, lt_of_testBit hs h3, h3, ht⟩
    · rintro ⟨i, hi, h1, h2⟩
      have := h.len8
      exact .inr ⟨(i : Int), mem_bits.2 ⟨by omega, h1⟩, h2⟩
theorem against_none {m : List Int} {s : Int} (h : ¬ (MayOk m ∧ 0 ≤ s ∧ s < ((2 ^ m.length : Nat) : Int))) : Sp.against m s = -1 := by
  unfold Sp.against
  rw [if_neg]
  intro hh
  rw [Bool.and_eq_true] at hh
  refine h ⟨(may_iff m).1 hh.1, ?_⟩
  have hx := of_decide_eq_true hh.2
  rw [Int.toNat_natCast] at hx
  exact ⟨hx.1, by exact_mod_cast hx.2⟩
def freeB (m : List Int) (s : Int) : Bool := if Sp.against m s = -1 then false else (Go.bits .and .i64 (Sp.against m s) s == 0)
theorem free_f (m : List Int) (s : Int) : group_Free.f m s = some (freeB m s) := by
  unfold group_Free.f freeB
  rw [group_Against.f, Option.bind_some]
  split <;> rfl
def FreeN (m : List Int) (s : Nat) : Prop := ∀ i k, i < m.length → k < m.length → s.testBit i = true → s.testBit k = true → (row m i).testBit k = false
theorem and_zero {a b : Nat} : a &&& b = 0 ↔ ∀ k, a.testBit k = true → b.testBit k = false := by
  constructor
  · intro h k hk
    have := Nat.testBit_and a b k
    rw [h, Nat.zero_testBit, hk, Bool.true_and] at this
    exact this.symm
  · intro h
    refine Nat.eq_of_testBit_eq fun k => ?_
    rw [Nat.testBit_and, Nat.zero_testBit]
    cases ha : a.testBit k with
    | false => rfl
    | true => rw [h k ha]; rfl
theorem free_iff {m : List Int} (h : MayOk m) {s : Nat} (hs : s < 2 ^ m.length) : freeB m (s : Int) = true ↔ FreeN m s := by
  obtain ⟨a, ea, hA⟩ := against_nat h hs
  have hp8 := h.p8
  have hl := hA.lt
  unfold freeB
  rw [ea, if_neg (by omega), and_nat a s (by omega) (by omega), beq_iff_eq]
  have : (((a &&& s : Nat) : Int) = 0) ↔ a &&& s = 0 := by omega
  rw [this, and_zero]
  constructor
  · intro hh i k hi hk h1 h2
    cases hb : (row m i).testBit k with
    | false => rfl
    | true => have := hh k ((hA.mem k).2 ⟨i, hi, h1, hb⟩); rw [h2] at this; cases this
  · intro hh k hk
    obtain ⟨i, hi, h1, h2⟩ := (hA.mem k).1 hk
    cases hb : s.testBit k with
    | false => rfl
    | true => have := hh i k hi (lt_of_testBit hs hb) h1 hb; rw [h2] at this; cases this
theorem free_none {m : List Int} {s : Int} (h : ¬ (MayOk m ∧ 0 ≤ s ∧ s < ((2 ^ m.length : Nat) : Int))) : freeB m s = false := by
  unfold freeB
  rw [against_none h, if_pos rfl]
theorem set_bit (s k j : Nat) : (s ||| 2 ^ k).testBit j = true ↔ (s.testBit j = true ∨ j = k) := by
  rw [Nat.testBit_or, Nat.testBit_two_pow, Bool.or_eq_true, decide_eq_true_eq]
  constructor
  · rintro (h | h)
    · exact .inl h
    · exact .inr h.symm
  · rintro (h | h)
    · exact .inl h
    · exact .inr h.symm
theorem free_part {m : List Int} {s t : Nat} (hf : FreeN m t) (hst : ∀ k, s.testBit k = true → t.testBit k = true) : FreeN m s := fun i k hi hk h1 h2 => hf i k hi hk (hst i h1) (hst k h2)
end Go.Proofs.YtpciieagafddcaaDoor.PM
