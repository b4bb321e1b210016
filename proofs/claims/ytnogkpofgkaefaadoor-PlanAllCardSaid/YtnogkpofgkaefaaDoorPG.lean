/- Plain laws on what package group's functions compute: numbers and lists alone (own text). -/
import Derived.Test.YtnogkpofgkaefaaDoorD
namespace Go.Proofs.YtnogkpofgkaefaaDoor.PG
open Go.RowKit Go.Proofs.YtnogkpofgkaefaaDoorW.PrintWords Go.Proofs.YtnogkpofgkaefaaDoorW.PrintLast Go.Proofs.YtnogkpofgkaefaaDoorW.PrintMore Go.Proofs.YtnogkpofgkaefaaDoor.F

theorem wr {x : Int} (h0 : -9223372036854775808 ≤ x) (h1 : x ≤ 9223372036854775807) : wrap64 x = x := by unfold wrap64; omega
/-! ### bits of numbers below 2^63 -/
theorem and_nat (a b : Nat) (ha : a < 9223372036854775808) (hb : b < 9223372036854775808) : bits .and .i64 (a : Int) (b : Int) = ((a &&& b : Nat) : Int) := by
  have hx : a &&& b < 2 ^ 63 := Nat.and_lt_two_pow _ (by omega)
  have h1 : (BitVec.ofInt 64 (a : Int)).toNat = a := by
    rw [BitVec.ofInt_natCast, BitVec.toNat_ofNat]; exact Nat.mod_eq_of_lt (by omega)
  have h2 : (BitVec.ofInt 64 (b : Int)).toNat = b := by
    rw [BitVec.ofInt_natCast, BitVec.toNat_ofNat]; exact Nat.mod_eq_of_lt (by omega)
  show IntKind.i64.wrap ((BitVec.ofInt 64 (a : Int) &&& BitVec.ofInt 64 (b : Int)).toNat : Int) = _
  rw [BitVec.toNat_and, h1, h2, IntKind.wrap_i64]
  omega
theorem or_nat (a b : Nat) (ha : a < 9223372036854775808) (hb : b < 9223372036854775808) : bits .or .i64 (a : Int) (b : Int) = ((a ||| b : Nat) : Int) := by
  have hx : a ||| b < 2 ^ 63 := Nat.or_lt_two_pow (by omega) (by omega)
  have h1 : (BitVec.ofInt 64 (a : Int)).toNat = a := by
    rw [BitVec.ofInt_natCast, BitVec.toNat_ofNat]; exact Nat.mod_eq_of_lt (by omega)
  have h2 : (BitVec.ofInt 64 (b : Int)).toNat = b := by
    rw [BitVec.ofInt_natCast, BitVec.toNat_ofNat]; exact Nat.mod_eq_of_lt (by omega)
  show IntKind.i64.wrap ((BitVec.ofInt 64 (a : Int) ||| BitVec.ofInt 64 (b : Int)).toNat : Int) = _
  rw [BitVec.toNat_or, h1, h2, IntKind.wrap_i64]
  omega
theorem shl_one : ∀ i : Nat, i < 9 → shl .i64 1 (i : Int) = ((2 ^ i : Nat) : Int) := by decide +kernel
theorem bit_facts : ∀ x : Nat, x < 256 → ∀ i : Nat, i < 8 → bits .and .i64 (shr .i64 (x : Int) (i : Int)) 1 = if x.testBit i then 1 else 0 := by decide +kernel
theorem or_lt {a b : Nat} (ha : a < 256) (hb : b < 256) : a ||| b < 256 := Nat.or_lt_two_pow (n := 8) ha hb
theorem and_lt {a b : Nat} (hb : b < 256) : a &&& b < 256 := Nat.lt_of_le_of_lt Nat.and_le_right hb
theorem pow_lt {i : Nat} (h : i < 8) : 2 ^ i < 256 := Nat.pow_lt_pow_right (by decide) h

/-! ### the groups of a set -/
theorem mem_bits {x : Nat} {i : Nat} : (i : Int) ∈ Sp.bitsOf x ↔ i < 8 ∧ x.testBit i = true := by
  unfold Sp.bitsOf
  simp only [List.mem_map, List.mem_filter, List.mem_range]
  constructor
  · rintro ⟨j, ⟨h1, h2⟩, h3⟩
    obtain rfl : j = i := by omega
    exact ⟨h1, h2⟩
  · rintro ⟨h1, h2⟩
    exact ⟨i, ⟨h1, h2⟩, rfl⟩
theorem bits_sorted (x : Nat) : (Sp.bitsOf x).Pairwise (· < ·) := by
  unfold Sp.bitsOf
  rw [List.pairwise_map]
  exact (List.pairwise_filter.2 (List.pairwise_lt_range.imp fun {a b} h _ _ => by omega))
theorem lt_nodup {l : List Int} (h : l.Pairwise (· < ·)) : l.Nodup := h.imp fun {a b} h e => by omega
theorem groupsOf_nat {x : Nat} (h : x < 256) : Sp.groupsOf (x : Int) = Sp.bitsOf x := by rw [Sp.groupsOf, if_pos ⟨by omega, by omega⟩, Int.toNat_natCast]

/-! ### group.Of -/
/-- What l's first part comes to: a set of just its groups, each once. -/
structure OfAt (pre : List Int) (x : Nat) : Prop where
  lt : x < 256
  rng : ∀ y ∈ pre, 0 ≤ y ∧ y < 8
  nodup : pre.Nodup
  mem : ∀ i : Nat, i < 8 → (x.testBit i = true ↔ (i : Int) ∈ pre)
/-- group.Of's answer: none, where one is out of range or stands twice; else the set. -/
def OfTells (l : List Int) (r : Int) : Prop := (r = -1 ∧ l ≠ [] ∧ ¬ ((∀ y ∈ l, 0 ≤ y ∧ y < 8) ∧ l.Nodup)) ∨ ∃ x : Nat, r = x ∧ OfAt l x
theorem OfAt.snoc {pre : List Int} {x i : Nat} (h : OfAt pre x) (hi : i < 8) (hn : x.testBit i = false) : OfAt (pre ++ [(i : Int)]) (x ||| 2 ^ i) := by
  refine ⟨or_lt h.lt (pow_lt hi), fun y hy => ?_, ?_, fun j hj => ?_⟩
  · rcases List.mem_append.1 hy with hy | hy
    · exact h.rng y hy
    · rw [List.mem_singleton.1 hy]; omega
  · rw [List.nodup_append]
    refine ⟨h.nodup, by simp, fun a ha b hb => ?_⟩
    rw [List.mem_singleton.1 hb]
    rintro rfl
    have := (h.mem i hi).2 ha
    rw [hn] at this
    cases this
  · rw [Nat.testBit_or, Nat.testBit_two_pow, Bool.or_eq_true, decide_eq_true_eq, h.mem j hj, List.mem_append, List.mem_singleton]
    constructor
    · rintro (h | h)
      · exact .inl h
      · exact .inr (by omega)
    · rintro (h | h)
      · exact .inl h
      · exact .inr (by omega)
theorem of_loop (l : List Int) (hl : l.length ≤ 100) : ∀ (d k : Nat), k + d = l.length → ∀ x : Nat, OfAt (l.take k) x → ∃ r, Ev (fun n => group_Of.l0 n (x : Int) l (l.length : Int) (k : Int)) r ∧ OfTells l r := by
  intro d
  induction d with
  | zero =>
    intro k hk x h
    refine ⟨x, Ev.step (f := fun _ => some (x : Int)) (fun n => by simp only [group_Of.l0]; rw [if_neg (by omega)]) (Ev.now _), .inr ⟨x, rfl, ?_⟩⟩
    rwa [List.take_of_length_le (by omega)] at h
  | succ d ih =>
    intro k hk x h
    have hlt : k < l.length := by omega
    have hrd : rd l (k : Int) = l[k] := by simp [rd, hlt]
    have htk : l.take (k + 1) = l.take k ++ [l[k]] := List.take_succ_eq_append_getElem hlt
    have hmem : l[k] ∈ l := List.getElem_mem hlt
    have hne : l ≠ [] := fun e => by rw [e] at hlt; simp at hlt
    by_cases h0 : l[k] < 0
    · refine ⟨-1, Ev.step (f := fun _ => some (-1)) (fun n => by simp only [group_Of.l0]; rw [if_pos (by omega), if_pos (by omega), if_pos (by omega), hrd, if_pos h0]) (Ev.now _), .inl ⟨rfl, hne, fun hh => ?_⟩⟩
      have := (hh.1 _ hmem).1; omega
    by_cases h8 : l[k] ≥ 8
    · refine ⟨-1, Ev.step (f := fun _ => some (-1)) (fun n => by simp only [group_Of.l0]; rw [if_pos (by omega), if_pos (by omega), if_pos (by omega), hrd, if_neg h0, if_pos h8]) (Ev.now _), .inl ⟨rfl, hne, fun hh => ?_⟩⟩
      have := (hh.1 _ hmem).2; omega
    obtain ⟨i, hi⟩ : ∃ i : Nat, l[k] = (i : Int) := ⟨l[k].toNat, by omega⟩
    have hi8 : i < 8 := by omega
    have hb := bit_facts x h.lt i hi8
    cases ht : x.testBit i with
    | true =>
      rw [ht] at hb
      refine ⟨-1, Ev.step (f := fun _ => some (-1)) (fun n => by simp only [group_Of.l0]; rw [if_pos (by omega), if_pos (by omega), if_pos (by omega), hrd, if_neg h0, if_neg h8, if_pos (by omega), hi, hb]; simp) (Ev.now _), .inl ⟨rfl, hne, fun hh => ?_⟩⟩
      have hp := (h.mem i hi8).1 ht
      have hd := hh.2
      rw [← List.take_append_drop (k + 1) l, htk, List.nodup_append] at hd
      have hd1 := hd.1
      rw [List.nodup_append] at hd1
      exact hd1.2.2 _ hp _ (by simp) hi.symm
    | false =>
      rw [ht] at hb
      have hs := h.snoc hi8 ht
      rw [← hi, ← htk] at hs
      obtain ⟨r, hr, hT⟩ := ih (k + 1) (by omega) _ hs
      refine ⟨r, Ev.step (f := fun n => group_Of.l0 n ((x ||| 2 ^ i : Nat) : Int) l (l.length : Int) ((k + 1 : Nat) : Int)) (fun n => ?_) hr, hT⟩
      simp only [group_Of.l0]
      rw [if_pos (by omega), if_pos (by omega), if_pos (by omega), hrd, if_neg h0, if_neg h8, if_pos (by omega), hi, hb, if_neg (by simp), shl_one i (by omega), or_nat x _ (by have := h.lt; omega) (by have := pow_lt hi8; omega), wr (by omega) (by omega)]
      rfl
theorem of_tells (l : List Int) (hl : l.length ≤ 100) : ∃ r, Ev (fun n => group_Of.f n l) r ∧ OfTells l r :=
  of_loop l hl l.length 0 (by omega) 0 ⟨by omega, by simp, by simp, fun i _ => by simp⟩
theorem OfAt.perm {l : List Int} {x : Nat} (h : OfAt l x) : (Sp.bitsOf x).Perm l := by
  rw [List.perm_ext_iff_of_nodup (lt_nodup (bits_sorted x)) h.nodup]
  intro a
  constructor
  · intro ha
    obtain ⟨h1, h2, h3⟩ := Sp.mem_bitsOf ha
    have := (h.mem a.toNat (by omega)).1 h3
    rwa [Int.toNat_of_nonneg h1] at this
  · intro ha
    obtain ⟨h1, h2⟩ := h.rng a ha
    obtain ⟨i, rfl⟩ := Int.eq_ofNat_of_zero_le h1
    exact mem_bits.2 ⟨by omega, (h.mem i (by omega)).2 ha⟩
theorem OfAt.sorted_eq {l : List Int} {x : Nat} (h : OfAt l x) (hs : l.Pairwise (· < ·)) : Sp.bitsOf x = l :=
  List.Perm.eq_of_pairwise (le := (· < ·)) (fun a b _ _ h1 h2 => by omega) (bits_sorted x) hs h.perm

/-! ### are two lists the same -/
theorem ints_loop (a b : List Int) (hab : a.length = b.length) (hl : a.length < 9223372036854775807) : ∀ (d k : Nat), k + d = a.length → a.take k = b.take k → Ev (fun n => pelicanref05_Ints.l0 n a b (k : Int)) (decide (a = b)) := by
  intro d
  induction d with
  | zero =>
    intro k hk h
    rw [List.take_of_length_le (by omega), List.take_of_length_le (by omega)] at h
    refine Ev.step (f := fun _ => some (decide (a = b))) (fun n => by simp only [pelicanref05_Ints.l0]; rw [if_neg (by omega)]; simp [h]) (Ev.now _)
  | succ d ih =>
    intro k hk h
    have hlt : k < a.length := by omega
    have hlt' : k < b.length := by omega
    have ha : rd a (k : Int) = a[k] := by simp [rd, hlt]
    have hb : rd b (k : Int) = b[k] := by simp [rd, hlt']
    by_cases e : a[k] = b[k]
    · refine Ev.step (f := fun n => pelicanref05_Ints.l0 n a b ((k + 1 : Nat) : Int)) (fun n => ?_) (ih (k + 1) (by omega) (by rw [List.take_succ_eq_append_getElem hlt, List.take_succ_eq_append_getElem hlt', h, e]))
      simp only [pelicanref05_Ints.l0]
      rw [if_pos (by omega), if_pos (by omega), if_pos (by omega), ha, hb, if_pos e, wr (by omega) (by omega)]
      rfl
    · have hne : a ≠ b := fun h => by subst h; exact e rfl
      refine Ev.step (f := fun _ => some (decide (a = b))) (fun n => ?_) (Ev.now _)
      simp only [pelicanref05_Ints.l0]
      rw [if_pos (by omega), if_pos (by omega), if_pos (by omega), ha, hb, if_neg e, decide_eq_false hne]
theorem ints_ev (a b : List Int) (hl : a.length < 9223372036854775807) : Ev (fun n => pelicanref05_Ints.f n a b) (decide (a = b)) := by
  by_cases h : a.length = b.length
  · refine Ev.congr (f := fun n => pelicanref05_Ints.l0 n a b ((0 : Nat) : Int)) (fun n => by unfold pelicanref05_Ints.f; rw [if_pos (by omega)]; rfl) (ints_loop a b h hl a.length 0 (by omega) (by simp))
  · have hne : a ≠ b := fun e => h (by rw [e])
    refine Ev.congr (f := fun _ => some (decide (a = b))) (fun n => by unfold pelicanref05_Ints.f; rw [if_neg (by omega), decide_eq_false hne]) (Ev.now _)
theorem awake_ev : Ev (fun n => pelicanlaw13_awake.f n) true := Ev.of (fun k => pelicanlaw13_awake.mono k) (k := 20) (by decide +kernel)
end Go.Proofs.YtnogkpofgkaefaaDoor.PG
