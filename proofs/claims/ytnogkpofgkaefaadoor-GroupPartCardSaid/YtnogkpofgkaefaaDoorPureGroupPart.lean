/- The plain law of GroupPart: each free set is part of one of the greatest ones; what is part of a free set is free. -/
import Derived.Test.YtnogkpofgkaefaaDoorPM
namespace Go.Proofs.YtnogkpofgkaefaaDoor.Pure
open Go.RowKit Go.Proofs.YtnogkpofgkaefaaDoorW.PrintWords Go.Proofs.YtnogkpofgkaefaaDoorW.PrintLast Go.Proofs.YtnogkpofgkaefaaDoorW.PrintMore Go.Proofs.YtnogkpofgkaefaaDoor.F Go.Proofs.YtnogkpofgkaefaaDoor.PG Go.Proofs.YtnogkpofgkaefaaDoor.PM
namespace GroupPart
theorem rd_nat (l : List Int) {k : Nat} (h : k < l.length) : rd l (k : Int) = l[k] := by simp [rd, h]
theorem and_le (p : Int) (s : Nat) (hs : s < 256) (h : Go.bits .and .i64 p (s : Int) = p) : ∃ q : Nat, p = q ∧ q ≤ s := by
  have h2 : (BitVec.ofInt 64 (s : Int)).toNat = s := by
    rw [BitVec.ofInt_natCast, BitVec.toNat_ofNat]; exact Nat.mod_eq_of_lt (by omega)
  have hle : (BitVec.ofInt 64 p).toNat &&& s ≤ s := Nat.and_le_right
  have : IntKind.i64.wrap ((BitVec.ofInt 64 p &&& BitVec.ofInt 64 (s : Int)).toNat : Int) = p := h
  rw [BitVec.toNat_and, h2, IntKind.wrap_i64] at this
  exact ⟨(BitVec.ofInt 64 p).toNat &&& s, by omega, hle⟩
theorem and_sub {a b : Nat} (h : a &&& b = a) : ∀ k, a.testBit k = true → b.testBit k = true := by
  intro k hk
  rw [← h, Nat.testBit_and, Bool.and_eq_true] at hk
  exact hk.2
theorem sub_and {a b : Nat} (h : ∀ k, b.testBit k = true → a.testBit k = true) : a &&& b = b := by
  refine Nat.eq_of_testBit_eq fun k => ?_
  rw [Nat.testBit_and]
  cases hb : b.testBit k with
  | false => rw [Bool.and_false]
  | true => rw [h k hb]; rfl
theorem loop {m : List Int} (h : MayOk m) {s : Nat} (hs : s < 2 ^ m.length) (hf : FreeN m s) (p : Int) (L : List Int) (hL : L.length < 9223372036854775807) : ∀ d k : Nat, k + d = L.length → ∀ b : Bool, (b = true ∨ ∃ j, ∃ hj : j < L.length, k ≤ j ∧ Go.bits .and .i64 L[j] (s : Int) = (s : Int)) →
    Ev (fun f => pelicanlaw13_GroupPart.l0 f m (s : Int) p L b (k : Int)) true := by
  have hp8 := h.p8
  intro d
  induction d with
  | zero =>
    intro k hk b hb
    have hb : b = true := by
      rcases hb with hb | ⟨j, hj, h1, _⟩
      · exact hb
      · omega
    subst hb
    refine Ev.step (f := fun _ => some true) (fun f => ?_) (Ev.now _)
    simp only [pelicanlaw13_GroupPart.l0]
    rw [if_neg (by omega), if_pos trivial]
    by_cases hp : p < 0
    · rw [if_pos hp]
    · rw [if_neg hp]
      by_cases hq : Go.bits .and .i64 p (s : Int) = p
      · rw [if_pos hq]
        obtain ⟨q, rfl, hle⟩ := and_le p s (by omega) hq
        rw [and_nat q s (by omega) (by omega)] at hq
        have hsub := and_sub (show q &&& s = q by omega)
        rw [free_f, Option.bind_some, (free_iff h (by omega)).2 (free_part hf hsub)]
      · rw [if_neg hq]
  | succ d ih =>
    intro k hk b hb
    have hlt : k < L.length := by omega
    have e1 : ((k : Int) + 1) = ((k + 1 : Nat) : Int) := by omega
    cases b with
    | true =>
      refine Ev.step (fun f => ?_) (ih (k + 1) (by omega) true (.inl rfl))
      simp only [pelicanlaw13_GroupPart.l0]
      rw [if_pos (by omega), if_pos trivial, wr (by omega) (by omega), e1]
    | false =>
      refine Ev.step (fun f => ?_) (ih (k + 1) (by omega) (Go.bits .and .i64 L[k] (s : Int) == (s : Int)) ?_)
      · simp only [pelicanlaw13_GroupPart.l0]
        rw [if_pos (by omega), if_neg (by simp), if_pos (by omega), wr (by omega) (by omega), e1, rd_nat L hlt]
      · rcases hb with hb | ⟨j, hj, h1, h2⟩
        · cases hb
        · rcases Nat.lt_or_ge k j with h3 | h3
          · exact .inr ⟨j, hj, h3, h2⟩
          · obtain rfl : j = k := by omega
            exact .inl (by rw [h2]; simp)
end GroupPart
open GroupPart
theorem GroupPart (l0 : List Int) (a1 a2 : Int) : ∃ k, pelicanlaw13_GroupPart.f k l0 a1 a2 = some true := by
  refine Ev.rounds ?_
  refine Ev.congr (fun n => rfl) (Ev.bind awake_ev ?_)
  simp only [if_true]
  have hup : Ev (fun n => pelicanlaw13_GroupPart.j0 n l0 a1 a2 true true) true := Ev.step (f := fun _ => some true) (fun n => by simp only [pelicanlaw13_GroupPart.j0, if_true]) (Ev.now _)
  by_cases h10 : (l0.length : Int) > 10
  · simp only [h10, if_true]; exact hup
  simp only [h10, if_false, free_f, Option.bind_some]
  by_cases h : MayOk l0 ∧ 0 ≤ a1 ∧ a1 < ((2 ^ l0.length : Nat) : Int)
  · obtain ⟨h, h0, h1⟩ := h
    obtain ⟨s, rfl⟩ := Int.eq_ofNat_of_zero_le h0
    have hs : s < 2 ^ l0.length := by omega
    have hp8 := h.p8
    cases e : freeB l0 (s : Int) with
    | false => exact hup
    | true =>
      have hf := (free_iff h hs).1 e
      refine Ev.step (fun f => ?_) (Ev.bind (sets_ev l0) (f := fun f t226 => pelicanlaw13_GroupPart.l0 f l0 (s : Int) a2 t226 false 0) ?_)
      · simp only [pelicanlaw13_GroupPart.j0, Bool.not_true, Bool.false_eq_true, if_false]
      · rw [(may_iff l0).2 h, if_pos rfl]
        have hll := setsL_len l0 (2 ^ l0.length)
        obtain ⟨t, ht, hg, hst⟩ := great_more h (2 ^ l0.length) s hs (by omega) hf
        obtain ⟨j, hj, ej⟩ := List.mem_iff_getElem.1 ((mem_sets h).2 ⟨t, rfl, ht, hg⟩)
        refine loop h hs hf a2 _ (by omega) _ 0 (Nat.zero_add _) false (.inr ⟨j, hj, Nat.zero_le _, ?_⟩)
        rw [ej, and_nat t s (by omega) (by omega), sub_and hst]
  · rw [free_none h]; exact hup
end Go.Proofs.YtnogkpofgkaefaaDoor.Pure
