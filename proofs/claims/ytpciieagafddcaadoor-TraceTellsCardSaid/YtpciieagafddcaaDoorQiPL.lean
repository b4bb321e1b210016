/- Plain laws on what package lamp's functions compute: numbers and lists alone (own text). -/
import Derived.Test.YtpciieagafddcaaDoorQiF36
import Derived.Lib.Slices
import Derived.Lib.Strings
namespace Go.Proofs.YtpciieagafddcaaDoor.PL
open Go.RowKit Go.Proofs.YtpciieagafddcaaDoorW.PrintWords Go.Proofs.YtpciieagafddcaaDoorW.PrintLast Go.Proofs.YtpciieagafddcaaDoorW.PrintMore Go.Proofs.YtpciieagafddcaaDoor.F Go.Proofs.YtpciieagafddcaaDoor.PG Go.Proofs.YtpciieagafddcaaDoor.PM Go.Proofs.YtpciieagafddcaaDoor.PP Go.Proofs.YtpciieagafddcaaDoor.PQ
/-! ### which lamps are not red -/
def litTo (l : List Int) : Nat → Nat
  | 0 => 0
  | k + 1 => if l.getD k 0 = 0 then litTo l k else litTo l k ||| 2 ^ k
theorem lit_lt (l : List Int) : ∀ k, litTo l k < 2 ^ k
  | 0 => by simp [litTo]
  | k + 1 => by
    have ih := lit_lt l k
    have h2 : 2 ^ k < 2 ^ (k + 1) := Nat.pow_lt_pow_right (by decide) (Nat.lt_succ_self k)
    unfold litTo
    split
    · omega
    · exact Nat.or_lt_two_pow (by omega) h2
theorem lit_bit (l : List Int) (j : Nat) : ∀ k, (litTo l k).testBit j = true ↔ (j < k ∧ l.getD j 0 ≠ 0)
  | 0 => by simp [litTo]
  | k + 1 => by
    have ih := lit_bit l j k
    unfold litTo
    split
    · rename_i h
      rw [ih]
      constructor
      · rintro ⟨h1, h2⟩; exact ⟨by omega, h2⟩
      · rintro ⟨h1, h2⟩
        refine ⟨?_, h2⟩
        rcases Nat.lt_or_ge j k with h3 | h3
        · exact h3
        · obtain rfl : j = k := by omega
          exact absurd h h2
    · rename_i h
      rw [set_bit, ih]
      constructor
      · rintro (⟨h1, h2⟩ | rfl)
        · exact ⟨by omega, h2⟩
        · exact ⟨by omega, h⟩
      · rintro ⟨h1, h2⟩
        rcases Nat.lt_or_ge j k with h3 | h3
        · exact .inl ⟨h3, h2⟩
        · exact .inr (by omega)
def clashB (m : List Int) (ss : List S87) (am red hold : Int) (l : List Int) : Bool := plan_fitB.f m ss am red hold && (decide (l.length = m.length) && (lamp_mayB.f l && !(freeB m (litTo l l.length : Int))))
theorem may_len {l : List Int} (h : lamp_mayB.f l = true) : 1 ≤ l.length ∧ l.length ≤ 8 := by
  unfold lamp_mayB.f at h
  rw [Bool.and_eq_true, decide_eq_true_eq] at h
  exact h.1
theorem may_rng {l : List Int} (h : lamp_mayB.f l = true) : ∀ x ∈ l, 0 ≤ x ∧ x < 3 := by
  intro x hx
  unfold lamp_mayB.f at h
  rw [Bool.and_eq_true, Bool.not_eq_true', List.any_eq_false] at h
  have := h.2 x hx
  simp only [lamp_badB.f, Bool.or_eq_true, decide_eq_true_eq, not_or] at this
  omega
theorem may_of {l : List Int} (h1 : 1 ≤ l.length ∧ l.length ≤ 8) (h2 : ∀ x ∈ l, 0 ≤ x ∧ x < 3) : lamp_mayB.f l = true := by
  unfold lamp_mayB.f
  rw [Bool.and_eq_true, decide_eq_true_eq, Bool.not_eq_true', List.any_eq_false]
  refine ⟨h1, fun x hx => ?_⟩
  have := h2 x hx
  simp only [lamp_badB.f, Bool.or_eq_true, decide_eq_true_eq, not_or]
  omega
theorem clash_loop (m : List Int) (ss : List S87) (am red hold : Int) (l : List Int) (hl : l.length ≤ 8) : ∀ d k : Nat, k + d = l.length → Ev (fun n => lamp_Clash.l0 n (litTo l k : Int) l (l.length : Int) (k : Int) m ss am red hold) (!(freeB m (litTo l l.length : Int))) := by
  intro d
  induction d with
  | zero =>
    intro k hk
    obtain rfl : k = l.length := by omega
    refine Ev.step (f := fun _ => some (!(freeB m (litTo l l.length : Int)))) (fun n => ?_) (Ev.now _)
    simp only [lamp_Clash.l0]
    rw [if_neg (by omega), free_f]
    rfl
  | succ d ih =>
    intro k hk
    have hlt : k < l.length := by omega
    have hg : rd l (k : Int) = l.getD k 0 := by simp [rd]
    have e1 : ((k : Int) + 1) = ((k + 1 : Nat) : Int) := by omega
    have hk2 := lit_lt l k
    have hp : 2 ^ k < 256 := pow_lt (by omega)
    refine Ev.step (fun n => ?_) (ih (k + 1) (by omega))
    simp only [lamp_Clash.l0]
    rw [if_pos (by omega), if_pos (by omega), if_pos (by omega), hg, wr (by omega) (by omega), e1, shl_one k (by omega), or_nat _ _ (by omega) (by omega)]
    show _ = lamp_Clash.l0 n ((if l.getD k 0 = 0 then litTo l k else litTo l k ||| 2 ^ k : Nat) : Int) l (l.length : Int) ((k + 1 : Nat) : Int) m ss am red hold
    split <;> rfl
theorem clash_ev (m : List Int) (ss : List S87) (am red hold : Int) (l : List Int) (hs : ss.length ≤ 9223372036854775807) : Ev (fun n => lamp_Clash.f n m ss am red hold l) (clashB m ss am red hold l) := by
  have hno : Ev (fun n => lamp_Clash.j0 n l true m ss am red hold) false := Ev.step (f := fun _ => some false) (fun n => by simp only [lamp_Clash.j0, if_true]) (Ev.now _)
  refine Ev.congr (fun n => rfl) (Ev.bind (fit_ev m ss am red hold hs) ?_)
  unfold clashB
  cases plan_fitB.f m ss am red hold with
  | false => simp only [Bool.false_eq_true, if_false, Bool.false_and]; exact hno
  | true =>
    simp only [if_true, Bool.true_and]
    by_cases hl : l.length = m.length
    · have hl' : (l.length : Int) = (m.length : Int) := by omega
      rw [decide_eq_true hl, Bool.true_and]
      simp only [hl', if_true, lamp_May.f, Option.bind_some]
      cases hm : lamp_mayB.f l with
      | false => rw [Bool.false_and]; exact hno
      | true =>
        rw [Bool.true_and]
        refine Ev.step (fun n => ?_) (clash_loop m ss am red hold l (may_len hm).2 l.length 0 (Nat.zero_add _))
        simp only [lamp_Clash.j0, Bool.not_true, Bool.false_eq_true, if_false]
        rfl
    · have hl' : ¬ ((l.length : Int) = (m.length : Int)) := by omega
      rw [decide_eq_false hl, Bool.false_and]
      simp only [hl', if_false]
      exact hno
/-! ### what a plan shows -/
theorem show_len (n : Nat) (G on : Int) : (lamp_showL.f n G on).length = n := by unfold lamp_showL.f; simp
theorem show_get (n : Nat) (G on : Int) (j : Nat) (hj : j < n) : (lamp_showL.f n G on).getD j 0 = if G.toNat.testBit j then on else 0 := by
  unfold lamp_showL.f
  simp [List.getD_eq_getElem?_getD, hj]
theorem on_rng (ph : Int) : 0 ≤ lamp_on.f ph ∧ lamp_on.f ph < 3 := by unfold lamp_on.f; split <;> (try split) <;> omega
theorem show_may (n : Nat) (G on : Int) (hn : 1 ≤ n ∧ n ≤ 8) (ho : 0 ≤ on ∧ on < 3) : lamp_mayB.f (lamp_showL.f n G on) = true := by
  refine may_of (by rw [show_len]; exact hn) fun x hx => ?_
  unfold lamp_showL.f at hx
  rw [List.mem_map] at hx
  obtain ⟨j, _, rfl⟩ := hx
  split <;> omega
/-- What a stage that is free shows never clashes. -/
theorem show_free {m : List Int} (hm : MayOk m) {G : Nat} (hG : G < 2 ^ m.length) (hf : freeB m (G : Int) = true) (on : Int) : freeB m (litTo (lamp_showL.f m.length (G : Int) on) m.length : Int) = true := by
  rw [free_iff hm (lit_lt _ _)]
  refine free_part ((free_iff hm hG).1 hf) fun k hk => ?_
  rw [lit_bit] at hk
  rw [show_get _ _ _ _ hk.1, Int.toNat_natCast] at hk
  cases hb : G.testBit k with
  | true => rfl
  | false => rw [hb] at hk; simp at hk
theorem stage_set {m : List Int} {ss : List S87} {am red hold : Int} (h : Fits m ss am red hold) {k : Nat} (hk : k < ss.length) : ∃ G : Nat, (rd_T87 ss (k : Int)).f0 = (G : Int) ∧ G < 2 ^ m.length ∧ freeB m (G : Int) = true := by
  have hst := h.stage _ (List.getElem_mem hk)
  have hp8 := h.may.p8
  rw [rd_stage ss hk]
  have hr : 0 ≤ ss[k].f0 ∧ ss[k].f0 < ((2 ^ m.length : Nat) : Int) := by
    refine Classical.byContradiction fun hn => ?_
    have hf := hst.1
    rw [free_none fun hh => hn hh.2] at hf
    cases hf
  obtain ⟨G, hG⟩ := Int.eq_ofNat_of_zero_le hr.1
  exact ⟨G, hG, by omega, by rw [← hG]; exact hst.1⟩
theorem show_clash {m : List Int} {ss : List S87} {am red hold : Int} (h : Fits m ss am red hold) {a : Int} (ha : 0 ≤ a ∧ a < (ss.length : Int)) (on : Int) : clashB m ss am red hold (lamp_showL.f m.length (rd_T87 ss a).f0 on) = false := by
  obtain ⟨k, rfl⟩ := Int.eq_ofNat_of_zero_le ha.1
  obtain ⟨G, hG, hlt, hf⟩ := stage_set h (show k < ss.length by omega)
  unfold clashB
  rw [hG, show_len, show_free h.may hlt hf on]
  simp
/-! ### letters -/
end Go.Proofs.YtpciieagafddcaaDoor.PL
