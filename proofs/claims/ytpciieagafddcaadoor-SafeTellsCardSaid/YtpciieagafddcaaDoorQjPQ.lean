/- More plain laws on plans: what a plan that fits is made of, and the stage behind one (own text). -/
import Derived.Test.YtpciieagafddcaaDoorQjPP
import Derived.Test.YtpciieagafddcaaDoorQjD
import Derived.Lib.Slices
import Derived.Lib.Strings
namespace Go.Proofs.YtpciieagafddcaaDoor.PQ
open Go.RowKit Go.Proofs.YtpciieagafddcaaDoorW.PrintWords Go.Proofs.YtpciieagafddcaaDoorW.PrintLast Go.Proofs.YtpciieagafddcaaDoorW.PrintMore Go.Proofs.YtpciieagafddcaaDoor.F Go.Proofs.YtpciieagafddcaaDoor.PG Go.Proofs.YtpciieagafddcaaDoor.PM Go.Proofs.YtpciieagafddcaaDoor.PP
theorem few_f (m : List Int) (ss : List S87) (am red hold : Int) : pelicanlaw14_Few.f m ss am red hold = some (decide (m.length ≤ 10 ∧ ss.length ≤ 10)) := by
  unfold pelicanlaw14_Few.f
  by_cases h : (m.length : Int) ≤ 10
  · rw [if_pos h]
    congr 1
    rw [decide_eq_decide]
    omega
  · rw [if_neg h]
    congr 1
    exact (decide_eq_false (by omega)).symm
structure Fits (m : List Int) (ss : List S87) (am red hold : Int) : Prop where
  stage : ∀ s ∈ ss, freeB m s.f0 = true ∧ s.f0 ≠ 0 ∧ (1 ≤ s.f1 ∧ s.f1 ≤ 200) ∧ (s.f1 ≤ s.f2 ∧ s.f2 ≤ 200)
  may : MayOk m
  few : 2 ≤ ss.length ∧ ss.length ≤ 6
  had : ss.foldl (fun o s => Go.bits .or .i64 o s.f0) 0 = wrap64 ((shl .i64 1 (m.length : Int)) - 1)
  amber : 1 ≤ am ∧ am ≤ 200
  red : 1 ≤ red ∧ red ≤ 200
  hold : 0 ≤ hold ∧ hold ≤ 300
theorem fits_iff (m : List Int) (ss : List S87) (am red hold : Int) : plan_fitB.f m ss am red hold = true ↔ Fits m ss am red hold := by
  unfold plan_fitB.f
  simp only [Bool.and_eq_true, decide_eq_true_eq, List.all_eq_true, may_iff, stage_eq]
  constructor
  · rintro ⟨h1, h2, h3, h4, h5, h6, h7⟩
    exact ⟨fun s hs => h1 s hs, h2, h3, h4, h5, h6, h7⟩
  · rintro ⟨h1, h2, h3, h4, h5, h6, h7⟩
    exact ⟨fun s hs => h1 s hs, h2, h3, h4, h5, h6, h7⟩
end Go.Proofs.YtpciieagafddcaaDoor.PQ
/- Plain laws on signal machines: what may be (own text). -/
namespace Go.Proofs.YtpciieagafddcaaDoor.PT
open Go.RowKit Go.Proofs.YtpciieagafddcaaDoorW.PrintWords Go.Proofs.YtpciieagafddcaaDoorW.PrintLast Go.Proofs.YtpciieagafddcaaDoorW.PrintMore Go.Proofs.YtpciieagafddcaaDoor.F
set_option linter.unusedSimpArgs false
theorem stin_some (a b c : Int) : stage_in.f a b c = some (decide (b ≤ a ∧ a ≤ c)) := by
  unfold stage_in.f
  by_cases h : a ≥ b
  · rw [if_pos h]; congr 1; rw [decide_eq_decide]; omega
  · rw [if_neg h]; congr 1; exact (decide_eq_false (by omega)).symm
theorem mayPhase_f (x : S25) (s : Sg) (hs : 0 ≤ s.stage ∧ s.stage < (x.f1.length : Int)) (ha : 1 ≤ x.f2 ∧ x.f2 ≤ 200) :
    stage_phase.f x.f0 x.f1 x.f2 x.f3 x.f4 s.plan s.stage s.next s.phase s.t s.hold s.held s.ask s.want s.stop = some (if s.phase = 0 then decide (s.held ≤ s.t ∧ wrap64 (s.t - s.held) < (rd_T87 x.f1 s.stage).f2) && !(s.stop && decide (0 < s.hold)) else decide (s.hold = 0 ∧ s.held = 0 ∧ s.ask = -1 ∧ 0 ≤ s.t ∧ s.t ≤ (if s.phase = 1 then x.f2 - 1 else x.f3))) := by
  unfold stage_phase.f
  by_cases h0 : s.phase = 0
  · rw [if_pos h0, if_pos h0]
    by_cases h1 : s.t ≥ s.held
    · rw [if_pos h1, if_pos hs.1, if_pos hs.2]
      by_cases h2 : wrap64 (s.t - s.held) < (rd_T87 x.f1 s.stage).f2
      · rw [if_pos h2, decide_eq_true (show s.held ≤ s.t ∧ wrap64 (s.t - s.held) < (rd_T87 x.f1 s.stage).f2 from ⟨h1, h2⟩)]
        cases s.stop <;> simp
      · rw [if_neg h2, decide_eq_false (fun h => h2 h.2), Bool.false_and]
    · rw [if_neg h1, decide_eq_false (fun h => h1 h.1), Bool.false_and]
  · rw [if_neg h0, if_neg h0]
    by_cases h1 : s.hold = 0
    · by_cases h2 : s.held = 0
      · by_cases h3 : s.ask = -1
        · rw [PG.wr (by omega) (by omega), stin_some, stin_some]
          by_cases h4 : s.phase = 1
          · rw [if_pos h4, if_pos h1, if_pos h2, if_pos h3]; simp [h1, h2, h3, h4]
          · rw [if_neg h4, if_pos h1, if_pos h2, if_pos h3]; simp [h1, h2, h3, h4]
        · simp [h1, h2, h3]
      · simp [h1, h2]
    · simp [h1]
theorem may_plan {l : List S25} (hall : (decide (1 ≤ l.length ∧ l.length ≤ 3) && !(l.any (plan_badB.f (rd_T25 l 0).f0.length))) = true) {k : Int} (h0 : 0 ≤ k) (h1 : k < (l.length : Int)) : PQ.Fits (rd_T25 l k).f0 (rd_T25 l k).f1 (rd_T25 l k).f2 (rd_T25 l k).f3 (rd_T25 l k).f4 ∧ (rd_T25 l k).f0.length = (rd_T25 l 0).f0.length := by
  rw [Bool.and_eq_true, Bool.not_eq_true', List.any_eq_false] at hall
  obtain ⟨j, rfl⟩ := Int.eq_ofNat_of_zero_le h0
  have hj : j < l.length := by omega
  have e : rd_T25 l (j : Int) = l[j] := by simp [rd_T25, hj]
  rw [e]
  have hb := hall.2 _ (List.getElem_mem hj)
  unfold plan_badB.f at hb
  simp only [Bool.or_eq_true, Bool.not_eq_true', decide_eq_true_eq, not_or, Bool.not_eq_false, ne_eq, Decidable.not_not] at hb
  exact ⟨(PQ.fits_iff _ _ _ _ _).1 hb.1, hb.2⟩
theorem mayB_parts {l : List S25} {s : Sg} (h : stage_mayB.f l s = true) :
    (0 ≤ s.plan ∧ s.plan < (l.length : Int)) ∧ (0 ≤ s.stage ∧ s.stage < ((rd_T25 l s.plan).f1.length : Int)) ∧ (0 ≤ s.next ∧ s.next < ((rd_T25 l s.plan).f1.length : Int)) ∧ (-1 ≤ s.ask ∧ s.ask < ((rd_T25 l s.plan).f1.length : Int)) ∧ (-1 ≤ s.want ∧ s.want < (l.length : Int)) ∧ (0 ≤ s.phase ∧ s.phase < 3) ∧ (0 ≤ s.held ∧ s.held ≤ (rd_T25 l s.plan).f4) ∧ (0 ≤ s.hold ∧ s.hold ≤ (rd_T25 l s.plan).f4 - s.held) ∧
    (s.phase = 0 → s.held ≤ s.t ∧ wrap64 (s.t - s.held) < (rd_T87 (rd_T25 l s.plan).f1 s.stage).f2 ∧ ¬ (s.stop = true ∧ 0 < s.hold)) ∧ (s.phase ≠ 0 → s.hold = 0 ∧ s.held = 0 ∧ s.ask = -1 ∧ 0 ≤ s.t ∧ s.t ≤ (if s.phase = 1 then (rd_T25 l s.plan).f2 - 1 else (rd_T25 l s.plan).f3)) := by
  unfold stage_mayB.f at h
  rw [Bool.and_eq_true] at h
  obtain ⟨-, h⟩ := h
  simp only [Bool.and_eq_true, decide_eq_true_eq] at h
  obtain ⟨h1, h2, h3, h4, h5, h6, h7, h8, h9⟩ := h
  refine ⟨h1, h2, h3, h4, h5, h6, h7, h8, fun hp => ?_, fun hp => ?_⟩
  · rw [if_pos hp] at h9
    simp only [Bool.and_eq_true, decide_eq_true_eq, Bool.not_eq_true', Bool.and_eq_false_iff, decide_eq_false_iff_not] at h9
    refine ⟨h9.1.1, h9.1.2, fun hh => ?_⟩
    rcases h9.2 with h | h
    · rw [hh.1] at h; cases h
    · exact h hh.2
  · rw [if_neg hp] at h9
    exact of_decide_eq_true h9
theorem mayB_all {l : List S25} {s : Sg} (h : stage_mayB.f l s = true) : (decide (1 ≤ l.length ∧ l.length ≤ 3) && !(l.any (plan_badB.f (rd_T25 l 0).f0.length))) = true := by
  unfold stage_mayB.f at h
  rw [Bool.and_eq_true] at h
  exact h.1
end Go.Proofs.YtpciieagafddcaaDoor.PT
/- Plain laws on what package lamp's functions compute: numbers and lists alone (own text). -/
namespace Go.Proofs.YtpciieagafddcaaDoor.PL
open Go.RowKit Go.Proofs.YtpciieagafddcaaDoorW.PrintWords Go.Proofs.YtpciieagafddcaaDoorW.PrintLast Go.Proofs.YtpciieagafddcaaDoorW.PrintMore Go.Proofs.YtpciieagafddcaaDoor.F Go.Proofs.YtpciieagafddcaaDoor.PG Go.Proofs.YtpciieagafddcaaDoor.PM Go.Proofs.YtpciieagafddcaaDoor.PP Go.Proofs.YtpciieagafddcaaDoor.PQ
def litTo (l : List Int) : Nat → Nat
  | 0 => 0
  | k + 1 => if l.getD k 0 = 0 then litTo l k else litTo l k ||| 2 ^ k
theorem lit_lt (l : List Int) : ∀ k, litTo l k < 2 ^ k
  | 0 => by simp [litTo]
  | k + 1 => by
    have ih := lit_lt l k
    have h2 : 2 ^ k < 2 ^ (k + 1) := Nat.pow_lt_pow_right (by decide) (Nat.lt_succ_self k)
    unfold litTo
    split
    · omega
    · exact Nat.or_lt_two_pow (by omega) h2
theorem lit_bit (l : List Int) (j : Nat) : ∀ k, (litTo l k).testBit j = true ↔ (j < k ∧ l.getD j 0 ≠ 0)
  | 0 => by simp [litTo]
  | k + 1 => by
    have ih := lit_bit l j k
    unfold litTo
    split
    · rename_i h
      rw [ih]
      constructor
      · rintro ⟨h1, h2⟩; exact ⟨by omega, h2⟩
      · rintro ⟨h1, h2⟩
        refine ⟨?_, h2⟩
        rcases Nat.lt_or_ge j k with h3 | h3
        · exact h3
        · obtain rfl : j = k := by omega
          exact absurd h h2
    · rename_i h
      rw [set_bit, ih]
      constructor
      · rintro (⟨h1, h2⟩ | rfl)
        · exact ⟨by omega, h2⟩
        · exact ⟨by omega, h⟩
      · rintro ⟨h1, h2⟩
        rcases Nat.lt_or_ge j k with h3 | h3
        · exact .inl ⟨h3, h2⟩
        · exact .inr (by omega)
def clashB (m : List Int) (ss : List S87) (am red hold : Int) (l : List Int) : Bool := plan_fitB.f m ss am red hold && (decide (l.length = m.length) && (lamp_mayB.f l && !(freeB m (litTo l l.length : Int))))
theorem may_len {l : List Int} (h : lamp_mayB.f l = true) : 1 ≤ l.length ∧ l.length ≤ 8 := by
  unfold lamp_mayB.f at h
  rw [Bool.and_eq_true, decide_eq_true_eq] at h
  exact h.1
theorem may_of {l : List Int} (h1 : 1 ≤ l.length ∧ l.length ≤ 8) (h2 : ∀ x ∈ l, 0 ≤ x ∧ x < 3) : lamp_mayB.f l = true := by
  unfold lamp_mayB.f
  rw [Bool.and_eq_true, decide_eq_true_eq, Bool.not_eq_true', List.any_eq_false]
  refine ⟨h1, fun x hx => ?_⟩
  have := h2 x hx
  simp only [lamp_badB.f, Bool.or_eq_true, decide_eq_true_eq, not_or]
  omega
theorem show_len (n : Nat) (G on : Int) : (lamp_showL.f n G on).length = n := by unfold lamp_showL.f; simp
theorem show_get (n : Nat) (G on : Int) (j : Nat) (hj : j < n) : (lamp_showL.f n G on).getD j 0 = if G.toNat.testBit j then on else 0 := by
  unfold lamp_showL.f
  simp [List.getD_eq_getElem?_getD, hj]
theorem on_rng (ph : Int) : 0 ≤ lamp_on.f ph ∧ lamp_on.f ph < 3 := by unfold lamp_on.f; split <;> (try split) <;> omega
theorem show_may (n : Nat) (G on : Int) (hn : 1 ≤ n ∧ n ≤ 8) (ho : 0 ≤ on ∧ on < 3) : lamp_mayB.f (lamp_showL.f n G on) = true := by
  refine may_of (by rw [show_len]; exact hn) fun x hx => ?_
  unfold lamp_showL.f at hx
  rw [List.mem_map] at hx
  obtain ⟨j, _, rfl⟩ := hx
  split <;> omega
theorem show_free {m : List Int} (hm : MayOk m) {G : Nat} (hG : G < 2 ^ m.length) (hf : freeB m (G : Int) = true) (on : Int) : freeB m (litTo (lamp_showL.f m.length (G : Int) on) m.length : Int) = true := by
  rw [free_iff hm (lit_lt _ _)]
  refine free_part ((free_iff hm hG).1 hf) fun k hk => ?_
  rw [lit_bit] at hk
  rw [show_get _ _ _ _ hk.1, Int.toNat_natCast] at hk
  cases hb : G.testBit k with
  | true => rfl
  | false => rw [hb] at hk; simp at hk
theorem stage_set {m : List Int} {ss : List S87} {am red hold : Int} (h : Fits m ss am red hold) {k : Nat} (hk : k < ss.length) : ∃ G : Nat, (rd_T87 ss (k : Int)).f0 = (G : Int) ∧ G < 2 ^ m.length ∧ freeB m (G : Int) = true := by
  have hst := h.stage _ (List.getElem_mem hk)
  have hp8 := h.may.p8
  rw [rd_stage ss hk]
  have hr : 0 ≤ ss[k].f0 ∧ ss[k].f0 < ((2 ^ m.length : Nat) : Int) := by
    refine Classical.byContradiction fun hn => ?_
    have hf := hst.1
    rw [free_none fun hh => hn hh.2] at hf
    cases hf
  obtain ⟨G, hG⟩ := Int.eq_ofNat_of_zero_le hr.1
  exact ⟨G, hG, by omega, by rw [← hG]; exact hst.1⟩
theorem show_eq {m : List Int} {ss : List S87} {am red hold : Int} (h : Fits m ss am red hold) {a ph : Int} (ha : 0 ≤ a ∧ a < (ss.length : Int)) (hp : 0 ≤ ph ∧ ph < 3) : lamp_Show.f m ss am red hold a ph = some (lamp_showL.f m.length (rd_T87 ss a).f0 (lamp_on.f ph)) := by
  unfold lamp_Show.f
  rw [(fits_iff _ _ _ _ _).2 h, decide_eq_true (show 0 ≤ a ∧ a < (ss.length : Int) ∧ 0 ≤ ph ∧ ph < 3 from ⟨ha.1, ha.2, hp.1, hp.2⟩)]
  rfl
theorem show_none {m : List Int} {ss : List S87} {am red hold : Int} {a ph : Int} (h : ¬ (plan_fitB.f m ss am red hold = true ∧ 0 ≤ a ∧ a < (ss.length : Int) ∧ 0 ≤ ph ∧ ph < 3)) : lamp_Show.f m ss am red hold a ph = some [] := by
  unfold lamp_Show.f
  cases hf : plan_fitB.f m ss am red hold with
  | false => rfl
  | true =>
    rw [decide_eq_false fun hh => h ⟨hf, hh⟩]
    rfl
theorem show_clash {m : List Int} {ss : List S87} {am red hold : Int} (h : Fits m ss am red hold) {a : Int} (ha : 0 ≤ a ∧ a < (ss.length : Int)) (on : Int) : clashB m ss am red hold (lamp_showL.f m.length (rd_T87 ss a).f0 on) = false := by
  obtain ⟨k, rfl⟩ := Int.eq_ofNat_of_zero_le ha.1
  obtain ⟨G, hG, hlt, hf⟩ := stage_set h (show k < ss.length by omega)
  unfold clashB
  rw [hG, show_len, show_free h.may hlt hf on]
  simp
end Go.Proofs.YtpciieagafddcaaDoor.PL
