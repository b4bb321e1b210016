/- Plain laws on what package lamp's functions compute: numbers and lists alone (own text). -/
import Derived.Test.YtechgjbhgeddjaaDoorPQ
import Derived.Lib.Slices
import Derived.Lib.Strings
namespace Go.Proofs.YtechgjbhgeddjaaDoor.PL
open Go.RowKit Go.Proofs.YtechgjbhgeddjaaDoorW.PrintWords Go.Proofs.YtechgjbhgeddjaaDoorW.PrintLast Go.Proofs.YtechgjbhgeddjaaDoorW.PrintMore Go.Proofs.YtechgjbhgeddjaaDoor.F Go.Proofs.YtechgjbhgeddjaaDoor.PG Go.Proofs.YtechgjbhgeddjaaDoor.PM Go.Proofs.YtechgjbhgeddjaaDoor.PP Go.Proofs.YtechgjbhgeddjaaDoor.PQ
theorem awake_ev : Ev (fun n => pelicanlaw15_awake.f n) true := Ev.of (fun k => pelicanlaw15_awake.mono k) (k := 40) (by decide +kernel)
/-! ### which lamps are not red -/
def litTo (l : List Int) : Nat → Nat
  | 0 => 0
  | k + 1 => if l.getD k 0 = 0 then litTo l k else litTo l k ||| 2 ^ k
theorem lit_lt (l : List Int) : ∀ k, litTo l k < 2 ^ k
  | 0 => by simp [litTo]
  | k + 1 => by
    have ih := lit_lt l k
    have h2 : 2 ^ k < 2 ^ (k + 1) := Nat.pow_lt_pow_right (by decide) (Nat.lt_succ_self k)
    unfold litTo
    split
    · omega
    · exact Nat.or_lt_two_pow (by omega) h2
theorem lit_bit (l : List Int) (j : Nat) : ∀ k, (litTo l k).testBit j = true ↔ (j < k ∧ l.getD j 0 ≠ 0)
  | 0 => by simp [litTo]
  | k + 1 => by
    have ih := lit_bit l j k
    unfold litTo
    split
    · rename_i h
      rw [ih]
      constructor
      · rintro ⟨h1, h2⟩; exact ⟨by omega, h2⟩
      · rintro ⟨h1, h2⟩
        refine ⟨?_, h2⟩
        rcases Nat.lt_or_ge j k with h3 | h3
        · exact h3
        · obtain rfl : j = k := by omega
          exact absurd h h2
    · rename_i h
      rw [set_bit, ih]
      constructor
      · rintro (⟨h1, h2⟩ | rfl)
        · exact ⟨by omega, h2⟩
        · exact ⟨by omega, h⟩
      · rintro ⟨h1, h2⟩
        rcases Nat.lt_or_ge j k with h3 | h3
        · exact .inl ⟨h3, h2⟩
        · exact .inr (by omega)
def clashB (m : List Int) (ss : List S41) (am red hold : Int) (l : List Int) : Bool := plan_fitB.f m ss am red hold && (decide (l.length = m.length) && (lamp_mayB.f l && !(freeB m (litTo l l.length : Int))))
theorem may_len {l : List Int} (h : lamp_mayB.f l = true) : 1 ≤ l.length ∧ l.length ≤ 8 := by
  unfold lamp_mayB.f at h
  rw [Bool.and_eq_true, decide_eq_true_eq] at h
  exact h.1
theorem may_rng {l : List Int} (h : lamp_mayB.f l = true) : ∀ x ∈ l, 0 ≤ x ∧ x < 3 := by
  intro x hx
  unfold lamp_mayB.f at h
  rw [Bool.and_eq_true, Bool.not_eq_true', List.any_eq_false] at h
  have := h.2 x hx
  simp only [lamp_badB.f, Bool.or_eq_true, decide_eq_true_eq, not_or] at this
  omega
theorem may_of {l : List Int} (h1 : 1 ≤ l.length ∧ l.length ≤ 8) (h2 : ∀ x ∈ l, 0 ≤ x ∧ x < 3) : lamp_mayB.f l = true := by
  unfold lamp_mayB.f
  rw [Bool.and_eq_true, decide_eq_true_eq, Bool.not_eq_true', List.any_eq_false]
  refine ⟨h1, fun x hx => ?_⟩
  have := h2 x hx
  simp only [lamp_badB.f, Bool.or_eq_true, decide_eq_true_eq, not_or]
  omega
theorem clash_loop (m : List Int) (ss : List S41) (am red hold : Int) (l : List Int) (hl : l.length ≤ 8) : ∀ d k : Nat, k + d = l.length → Ev (fun n => lamp_Clash.l0 n (litTo l k : Int) l (l.length : Int) (k : Int) m ss am red hold) (!(freeB m (litTo l l.length : Int))) := by
  intro d
  induction d with
  | zero =>
    intro k hk
    obtain rfl : k = l.length := by omega
    refine Ev.step (f := fun _ => some (!(freeB m (litTo l l.length : Int)))) (fun n => ?_) (Ev.now _)
    simp only [lamp_Clash.l0]
    rw [if_neg (by omega), free_f]
    rfl
  | succ d ih =>
    intro k hk
    have hlt : k < l.length := by omega
    have hg : rd l (k : Int) = l.getD k 0 := by simp [rd]
    have e1 : ((k : Int) + 1) = ((k + 1 : Nat) : Int) := by omega
    have hk2 := lit_lt l k
    have hp : 2 ^ k < 256 := pow_lt (by omega)
    refine Ev.step (fun n => ?_) (ih (k + 1) (by omega))
    simp only [lamp_Clash.l0]
    rw [if_pos (by omega), if_pos (by omega), if_pos (by omega), hg, wr (by omega) (by omega), e1, shl_one k (by omega), or_nat _ _ (by omega) (by omega)]
    show _ = lamp_Clash.l0 n ((if l.getD k 0 = 0 then litTo l k else litTo l k ||| 2 ^ k : Nat) : Int) l (l.length : Int) ((k + 1 : Nat) : Int) m ss am red hold
    split <;> rfl
theorem clash_ev (m : List Int) (ss : List S41) (am red hold : Int) (l : List Int) (hs : ss.length ≤ 9223372036854775807) : Ev (fun n => lamp_Clash.f n m ss am red hold l) (clashB m ss am red hold l) := by
  have hno : Ev (fun n => lamp_Clash.j0 n l true m ss am red hold) false := Ev.step (f := fun _ => some false) (fun n => by simp only [lamp_Clash.j0, if_true]) (Ev.now _)
  refine Ev.congr (fun n => rfl) (Ev.bind (fit_ev m ss am red hold hs) ?_)
  unfold clashB
  cases plan_fitB.f m ss am red hold with
  | false => simp only [Bool.false_eq_true, if_false, Bool.false_and]; exact hno
  | true =>
    simp only [if_true, Bool.true_and]
    by_cases hl : l.length = m.length
    · have hl' : (l.length : Int) = (m.length : Int) := by omega
      rw [decide_eq_true hl, Bool.true_and]
      simp only [hl', if_true, lamp_May.f, Option.bind_some]
      cases hm : lamp_mayB.f l with
      | false => rw [Bool.false_and]; exact hno
      | true =>
        rw [Bool.true_and]
        refine Ev.step (fun n => ?_) (clash_loop m ss am red hold l (may_len hm).2 l.length 0 (Nat.zero_add _))
        simp only [lamp_Clash.j0, Bool.not_true, Bool.false_eq_true, if_false]
        rfl
    · have hl' : ¬ ((l.length : Int) = (m.length : Int)) := by omega
      rw [decide_eq_false hl, Bool.false_and]
      simp only [hl', if_false]
      exact hno
/-! ### what a plan shows -/
theorem show_len (n : Nat) (G on : Int) : (lamp_showL.f n G on).length = n := by unfold lamp_showL.f; simp
theorem show_get (n : Nat) (G on : Int) (j : Nat) (hj : j < n) : (lamp_showL.f n G on).getD j 0 = if G.toNat.testBit j then on else 0 := by
  unfold lamp_showL.f
  simp [List.getD_eq_getElem?_getD, hj]
theorem on_rng (ph : Int) : 0 ≤ lamp_on.f ph ∧ lamp_on.f ph < 3 := by unfold lamp_on.f; split <;> (try split) <;> omega
theorem show_may (n : Nat) (G on : Int) (hn : 1 ≤ n ∧ n ≤ 8) (ho : 0 ≤ on ∧ on < 3) : lamp_mayB.f (lamp_showL.f n G on) = true := by
  refine may_of (by rw [show_len]; exact hn) fun x hx => ?_
  unfold lamp_showL.f at hx
  rw [List.mem_map] at hx
  obtain ⟨j, _, rfl⟩ := hx
  split <;> omega
/-- What a stage that is free shows never clashes. -/
theorem show_free {m : List Int} (hm : MayOk m) {G : Nat} (hG : G < 2 ^ m.length) (hf : freeB m (G : Int) = true) (on : Int) : freeB m (litTo (lamp_showL.f m.length (G : Int) on) m.length : Int) = true := by
  rw [free_iff hm (lit_lt _ _)]
  refine free_part ((free_iff hm hG).1 hf) fun k hk => ?_
  rw [lit_bit] at hk
  rw [show_get _ _ _ _ hk.1, Int.toNat_natCast] at hk
  cases hb : G.testBit k with
  | true => rfl
  | false => rw [hb] at hk; simp at hk
theorem stage_set {m : List Int} {ss : List S41} {am red hold : Int} (h : Fits m ss am red hold) {k : Nat} (hk : k < ss.length) : ∃ G : Nat, (rd_T41 ss (k : Int)).f0 = (G : Int) ∧ G < 2 ^ m.length ∧ freeB m (G : Int) = true := by
  have hst := h.stage _ (List.getElem_mem hk)
  have hp8 := h.may.p8
  rw [rd_stage ss hk]
  have hr : 0 ≤ ss[k].f0 ∧ ss[k].f0 < ((2 ^ m.length : Nat) : Int) := by
    refine Classical.byContradiction fun hn => ?_
    have hf := hst.1
    rw [free_none fun hh => hn hh.2] at hf
    cases hf
  obtain ⟨G, hG⟩ := Int.eq_ofNat_of_zero_le hr.1
  exact ⟨G, hG, by omega, by rw [← hG]; exact hst.1⟩
theorem show_eq {m : List Int} {ss : List S41} {am red hold : Int} (h : Fits m ss am red hold) {a ph : Int} (ha : 0 ≤ a ∧ a < (ss.length : Int)) (hp : 0 ≤ ph ∧ ph < 3) : lamp_Show.f m ss am red hold a ph = some (lamp_showL.f m.length (rd_T41 ss a).f0 (lamp_on.f ph)) := by
  unfold lamp_Show.f
  rw [(fits_iff _ _ _ _ _).2 h, decide_eq_true (show 0 ≤ a ∧ a < (ss.length : Int) ∧ 0 ≤ ph ∧ ph < 3 from ⟨ha.1, ha.2, hp.1, hp.2⟩)]
  rfl
theorem show_none {m : List Int} {ss : List S41} {am red hold : Int} {a ph : Int} (h : ¬ (plan_fitB.f m ss am red hold = true ∧ 0 ≤ a ∧ a < (ss.length : Int) ∧ 0 ≤ ph ∧ ph < 3)) : lamp_Show.f m ss am red hold a ph = some [] := by
  unfold lamp_Show.f
  cases hf : plan_fitB.f m ss am red hold with
  | false => rfl
  | true =>
    rw [decide_eq_false fun hh => h ⟨hf, hh⟩]
    rfl
theorem show_clash {m : List Int} {ss : List S41} {am red hold : Int} (h : Fits m ss am red hold) {a : Int} (ha : 0 ≤ a ∧ a < (ss.length : Int)) (on : Int) : clashB m ss am red hold (lamp_showL.f m.length (rd_T41 ss a).f0 on) = false := by
  obtain ⟨k, rfl⟩ := Int.eq_ofNat_of_zero_le ha.1
  obtain ⟨G, hG, hlt, hf⟩ := stage_set h (show k < ss.length by omega)
  unfold clashB
  rw [hG, show_len, show_free h.may hlt hf on]
  simp
/-- What the statement LampClash says. -/
def lampClashLaw (m : List Int) (ss : List S41) (am red hold : Int) (l : List Int) (g x : Int) : Bool :=
  if m.length ≤ 10 ∧ ss.length ≤ 10 ∧ l.length ≤ 20 ∧ 0 ≤ g ∧ g < (l.length : Int) ∧ 1 ≤ x ∧ x ≤ 2 then (!(clashB m ss am red hold l) || clashB m ss am red hold (l.set g.toNat x)) && !(clashB m ss am red hold (List.replicate l.length 0)) else true
theorem clash_red (m : List Int) (ss : List S41) (am red hold : Int) (n : Nat) : clashB m ss am red hold (List.replicate n 0) = false := by
  unfold clashB
  cases hf : plan_fitB.f m ss am red hold with
  | false => rfl
  | true =>
    by_cases hl : (List.replicate n (0 : Int)).length = m.length
    · rw [decide_eq_true hl]
      have hm := ((fits_iff _ _ _ _ _).1 hf).may
      have hlt := lit_lt (List.replicate n (0 : Int)) (List.replicate n (0 : Int)).length
      rw [hl] at hlt
      have hfr : freeB m (litTo (List.replicate n (0 : Int)) (List.replicate n (0 : Int)).length : Int) = true := by
        rw [hl, free_iff hm hlt]
        intro i k _ _ h1 _
        have := ((lit_bit _ _ _).1 h1).2
        simp [List.getD_eq_getElem?_getD, List.getElem?_replicate] at this
        split at this <;> simp at this
      rw [hfr]
      simp
    · rw [decide_eq_false hl]
      simp
theorem clash_more (m : List Int) (ss : List S41) (am red hold : Int) (l : List Int) (g : Nat) (hg : g < l.length) (x : Int) (hx : 1 ≤ x ∧ x ≤ 2) (h : clashB m ss am red hold l = true) : clashB m ss am red hold (l.set g x) = true := by
  unfold clashB at h ⊢
  rw [Bool.and_eq_true, Bool.and_eq_true, Bool.and_eq_true, decide_eq_true_eq] at h
  obtain ⟨hf, hl, hmay, hfree⟩ := h
  have hm := ((fits_iff _ _ _ _ _).1 hf).may
  have hl' : (l.set g x).length = m.length := by rw [List.length_set]; exact hl
  have hmay' : lamp_mayB.f (l.set g x) = true := by
    refine may_of (by rw [List.length_set]; exact may_len hmay) fun y hy => ?_
    rcases List.mem_or_eq_of_mem_set hy with h | rfl
    · exact may_rng hmay y h
    · omega
  have hn : freeB m (litTo (l.set g x) (l.set g x).length : Int) = false := by
    cases hc : freeB m (litTo (l.set g x) (l.set g x).length : Int) with
    | false => rfl
    | true =>
      exfalso
      have h1 := lit_lt (l.set g x) (l.set g x).length
      have h2 := lit_lt l l.length
      rw [hl'] at h1
      rw [hl] at h2
      rw [hl', free_iff hm h1] at hc
      have : freeB m (litTo l l.length : Int) = true := by
        rw [hl, free_iff hm h2]
        refine free_part hc fun j hj => ?_
        rw [lit_bit] at hj ⊢
        refine ⟨hj.1, ?_⟩
        by_cases e : g = j
        · subst e
          have : (l.set g x).getD g 0 = x := by simp [List.getD_eq_getElem?_getD, hg]
          rw [this]
          omega
        · have : (l.set g x).getD j 0 = l.getD j 0 := by simp [List.getD_eq_getElem?_getD, e]
          rw [this]
          exact hj.2
      rw [this] at hfree
      cases hfree
  rw [hf, decide_eq_true hl', hmay', hn]
  rfl
/-! ### letters -/
theorem idx_letter {x : Int} (h : 0 ≤ x ∧ x < 3) : lamp_idx.f (lamp_letter.f x).toNat = x := by
  rcases (by omega : x = 0 ∨ x = 1 ∨ x = 2) with rfl | rfl | rfl <;> decide
theorem letter_idx {c : UInt8} (h : 0 ≤ lamp_idx.f c.toNat) : lamp_letter.f (lamp_idx.f c.toNat) = c := by
  have hc : c = UInt8.ofNat c.toNat := UInt8.ofNat_toNat.symm
  unfold lamp_idx.f at h ⊢
  by_cases h1 : c.toNat = 114
  · rw [if_pos h1]; rw [hc, h1]; rfl
  · by_cases h2 : c.toNat = 97
    · rw [if_neg h1, if_pos h2]; rw [hc, h2]; rfl
    · by_cases h3 : c.toNat = 103
      · rw [if_neg h1, if_neg h2, if_pos h3]; rw [hc, h3]; rfl
      · rw [if_neg h1, if_neg h2, if_neg h3] at h
        omega
theorem idx_rng (c : Nat) : -1 ≤ lamp_idx.f c ∧ lamp_idx.f c ≤ 2 := by
  unfold lamp_idx.f
  repeat' split
  all_goals decide
theorem read_letters : ∀ {l : List Int}, (∀ x ∈ l, 0 ≤ x ∧ x < 3) → lamp_readL.f (lamp_letters.f l) = l
  | [], _ => rfl
  | x :: l, h => by
    have ih := read_letters (l := l) fun y hy => h y (List.mem_cons_of_mem _ hy)
    unfold lamp_readL.f lamp_letters.f at ih ⊢
    rw [List.map_cons, List.map_cons, ih, idx_letter (h x (List.mem_cons_self ..))]
theorem good_letters {l : List Int} (h : ∀ x ∈ l, 0 ≤ x ∧ x < 3) : lamp_goodL.f (lamp_letters.f l) = true := by
  unfold lamp_goodL.f lamp_letters.f
  rw [List.all_eq_true]
  intro c hc
  obtain ⟨x, hx, rfl⟩ := List.mem_map.1 hc
  rw [idx_letter (h x hx)]
  exact decide_eq_true (h x hx).1
theorem letters_read : ∀ {l : List UInt8}, lamp_goodL.f l = true → lamp_letters.f (lamp_readL.f l) = l
  | [], _ => rfl
  | c :: l, h => by
    unfold lamp_goodL.f at h
    rw [List.all_cons, Bool.and_eq_true, decide_eq_true_eq] at h
    have ih := letters_read (l := l) h.2
    unfold lamp_readL.f lamp_letters.f at ih ⊢
    rw [List.map_cons, List.map_cons, ih, letter_idx h.1]
theorem text_eq {l : List Int} (hm : lamp_mayB.f l = true) : lamp_textB.f l = ⟨(lamp_letters.f l).toArray⟩ := by unfold lamp_textB.f; rw [hm]; rfl
theorem text_none {l : List Int} (hm : lamp_mayB.f l = false) : lamp_textB.f l = ⟨#[]⟩ := by unfold lamp_textB.f; rw [hm]; rfl
theorem text_list {l : List Int} (hm : lamp_mayB.f l = true) : (lamp_textB.f l).toList = lamp_letters.f l := by rw [text_eq hm, Lib.toList_data]
theorem text_size {l : List Int} (hm : lamp_mayB.f l = true) : (lamp_textB.f l).size = l.length := by
  rw [text_eq hm]
  show (lamp_letters.f l).toArray.size = _
  simp [lamp_letters.f]
theorem read_text {l : List Int} (hm : lamp_mayB.f l = true) : lamp_Read.f (lamp_textB.f l) = some (l, true) := by
  have h1 := may_len hm
  have h2 := may_rng hm
  have hd : (lamp_textB.f l).data.toList = lamp_letters.f l := by rw [text_eq hm]
  unfold lamp_Read.f
  rw [text_size hm, hd, decide_eq_true h1, good_letters h2, read_letters h2]
  rfl
theorem read_none {l : List Int} (hm : lamp_mayB.f l = false) : lamp_Read.f (lamp_textB.f l) = some ([], false) := by rw [text_none hm]; rfl
/-- What a text that can be read, is. -/
theorem read_some (s : ByteArray) : lamp_Read.f s = some ([], false) ∨ ∃ y, lamp_Read.f s = some (y, true) ∧ lamp_mayB.f y = true ∧ (lamp_textB.f y).toList = s.toList := by
  unfold lamp_Read.f
  cases hb : decide (1 ≤ s.size ∧ s.size ≤ 8) && lamp_goodL.f s.data.toList with
  | false => exact .inl rfl
  | true =>
    rw [Bool.and_eq_true, decide_eq_true_eq] at hb
    have hlen : s.data.toList.length = s.size := Array.length_toList
    have hm : lamp_mayB.f (lamp_readL.f s.data.toList) = true := by
      refine may_of (by unfold lamp_readL.f; rw [List.length_map, hlen]; exact hb.1) fun x hx => ?_
      unfold lamp_readL.f at hx
      obtain ⟨c, hc, rfl⟩ := List.mem_map.1 hx
      have hg := hb.2
      unfold lamp_goodL.f at hg
      have := of_decide_eq_true (List.all_eq_true.1 hg c hc)
      have := idx_rng c.toNat
      omega
    refine .inr ⟨_, rfl, hm, ?_⟩
    rw [text_list hm, letters_read hb.2, Lib.toList_data]
end Go.Proofs.YtechgjbhgeddjaaDoor.PL
