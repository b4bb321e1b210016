/- The document's answers for layer 15, by definition, are what the program's functions compute (own text). -/
import Derived.Test.YtpciieagafddcaaDoorQiRF
import Derived.Test.YtpciieagafddcaaDoorQiPL
import Derived.Test.YtpciieagafddcaaDoorQiDR15
namespace Go.Proofs.YtpciieagafddcaaDoor.RL
open Go.RowKit Go.Proofs.YtpciieagafddcaaDoorW.PrintWords Go.Proofs.YtpciieagafddcaaDoorW.PrintLast Go.Proofs.YtpciieagafddcaaDoorW.PrintMore Go.Proofs.YtpciieagafddcaaDoor.F Go.Proofs.YtpciieagafddcaaDoor.PG Go.Proofs.YtpciieagafddcaaDoor.PM Go.Proofs.YtpciieagafddcaaDoor.PP Go.Proofs.YtpciieagafddcaaDoor.PQ Go.Proofs.YtpciieagafddcaaDoor.PL Go.Proofs.YtpciieagafddcaaDoor.RF
/-- A loop that stops at the first that hits. -/
theorem loop_any {g : Nat → Nat → Option Bool} {n : Nat} {hit : Nat → Bool} {C : Bool}
    (hend : Ev (fun f => g f n) C)
    (hstep : ∀ k, k < n → hit k = false → ∀ r, Ev (fun f => g f (k + 1)) r → Ev (fun f => g f k) r)
    (hstop : ∀ k, k < n → hit k = true → Ev (fun f => g f k) true) :
    ∀ d k, k + d = n → Ev (fun f => g f k) ((List.range' k d).any hit || C) := by
  intro d
  induction d with
  | zero =>
    intro k hk
    obtain rfl : k = n := by omega
    exact hend
  | succ d ih =>
    intro k hk
    rw [List.range'_succ, List.any_cons]
    cases hh : hit k with
    | false =>
      rw [Bool.false_or]
      exact hstep k (by omega) hh _ (ih (k + 1) (by omega))
    | true =>
      rw [Bool.true_or, Bool.true_or]
      exact hstop k (by omega) hh
theorem loop_hit {g : Nat → Nat → Option Bool} {n : Nat} {hit : Nat → Bool}
    (hstep : ∀ k, k < n → hit k = false → ∀ r, Ev (fun f => g f (k + 1)) r → Ev (fun f => g f k) r)
    (hstop : ∀ k, k < n → hit k = true → Ev (fun f => g f k) true) :
    ∀ d k, k + d = n → (List.range' k d).any hit = true → Ev (fun f => g f k) true := by
  intro d
  induction d with
  | zero => intro k _ h; cases h
  | succ d ih =>
    intro k hk h
    rw [List.range'_succ, List.any_cons] at h
    cases hh : hit k with
    | false =>
      rw [hh, Bool.false_or] at h
      exact hstep k (by omega) hh _ (ih (k + 1) (by omega) h)
    | true => exact hstop k (by omega) hh
theorem rd_get (l : List Int) (k : Nat) : rd l (k : Int) = l.getD k 0 := by simp [rd]
def lampOk (l : List Int) (k : Nat) : Bool := decide (0 ≤ l.getD k 0 ∧ l.getD k 0 < 3)
theorem may15_ev (l : List Int) (hl : l.length ≤ 1000) : Ev (fun n => pelicanref15_May.f n l) (lamp_mayB.f l) := by
  have hno : Ev (fun n => pelicanref15_May.j0 n l true) false := Ev.step (f := fun _ => some false) (fun n => by simp only [pelicanref15_May.j0, if_true]) (Ev.now _)
  by_cases h : 1 ≤ l.length ∧ l.length ≤ 8
  · have key := loop_all (n := l.length) (g := fun n k => pelicanref15_May.l0 n l (k : Int)) (ok := lampOk l) (C := true) (fun _ => ?_) (fun k hk hok r hE => ?_) (fun k hk hok => ?_) l.length 0 (Nat.zero_add _) (fun j hj => absurd hj (Nat.not_lt_zero j))
    · have heq : lamp_mayB.f l = ((List.range' 0 l.length).all (lampOk l) && true) := by
        rw [Bool.and_true, Bool.eq_iff_iff, all_range]
        constructor
        · intro hm j hj
          have := may_rng hm _ (List.getElem_mem hj)
          have e : l.getD j 0 = l[j] := by simp [hj]
          exact decide_eq_true (by rw [e]; exact this)
        · intro hh
          refine may_of h fun x hx => ?_
          obtain ⟨j, hj, rfl⟩ := List.mem_iff_getElem.1 hx
          have e : l.getD j 0 = l[j] := by simp [hj]
          have := of_decide_eq_true (hh j hj)
          rwa [e] at this
      rw [heq]
      refine Ev.congr (f := fun n => pelicanref15_May.j0 n l false) (fun n => ?_) (Ev.step (fun n => ?_) key)
      · unfold pelicanref15_May.f
        rw [if_neg (by omega), decide_eq_false (by omega)]
      · simp only [pelicanref15_May.j0, Bool.false_eq_true, if_false]
        rfl
    · refine Ev.step (f := fun _ => some true) (fun n => ?_) (Ev.now _)
      simp only [pelicanref15_May.l0]
      rw [if_neg (by omega)]
    · have hok := of_decide_eq_true hok
      have e1 : ((k : Int) + 1) = ((k + 1 : Nat) : Int) := by omega
      refine Ev.step (fun n => ?_) hE
      simp only [pelicanref15_May.l0]
      rw [if_pos (by omega), if_pos (by omega), rd_get, if_neg (by omega), if_neg (by omega), wr (by omega) (by omega), e1]
    · have hok := of_decide_eq_false hok
      refine Ev.step (f := fun _ => some false) (fun n => ?_) (Ev.now _)
      simp only [pelicanref15_May.l0]
      rw [if_pos (by omega), if_pos (by omega), rd_get]
      by_cases h0 : l.getD k 0 < 0
      · rw [if_pos h0]
      · rw [if_neg h0, if_pos (by omega)]
  · have hf : lamp_mayB.f l = false := by unfold lamp_mayB.f; rw [decide_eq_false h, Bool.false_and]
    rw [hf]
    refine Ev.congr (f := fun n => pelicanref15_May.j0 n l true) (fun n => ?_) hno
    unfold pelicanref15_May.f
    by_cases c : (l.length : Int) < 1
    · rw [if_pos c]
    · rw [if_neg c, decide_eq_true (by omega)]
/-! ### what a plan shows, and whether a row clashes, as the document says -/
def hitB (m l : List Int) (g h : Nat) : Bool := (row m g).testBit h && (decide (l.getD g 0 ≠ 0) && decide (l.getD h 0 ≠ 0))
theorem clash_in {m : List Int} (hm : MayOk m) (ss : List S87) (am red hold : Int) {l : List Int} (hl : l.length = m.length) {g : Nat} (hg : g < m.length) :
    (∀ k, k < l.length → hitB m l g k = false → ∀ r, Ev (fun n => pelicanref15_Clash.l1 n l (g : Int) ((k + 1 : Nat) : Int) m ss am red hold) r → Ev (fun n => pelicanref15_Clash.l1 n l (g : Int) (k : Int) m ss am red hold) r) ∧
    (∀ k, k < l.length → hitB m l g k = true → Ev (fun n => pelicanref15_Clash.l1 n l (g : Int) (k : Int) m ss am red hold) true) := by
  have h8 := hm.len8
  have hp8 := hm.p8
  have hrow : rd m (g : Int) = ((row m g : Nat) : Int) := by rw [rd_get, hm.row_eq hg]
  have hrl := hm.row_lt hg
  refine ⟨fun k hk hh r hE => ?_, fun k hk hh => ?_⟩
  all_goals
    have p0 : (k : Int) < (l.length : Int) := by omega
    have p1 : (0 : Int) ≤ (g : Int) := by omega
    have p2 : (g : Int) < (m.length : Int) := by omega
    have p3 : (g : Int) < (l.length : Int) := by omega
    have p4 : (0 : Int) ≤ (k : Int) := by omega
    have e2 : wrap64 ((k : Int) + 1) = ((k + 1 : Nat) : Int) := by rw [wr (by omega) (by omega)]; omega
    have hin := in_ev (x := row m g) (i := k) (by omega) (by omega)
    refine Ev.step (fun n => by simp only [pelicanref15_Clash.l1]; rw [if_pos p0, if_pos p1, if_pos p2, hrow]) (Ev.bind hin ?_)
    unfold hitB at hh
  · cases hb : (row m g).testBit k with
    | false =>
      simp only [Bool.false_eq_true, if_false, e2]
      exact hE
    | true =>
      rw [hb, Bool.true_and] at hh
      simp only [if_true, p3, p4, rd_get, e2]
      by_cases h1 : l.getD g 0 = 0
      · simp only [h1, if_true]; exact hE
      · rw [decide_eq_true h1, Bool.true_and] at hh
        have h2 : l.getD k 0 = 0 := by simpa using hh
        simp only [h1, h2, if_true, if_false]; exact hE
  · rw [Bool.and_eq_true, Bool.and_eq_true, decide_eq_true_eq, decide_eq_true_eq] at hh
    obtain ⟨h0, h1, h2⟩ := hh
    simp only [h0, if_true, p3, p4, rd_get, h1, h2, if_false]
    exact Ev.now _
theorem clash_l1 {m : List Int} (hm : MayOk m) (ss : List S87) (am red hold : Int) {l : List Int} (hl : l.length = m.length) {g : Nat} (hg : g < m.length) {C : Bool} (hC : Ev (fun n => pelicanref15_Clash.l0 n l ((g + 1 : Nat) : Int) m ss am red hold) C) :
    Ev (fun n => pelicanref15_Clash.l1 n l (g : Int) ((0 : Nat) : Int) m ss am red hold) ((List.range' 0 l.length).any (hitB m l g) || C) := by
  have h8 := hm.len8
  have hi := clash_in hm ss am red hold hl hg
  have e1 : ((g : Int) + 1) = ((g + 1 : Nat) : Int) := by omega
  refine loop_any (n := l.length) (g := fun n k => pelicanref15_Clash.l1 n l (g : Int) (k : Int) m ss am red hold) (hit := hitB m l g) ?_ hi.1 hi.2 l.length 0 (Nat.zero_add _)
  refine Ev.step (fun n => ?_) hC
  simp only [pelicanref15_Clash.l1]
  rw [if_neg (by omega), wr (by omega) (by omega), e1]
theorem clash15_ev (m : List Int) (ss : List S87) (am red hold : Int) (l : List Int) (hl : l.length ≤ 1000) : Ev (fun n => pelicanref15_Clash.f n m ss am red hold l) (clashB m ss am red hold l) := by
  have hno : Ev (fun n => pelicanref15_Clash.j0 n l true m ss am red hold) false := Ev.step (f := fun _ => some false) (fun n => by simp only [pelicanref15_Clash.j0, if_true]) (Ev.now _)
  refine Ev.congr (fun n => rfl) (Ev.bind (rfit_ev m ss am red hold) (Ev.bind (may15_ev l hl) ?_))
  unfold clashB
  cases hf : plan_fitB.f m ss am red hold with
  | false => simp only [Bool.false_eq_true, if_false, Bool.false_and]; exact hno
  | true =>
    simp only [if_true, Bool.true_and]
    cases hmm : lamp_mayB.f l with
    | false => simp only [Bool.false_eq_true, if_false, Bool.false_and, Bool.and_false]; exact hno
    | true =>
      simp only [if_true, Bool.true_and]
      by_cases hlen : l.length = m.length
      · have hm := ((fits_iff _ _ _ _ _).1 hf).may
        have h8 := hm.len8
        rw [decide_eq_true hlen, Bool.true_and]
        have hne : ((l.length : Int) != (m.length : Int)) = false := by rw [hlen]; simp
        rw [hne]
        have key := loop_any (n := l.length) (g := fun n k => pelicanref15_Clash.l0 n l (k : Int) m ss am red hold) (hit := fun g => (List.range' 0 l.length).any (hitB m l g)) (C := false) ?_ (fun k hk hh r hE => ?_) (fun k hk hh => ?_) l.length 0 (Nat.zero_add _)
        · have heq : (!(freeB m (litTo l l.length : Int))) = ((List.range' 0 l.length).any (fun g => (List.range' 0 l.length).any (hitB m l g)) || false) := by
            rw [Bool.or_false]
            have hlt := lit_lt l l.length
            rw [hlen] at hlt ⊢
            have hfree := free_iff hm hlt
            rw [Bool.eq_iff_iff, Bool.not_eq_true', ← Bool.not_eq_true, hfree, List.any_eq_true]
            constructor
            · intro hn
              refine Classical.byContradiction fun hc => hn fun i k hi hk h1 h2 => ?_
              rw [lit_bit] at h1 h2
              cases hb : (row m i).testBit k with
              | false => rfl
              | true =>
                exact absurd ⟨i, List.mem_range'_1.2 ⟨by omega, by omega⟩, List.any_eq_true.2 ⟨k, List.mem_range'_1.2 ⟨by omega, by omega⟩, by unfold hitB; rw [hb, decide_eq_true h1.2, decide_eq_true h2.2]; rfl⟩⟩ hc
            · rintro ⟨i, hi, hh⟩ hn
              obtain ⟨k, hk, hh⟩ := List.any_eq_true.1 hh
              have hi := (List.mem_range'_1.1 hi).2
              have hk := (List.mem_range'_1.1 hk).2
              unfold hitB at hh
              rw [Bool.and_eq_true, Bool.and_eq_true, decide_eq_true_eq, decide_eq_true_eq] at hh
              have := hn i k (by omega) (by omega) ((lit_bit _ _ _).2 ⟨by omega, hh.2.1⟩) ((lit_bit _ _ _).2 ⟨by omega, hh.2.2⟩)
              rw [hh.1] at this
              cases this
          rw [heq]
          refine Ev.step (fun n => ?_) key
          simp only [pelicanref15_Clash.j0, Bool.false_eq_true, if_false]
          rfl
        · refine Ev.step (f := fun _ => some false) (fun n => ?_) (Ev.now _)
          simp only [pelicanref15_Clash.l0]
          rw [if_neg (by omega)]
        · have hc := clash_l1 hm ss am red hold hlen (g := k) (by omega) hE
          rw [hh, Bool.false_or] at hc
          refine Ev.step (fun n => ?_) hc
          simp only [pelicanref15_Clash.l0]
          rw [if_pos (by omega)]
          rfl
        · have hi := clash_in hm ss am red hold hlen (g := k) (by omega)
          have hc := loop_hit (n := l.length) (g := fun n j => pelicanref15_Clash.l1 n l (k : Int) (j : Int) m ss am red hold) (hit := hitB m l k) hi.1 hi.2 l.length 0 (Nat.zero_add _) hh
          refine Ev.step (fun n => ?_) hc
          simp only [pelicanref15_Clash.l0]
          rw [if_pos (by omega)]
          rfl
      · rw [decide_eq_false hlen, Bool.false_and]
        have hne : ((l.length : Int) != (m.length : Int)) = true := by rw [bne_iff_ne]; omega
        rw [hne]
        exact hno
end Go.Proofs.YtpciieagafddcaaDoor.RL
