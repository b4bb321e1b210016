/- The document's answers for layer 15, by definition, are what the program's functions compute (own text). -/
import Derived.Test.YtechgjbhgeddjaaDoorRF
import Derived.Test.YtechgjbhgeddjaaDoorPL
import Derived.Test.YtechgjbhgeddjaaDoorDR15
namespace Go.Proofs.YtechgjbhgeddjaaDoor.RL
open Go.RowKit Go.Proofs.YtechgjbhgeddjaaDoorW.PrintWords Go.Proofs.YtechgjbhgeddjaaDoorW.PrintLast Go.Proofs.YtechgjbhgeddjaaDoorW.PrintMore Go.Proofs.YtechgjbhgeddjaaDoor.F Go.Proofs.YtechgjbhgeddjaaDoor.PG Go.Proofs.YtechgjbhgeddjaaDoor.PM Go.Proofs.YtechgjbhgeddjaaDoor.PP Go.Proofs.YtechgjbhgeddjaaDoor.PQ Go.Proofs.YtechgjbhgeddjaaDoor.PL Go.Proofs.YtechgjbhgeddjaaDoor.RF
/-- A loop that stops at the first that hits. -/
theorem loop_any {g : Nat → Nat → Option Bool} {n : Nat} {hit : Nat → Bool} {C : Bool}
    (hend : Ev (fun f => g f n) C)
    (hstep : ∀ k, k < n → hit k = false → ∀ r, Ev (fun f => g f (k + 1)) r → Ev (fun f => g f k) r)
    (hstop : ∀ k, k < n → hit k = true → Ev (fun f => g f k) true) :
    ∀ d k, k + d = n → Ev (fun f => g f k) ((List.range' k d).any hit || C) := by
  intro d
  induction d with
  | zero =>
    intro k hk
    obtain rfl : k = n := by omega
    exact hend
  | succ d ih =>
    intro k hk
    rw [List.range'_succ, List.any_cons]
    cases hh : hit k with
    | false =>
      rw [Bool.false_or]
      exact hstep k (by omega) hh _ (ih (k + 1) (by omega))
    | true =>
      rw [Bool.true_or, Bool.true_or]
      exact hstop k (by omega) hh
theorem loop_hit {g : Nat → Nat → Option Bool} {n : Nat} {hit : Nat → Bool}
    (hstep : ∀ k, k < n → hit k = false → ∀ r, Ev (fun f => g f (k + 1)) r → Ev (fun f => g f k) r)
    (hstop : ∀ k, k < n → hit k = true → Ev (fun f => g f k) true) :
    ∀ d k, k + d = n → (List.range' k d).any hit = true → Ev (fun f => g f k) true := by
  intro d
  induction d with
  | zero => intro k _ h; cases h
  | succ d ih =>
    intro k hk h
    rw [List.range'_succ, List.any_cons] at h
    cases hh : hit k with
    | false =>
      rw [hh, Bool.false_or] at h
      exact hstep k (by omega) hh _ (ih (k + 1) (by omega) h)
    | true => exact hstop k (by omega) hh
theorem rd_get (l : List Int) (k : Nat) : rd l (k : Int) = l.getD k 0 := by simp [rd]
def lampOk (l : List Int) (k : Nat) : Bool := decide (0 ≤ l.getD k 0 ∧ l.getD k 0 < 3)
theorem may15_ev (l : List Int) (hl : l.length ≤ 1000) : Ev (fun n => pelicanref15_May.f n l) (lamp_mayB.f l) := by
  have hno : Ev (fun n => pelicanref15_May.j0 n l true) false := Ev.step (f := fun _ => some false) (fun n => by simp only [pelicanref15_May.j0, if_true]) (Ev.now _)
  by_cases h : 1 ≤ l.length ∧ l.length ≤ 8
  · have key := loop_all (n := l.length) (g := fun n k => pelicanref15_May.l0 n l (k : Int)) (ok := lampOk l) (C := true) (fun _ => ?_) (fun k hk hok r hE => ?_) (fun k hk hok => ?_) l.length 0 (Nat.zero_add _) (fun j hj => absurd hj (Nat.not_lt_zero j))
    · have heq : lamp_mayB.f l = ((List.range' 0 l.length).all (lampOk l) && true) := by
        rw [Bool.and_true, Bool.eq_iff_iff, all_range]
        constructor
        · intro hm j hj
          have := may_rng hm _ (List.getElem_mem hj)
          have e : l.getD j 0 = l[j] := by simp [hj]
          exact decide_eq_true (by rw [e]; exact this)
        · intro hh
          refine may_of h fun x hx => ?_
          obtain ⟨j, hj, rfl⟩ := List.mem_iff_getElem.1 hx
          have e : l.getD j 0 = l[j] := by simp [hj]
          have := of_decide_eq_true (hh j hj)
          rwa [e] at this
      rw [heq]
      refine Ev.congr (f := fun n => pelicanref15_May.j0 n l false) (fun n => ?_) (Ev.step (fun n => ?_) key)
      · unfold pelicanref15_May.f
        rw [if_neg (by omega), decide_eq_false (by omega)]
      · simp only [pelicanref15_May.j0, Bool.false_eq_true, if_false]
        rfl
    · refine Ev.step (f := fun _ => some true) (fun n => ?_) (Ev.now _)
      simp only [pelicanref15_May.l0]
      rw [if_neg (by omega)]
    · have hok := of_decide_eq_true hok
      have e1 : ((k : Int) + 1) = ((k + 1 : Nat) : Int) := by omega
      refine Ev.step (fun n => ?_) hE
      simp only [pelicanref15_May.l0]
      rw [if_pos (by omega), if_pos (by omega), rd_get, if_neg (by omega), if_neg (by omega), wr (by omega) (by omega), e1]
    · have hok := of_decide_eq_false hok
      refine Ev.step (f := fun _ => some false) (fun n => ?_) (Ev.now _)
      simp only [pelicanref15_May.l0]
      rw [if_pos (by omega), if_pos (by omega), rd_get]
      by_cases h0 : l.getD k 0 < 0
      · rw [if_pos h0]
      · rw [if_neg h0, if_pos (by omega)]
  · have hf : lamp_mayB.f l = false := by unfold lamp_mayB.f; rw [decide_eq_false h, Bool.false_and]
    rw [hf]
    refine Ev.congr (f := fun n => pelicanref15_May.j0 n l true) (fun n => ?_) hno
    unfold pelicanref15_May.f
    by_cases c : (l.length : Int) < 1
    · rw [if_pos c]
    · rw [if_neg c, decide_eq_true (by omega)]
theorem bytes_snoc (l : List UInt8) (c : UInt8) : (⟨l.toArray⟩ : ByteArray) ++ ⟨#[c]⟩ = ⟨(l ++ [c]).toArray⟩ := by
  refine ByteArray.ext ?_
  simp
theorem bytes_size (l : List UInt8) : (⟨l.toArray⟩ : ByteArray).size = l.length := by
  show l.toArray.size = _
  simp
theorem text_loop {l : List Int} (hm : lamp_mayB.f l = true) : ∀ d k : Nat, k + d = l.length → Ev (fun n => pelicanref15_Text.l0 n l true ⟨(lamp_letters.f (l.take k)).toArray⟩ (k : Int)) ⟨(lamp_letters.f l).toArray⟩ := by
  have h8 := (may_len hm).2
  intro d
  induction d with
  | zero =>
    intro k hk
    rw [List.take_of_length_le (by omega)]
    refine Ev.step (f := fun n => pelicanref15_Text.j1 n l true ⟨(lamp_letters.f l).toArray⟩ (k : Int) false) (fun n => ?_) (Ev.step (f := fun _ => some ⟨(lamp_letters.f l).toArray⟩) (fun n => ?_) (Ev.now _))
    · simp only [pelicanref15_Text.l0]
      rw [if_neg (by omega)]
    · simp only [pelicanref15_Text.j1, Bool.false_eq_true, if_false]
  | succ d ih =>
    intro k hk
    have hlt : k < l.length := by omega
    have hx := may_rng hm _ (List.getElem_mem hlt)
    have hrd : rd l (k : Int) = l[k] := by simp [rd, hlt]
    have e1 : ((k : Int) + 1) = ((k + 1 : Nat) : Int) := by omega
    have hs : (⟨(lamp_letters.f (l.take k)).toArray⟩ : ByteArray).size = k := by
      rw [bytes_size]
      unfold lamp_letters.f
      rw [List.length_map, List.length_take]
      omega
    have hsn : (⟨(lamp_letters.f (l.take k)).toArray⟩ : ByteArray) ++ ⟨#[lamp_letter.f l[k]]⟩ = ⟨(lamp_letters.f (l.take (k + 1))).toArray⟩ := by
      rw [bytes_snoc, List.take_succ_eq_append_getElem hlt]
      unfold lamp_letters.f
      rw [List.map_append]
      rfl
    have ihk := ih (k + 1) (by omega)
    rw [← hsn] at ihk
    have p1 : (0 : Int) ≤ (k : Int) := by omega
    have p2 : (k : Int) < (l.length : Int) := by omega
    have p3 : (⟨(lamp_letters.f (l.take k)).toArray⟩ : ByteArray).size + 1 ≤ 9223372036854775807 := by omega
    refine Ev.step (f := fun n => pelicanref15_Text.j1 n l true ⟨(lamp_letters.f (l.take k)).toArray⟩ (k : Int) true) (fun n => ?_) ?_
    · simp only [pelicanref15_Text.l0]
      rw [if_pos p2]
    rcases (by omega : l[k] = 0 ∨ l[k] = 1 ∨ l[k] = 2) with h0 | h0 | h0
    · rw [h0] at ihk hrd
      refine Ev.step (f := fun n => pelicanref15_Text.j2 n l true (⟨(lamp_letters.f (l.take k)).toArray⟩ ++ ⟨#[114]⟩) (k : Int)) (fun n => ?_) (Ev.step (fun n => ?_) ihk)
      · simp only [pelicanref15_Text.j1, if_true, p1, p2, hrd, p3]
      · simp only [pelicanref15_Text.j2, if_true, p1, p2, hrd]
        rw [if_neg (by decide), if_neg (by decide), wr (by omega) (by omega), e1]
        rfl
    · rw [h0] at ihk hrd
      refine Ev.step (f := fun n => pelicanref15_Text.j2 n l true ⟨(lamp_letters.f (l.take k)).toArray⟩ (k : Int)) (fun n => ?_) (Ev.step (fun n => ?_) ihk)
      · simp only [pelicanref15_Text.j1, if_true, p1, p2, hrd]
        rw [if_neg (by decide)]
      · simp only [pelicanref15_Text.j2, if_true, p1, p2, hrd, p3]
        rw [if_neg (by decide), wr (by omega) (by omega), e1]
        rfl
    · rw [h0] at ihk hrd
      refine Ev.step (f := fun n => pelicanref15_Text.j2 n l true ⟨(lamp_letters.f (l.take k)).toArray⟩ (k : Int)) (fun n => ?_) (Ev.step (fun n => ?_) ihk)
      · simp only [pelicanref15_Text.j1, if_true, p1, p2, hrd]
        rw [if_neg (by decide)]
      · simp only [pelicanref15_Text.j2, if_true, p1, p2, hrd, p3]
        rw [if_neg (by decide), wr (by omega) (by omega), e1]
        rfl
theorem text15_ev (l : List Int) (hl : l.length ≤ 1000) : Ev (fun n => pelicanref15_Text.f n l) (lamp_textB.f l) := by
  refine Ev.congr (fun n => rfl) (Ev.bind (may15_ev l hl) ?_)
  cases hm : lamp_mayB.f l with
  | false =>
    rw [text_none hm]
    refine Ev.step (f := fun n => pelicanref15_Text.j1 n l false ⟨#[]⟩ 0 false) (fun n => ?_) (Ev.step (f := fun _ => some ⟨#[]⟩) (fun n => ?_) (Ev.now _))
    · simp only [pelicanref15_Text.l0]
      split <;> rfl
    · simp only [pelicanref15_Text.j1, Bool.false_eq_true, if_false]
  | true =>
    rw [text_eq hm]
    exact text_loop hm l.length 0 (Nat.zero_add _)
/-! ### what letters seem to be, told anew -/
def outTo (s : List UInt8) (k : Nat) : List Int := lamp_readL.f (s.take k)
theorem bt_get (s : ByteArray) {k : Nat} (hk : k < s.data.toList.length) : bt s (k : Int) = ((s.data.toList[k].toNat : Nat) : Int) := by
  have hs : s.data.toList.length = s.size := Array.length_toList
  have hk' : k < s.size := by omega
  unfold bt
  simp [hk']
  rfl
theorem outTo_succ (s : List UInt8) {k : Nat} (hk : k < s.length) : outTo s (k + 1) = outTo s k ++ [lamp_idx.f s[k].toNat] := by
  unfold outTo lamp_readL.f
  rw [List.take_succ_eq_append_getElem hk, List.map_append]
  rfl
theorem outTo_len (s : List UInt8) (k : Nat) : (outTo s k).length ≤ k := by
  unfold outTo lamp_readL.f
  rw [List.length_map, List.length_take]
  omega
theorem read_loop (s : ByteArray) (v : List Int × Bool)
    (hend : Ev (fun n => pelicanref15_Read.j1 n s (outTo s.data.toList (min 9 s.data.toList.length)) ((min 9 s.data.toList.length : Nat) : Int) false) v) :
    ∀ d k : Nat, k + d = min 9 s.data.toList.length → Ev (fun n => pelicanref15_Read.l0 n s (outTo s.data.toList k) (k : Int)) v := by
  have hs : s.data.toList.length = s.size := Array.length_toList
  intro d
  induction d with
  | zero =>
    intro k hk
    obtain rfl : k = min 9 s.data.toList.length := by omega
    refine Ev.step (fun n => ?_) hend
    simp only [pelicanref15_Read.l0]
    by_cases h9 : ((min 9 s.data.toList.length : Nat) : Int) < (s.size : Int)
    · rw [if_pos h9, decide_eq_false (by omega)]
    · rw [if_neg h9]
  | succ d ih =>
    intro k hk
    have hlt : k < s.data.toList.length := by omega
    have hb := bt_get s hlt
    have e1 : ((k : Int) + 1) = ((k + 1 : Nat) : Int) := by omega
    have ihk := ih (k + 1) (by omega)
    rw [outTo_succ _ hlt] at ihk
    have hol := outTo_len s.data.toList k
    have p1 : (0 : Int) ≤ (k : Int) := by omega
    have p2 : (k : Int) < (s.size : Int) := by omega
    have p3 : (outTo s.data.toList k).length < 17592186044416 := by omega
    have hw : wrap64 ((k : Int) + 1) = ((k + 1 : Nat) : Int) := by rw [wr (by omega) (by omega), e1]
    refine Ev.step (f := fun n => pelicanref15_Read.j1 n s (outTo s.data.toList k) (k : Int) true) (fun n => ?_) ?_
    · simp only [pelicanref15_Read.l0]
      rw [if_pos p2, decide_eq_true (by omega)]
    generalize hc : s.data.toList[k].toNat = c at *
    by_cases h1 : c = 114
    · have e : lamp_idx.f c = 0 := by unfold lamp_idx.f; rw [if_pos h1]
      rw [e] at ihk
      refine Ev.step (f := fun n => pelicanref15_Read.j2 n s (outTo s.data.toList k) (k : Int) 0) (fun n => ?_) (Ev.step (fun n => ?_) ihk)
      · simp only [pelicanref15_Read.j1, if_true, p1, p2, hb]
        rw [if_pos (by omega)]
      · simp only [pelicanref15_Read.j2, if_true, p1, p2, hb, p3, hw]
        rw [if_neg (by omega), if_neg (by omega)]
    · refine Ev.step (f := fun n => pelicanref15_Read.j2 n s (outTo s.data.toList k) (k : Int) (-1)) (fun n => ?_) (Ev.step (fun n => ?_) ihk)
      · simp only [pelicanref15_Read.j1, if_true, p1, p2, hb]
        rw [if_neg (by omega)]
      · simp only [pelicanref15_Read.j2, if_true, p1, p2, hb, p3, hw]
        by_cases h2 : c = 97
        · have e : lamp_idx.f c = 1 := by unfold lamp_idx.f; rw [if_neg h1, if_pos h2]
          rw [if_pos (by omega), if_neg (by omega), e]
        · by_cases h3 : c = 103
          · have e : lamp_idx.f c = 2 := by unfold lamp_idx.f; rw [if_neg h1, if_neg h2, if_pos h3]
            rw [if_neg (by omega), if_pos (by omega), e]
          · have e : lamp_idx.f c = -1 := by unfold lamp_idx.f; rw [if_neg h1, if_neg h2, if_neg h3]
            rw [if_neg (by omega), if_neg (by omega), e]
theorem read15_ev (s : ByteArray) : ∃ v : List Int × Bool, Ev (fun n => pelicanref15_Read.f n s) v ∧ lamp_Read.f s = some v := by
  have hs : s.data.toList.length = s.size := Array.length_toList
  have hT : s.toList = s.data.toList := Lib.toList_data s
  have key : ∀ v, Ev (fun n => pelicanref15_Read.j1 n s (outTo s.data.toList (min 9 s.data.toList.length)) ((min 9 s.data.toList.length : Nat) : Int) false) v → Ev (fun n => pelicanref15_Read.f n s) v := fun v hv => read_loop s v hv _ 0 (Nat.zero_add _)
  have hol := outTo_len s.data.toList (min 9 s.data.toList.length)
  have htx := text15_ev (outTo s.data.toList (min 9 s.data.toList.length)) (by omega)
  by_cases h0 : s.data.toList = []
  · refine ⟨([], false), key _ ?_, ?_⟩
    · refine Ev.step (f := fun _ => some ([], false)) (fun n => ?_) (Ev.now _)
      simp only [pelicanref15_Read.j1, Bool.false_eq_true, if_false]
      rw [if_pos (by rw [hT]; exact h0)]
    · unfold lamp_Read.f
      have : s.size = 0 := by rw [← hs, h0]; rfl
      rw [decide_eq_false (by omega)]
      rfl
  · have hj : ∀ v, (if (lamp_textB.f (outTo s.data.toList (min 9 s.data.toList.length))).toList = s.data.toList then some (outTo s.data.toList (min 9 s.data.toList.length), true) else some (([] : List Int), false)) = some v → Ev (fun n => pelicanref15_Read.f n s) v := by
      intro v hv
      refine key _ (Ev.step (fun n => ?_) (Ev.bind (f := fun _ t => if t.toList = s.toList then some (outTo s.data.toList (min 9 s.data.toList.length), true) else some (([] : List Int), false)) htx ?_))
      · simp only [pelicanref15_Read.j1, Bool.false_eq_true, if_false]
        rw [if_neg (by rw [hT]; exact h0)]
      · rw [hT, hv]
        exact Ev.now _
    have hpos : 1 ≤ s.data.toList.length := by
      cases e : s.data.toList with
      | nil => exact absurd e h0
      | cons x l => simp
    by_cases hgood : s.size ≤ 8 ∧ lamp_goodL.f s.data.toList = true
    · have hout : outTo s.data.toList (min 9 s.data.toList.length) = lamp_readL.f s.data.toList := by
        unfold outTo
        rw [List.take_of_length_le (by omega)]
      have hm : lamp_mayB.f (lamp_readL.f s.data.toList) = true := by
        refine may_of (by unfold lamp_readL.f; rw [List.length_map]; omega) fun x hx => ?_
        unfold lamp_readL.f at hx
        obtain ⟨c, hc, rfl⟩ := List.mem_map.1 hx
        have hg := hgood.2
        unfold lamp_goodL.f at hg
        have := of_decide_eq_true (List.all_eq_true.1 hg c hc)
        have := idx_rng c.toNat
        omega
      refine ⟨(lamp_readL.f s.data.toList, true), hj _ ?_, ?_⟩
      · rw [hout, text_list hm, letters_read hgood.2, if_pos rfl]
      · unfold lamp_Read.f
        rw [decide_eq_true (by omega), hgood.2]
        rfl
    · have hm : lamp_mayB.f (outTo s.data.toList (min 9 s.data.toList.length)) = false := by
        cases hmm : lamp_mayB.f (outTo s.data.toList (min 9 s.data.toList.length)) with
        | false => rfl
        | true =>
          exfalso
          have h1 := may_len hmm
          have h2 := may_rng hmm
          have hl : (outTo s.data.toList (min 9 s.data.toList.length)).length = min 9 s.data.toList.length := by
            unfold outTo lamp_readL.f
            rw [List.length_map, List.length_take]
            omega
          have h8 : s.data.toList.length ≤ 8 := by omega
          refine hgood ⟨by omega, ?_⟩
          unfold lamp_goodL.f
          rw [List.all_eq_true]
          intro c hc
          have : lamp_idx.f c.toNat ∈ outTo s.data.toList (min 9 s.data.toList.length) := by
            unfold outTo
            rw [List.take_of_length_le (by omega)]
            unfold lamp_readL.f
            exact List.mem_map.2 ⟨c, hc, rfl⟩
          exact decide_eq_true (h2 _ this).1
      refine ⟨([], false), hj _ ?_, ?_⟩
      · rw [text_none hm, Lib.toList_data, if_neg]
        exact fun e => h0 e.symm
      · unfold lamp_Read.f
        have : (decide (1 ≤ s.size ∧ s.size ≤ 8) && lamp_goodL.f s.data.toList) = false := by
          rw [Bool.eq_false_iff]
          intro hh
          rw [Bool.and_eq_true, decide_eq_true_eq] at hh
          exact hgood ⟨hh.1.2, hh.2⟩
        rw [this]
        rfl
/-! ### what a plan shows, and whether a row clashes, as the document says -/
theorem rshow_loop (m : List Int) {ss : List S41} (am red hold : Int) (h8 : m.length ≤ 8) {a : Nat} (ha : a < ss.length) {G : Nat} (hG : ss[a].f0 = (G : Int)) (hG' : G < 256) {ph : Int} (hp : 0 ≤ ph ∧ ph < 3) : ∀ d k : Nat, k + d = m.length →
    Ev (fun n => pelicanref15_Show.l0 n (a : Int) ph (lamp_showL.f k (G : Int) (lamp_on.f ph)) (k : Int) m ss am red hold) (lamp_showL.f m.length (G : Int) (lamp_on.f ph)) := by
  intro d
  induction d with
  | zero =>
    intro k hk
    obtain rfl : k = m.length := by omega
    refine Ev.step (f := fun _ => some (lamp_showL.f m.length (G : Int) (lamp_on.f ph))) (fun n => ?_) (Ev.now _)
    simp only [pelicanref15_Show.l0]
    rw [if_neg (by omega)]
  | succ d ih =>
    intro k hk
    have hlt : k < m.length := by omega
    have e1 : ((k : Int) + 1) = ((k + 1 : Nat) : Int) := by omega
    have hw : wrap64 ((k : Int) + 1) = ((k + 1 : Nat) : Int) := by rw [wr (by omega) (by omega), e1]
    have hsn : lamp_showL.f (k + 1) (G : Int) (lamp_on.f ph) = lamp_showL.f k (G : Int) (lamp_on.f ph) ++ [if G.testBit k then lamp_on.f ph else 0] := by
      unfold lamp_showL.f
      rw [List.range_succ, List.map_append]
      rfl
    have ihk := ih (k + 1) (by omega)
    rw [hsn] at ihk
    have hhas := has_ev m ss am red hold ha (g := k) (by rw [hG]; omega) (by omega)
    rw [hG, Int.toNat_natCast] at hhas
    have p3 : (lamp_showL.f k (G : Int) (lamp_on.f ph)).length < 17592186044416 := by rw [show_len]; omega
    refine Ev.step (fun n => by simp only [pelicanref15_Show.l0]; rw [if_pos (show (k : Int) < (m.length : Int) by omega)]) (Ev.bind hhas ?_)
    have hph : ph = 0 ∨ ph = 1 ∨ ph = 2 := by omega
    cases hb : G.testBit k with
    | true =>
      rw [hb] at ihk
      simp only [if_true] at ihk ⊢
      refine Ev.step (fun n => ?_) ihk
      simp only [pelicanref15_Show.j2, p3, if_true, hw]
      rcases hph with rfl | rfl | rfl <;> simp [lamp_on.f]
    | false =>
      rw [hb] at ihk
      simp only [Bool.false_eq_true, if_false] at ihk ⊢
      refine Ev.step (fun n => ?_) ihk
      simp only [pelicanref15_Show.j2, p3, if_true, Bool.false_eq_true, if_false, hw]
theorem show15_ev (m : List Int) (ss : List S41) (am red hold a ph : Int) : ∃ v, Ev (fun n => pelicanref15_Show.f n m ss am red hold a ph) v ∧ lamp_Show.f m ss am red hold a ph = some v := by
  have hno : Ev (fun n => pelicanref15_Show.j0 n a ph true m ss am red hold) [] := Ev.step (f := fun _ => some []) (fun n => by simp only [pelicanref15_Show.j0, if_true]) (Ev.now _)
  cases hf : plan_fitB.f m ss am red hold with
  | false =>
    refine ⟨[], Ev.congr (fun n => rfl) (Ev.bind (rfit_ev m ss am red hold) ?_), show_none (fun hh => by rw [hf] at hh; cases hh.1)⟩
    rw [hf]
    simp only [Bool.false_eq_true, if_false]
    exact hno
  | true =>
    have h := (fits_iff _ _ _ _ _).1 hf
    by_cases hin : 0 ≤ a ∧ a < (ss.length : Int) ∧ 0 ≤ ph ∧ ph < 3
    · obtain ⟨h1, h2, h3, h4⟩ := hin
      refine ⟨_, ?_, show_eq h ⟨h1, h2⟩ ⟨h3, h4⟩⟩
      obtain ⟨k, rfl⟩ := Int.eq_ofNat_of_zero_le h1
      have hk : k < ss.length := by omega
      obtain ⟨G, hG, hlt, _⟩ := stage_set h hk
      have hp8 := h.may.p8
      rw [hG]
      rw [rd_stage ss hk] at hG
      refine Ev.congr (fun n => rfl) (Ev.bind (rfit_ev m ss am red hold) ?_)
      rw [hf]
      have c1 : ¬ (k : Int) < 0 := by omega
      have c2 : ¬ (k : Int) ≥ (ss.length : Int) := by omega
      have c3 : ¬ ph < 0 := by omega
      have c4 : ¬ ph ≥ 3 := by omega
      simp only [if_true, c1, c2, c3, c4, if_false, decide_false]
      refine Ev.step (fun n => ?_) (rshow_loop m am red hold h.may.len8 hk hG (by omega) ⟨h3, h4⟩ m.length 0 (Nat.zero_add _))
      simp only [pelicanref15_Show.j0, Bool.false_eq_true, if_false]
      rfl
    · refine ⟨[], Ev.congr (fun n => rfl) (Ev.bind (rfit_ev m ss am red hold) ?_), show_none (fun hh => hin hh.2)⟩
      rw [hf]
      simp only [if_true]
      by_cases c1 : a < 0
      · simp only [c1, if_true]; exact hno
      · by_cases c2 : a ≥ (ss.length : Int)
        · simp only [c1, c2, if_true, if_false]; exact hno
        · by_cases c3 : ph < 0
          · simp only [c1, c2, c3, if_true, if_false]; exact hno
          · have c4 : ph ≥ 3 := by omega
            simp only [c1, c2, c3, c4, if_false, decide_true]; exact hno
def hitB (m l : List Int) (g h : Nat) : Bool := (row m g).testBit h && (decide (l.getD g 0 ≠ 0) && decide (l.getD h 0 ≠ 0))
theorem clash_in {m : List Int} (hm : MayOk m) (ss : List S41) (am red hold : Int) {l : List Int} (hl : l.length = m.length) {g : Nat} (hg : g < m.length) :
    (∀ k, k < l.length → hitB m l g k = false → ∀ r, Ev (fun n => pelicanref15_Clash.l1 n l (g : Int) ((k + 1 : Nat) : Int) m ss am red hold) r → Ev (fun n => pelicanref15_Clash.l1 n l (g : Int) (k : Int) m ss am red hold) r) ∧
    (∀ k, k < l.length → hitB m l g k = true → Ev (fun n => pelicanref15_Clash.l1 n l (g : Int) (k : Int) m ss am red hold) true) := by
  have h8 := hm.len8
  have hp8 := hm.p8
  have hrow : rd m (g : Int) = ((row m g : Nat) : Int) := by rw [rd_get, hm.row_eq hg]
  have hrl := hm.row_lt hg
  refine ⟨fun k hk hh r hE => ?_, fun k hk hh => ?_⟩
  all_goals
    have p0 : (k : Int) < (l.length : Int) := by omega
    have p1 : (0 : Int) ≤ (g : Int) := by omega
    have p2 : (g : Int) < (m.length : Int) := by omega
    have p3 : (g : Int) < (l.length : Int) := by omega
    have p4 : (0 : Int) ≤ (k : Int) := by omega
    have e2 : wrap64 ((k : Int) + 1) = ((k + 1 : Nat) : Int) := by rw [wr (by omega) (by omega)]; omega
    have hin := in_ev (x := row m g) (i := k) (by omega) (by omega)
    refine Ev.step (fun n => by simp only [pelicanref15_Clash.l1]; rw [if_pos p0, if_pos p1, if_pos p2, hrow]) (Ev.bind hin ?_)
    unfold hitB at hh
  · cases hb : (row m g).testBit k with
    | false =>
      simp only [Bool.false_eq_true, if_false, e2]
      exact hE
    | true =>
      rw [hb, Bool.true_and] at hh
      simp only [if_true, p3, p4, rd_get, e2]
      by_cases h1 : l.getD g 0 = 0
      · simp only [h1, if_true]; exact hE
      · rw [decide_eq_true h1, Bool.true_and] at hh
        have h2 : l.getD k 0 = 0 := by simpa using hh
        simp only [h1, h2, if_true, if_false]; exact hE
  · rw [Bool.and_eq_true, Bool.and_eq_true, decide_eq_true_eq, decide_eq_true_eq] at hh
    obtain ⟨h0, h1, h2⟩ := hh
    simp only [h0, if_true, p3, p4, rd_get, h1, h2, if_false]
    exact Ev.now _
theorem clash_l1 {m : List Int} (hm : MayOk m) (ss : List S41) (am red hold : Int) {l : List Int} (hl : l.length = m.length) {g : Nat} (hg : g < m.length) {C : Bool} (hC : Ev (fun n => pelicanref15_Clash.l0 n l ((g + 1 : Nat) : Int) m ss am red hold) C) :
    Ev (fun n => pelicanref15_Clash.l1 n l (g : Int) ((0 : Nat) : Int) m ss am red hold) ((List.range' 0 l.length).any (hitB m l g) || C) := by
  have h8 := hm.len8
  have hi := clash_in hm ss am red hold hl hg
  have e1 : ((g : Int) + 1) = ((g + 1 : Nat) : Int) := by omega
  refine loop_any (n := l.length) (g := fun n k => pelicanref15_Clash.l1 n l (g : Int) (k : Int) m ss am red hold) (hit := hitB m l g) ?_ hi.1 hi.2 l.length 0 (Nat.zero_add _)
  refine Ev.step (fun n => ?_) hC
  simp only [pelicanref15_Clash.l1]
  rw [if_neg (by omega), wr (by omega) (by omega), e1]
theorem clash15_ev (m : List Int) (ss : List S41) (am red hold : Int) (l : List Int) (hl : l.length ≤ 1000) : Ev (fun n => pelicanref15_Clash.f n m ss am red hold l) (clashB m ss am red hold l) := by
  have hno : Ev (fun n => pelicanref15_Clash.j0 n l true m ss am red hold) false := Ev.step (f := fun _ => some false) (fun n => by simp only [pelicanref15_Clash.j0, if_true]) (Ev.now _)
  refine Ev.congr (fun n => rfl) (Ev.bind (rfit_ev m ss am red hold) (Ev.bind (may15_ev l hl) ?_))
  unfold clashB
  cases hf : plan_fitB.f m ss am red hold with
  | false => simp only [Bool.false_eq_true, if_false, Bool.false_and]; exact hno
  | true =>
    simp only [if_true, Bool.true_and]
    cases hmm : lamp_mayB.f l with
    | false => simp only [Bool.false_eq_true, if_false, Bool.false_and, Bool.and_false]; exact hno
    | true =>
      simp only [if_true, Bool.true_and]
      by_cases hlen : l.length = m.length
      · have hm := ((fits_iff _ _ _ _ _).1 hf).may
        have h8 := hm.len8
        rw [decide_eq_true hlen, Bool.true_and]
        have hne : ((l.length : Int) != (m.length : Int)) = false := by rw [hlen]; simp
        rw [hne]
        have key := loop_any (n := l.length) (g := fun n k => pelicanref15_Clash.l0 n l (k : Int) m ss am red hold) (hit := fun g => (List.range' 0 l.length).any (hitB m l g)) (C := false) ?_ (fun k hk hh r hE => ?_) (fun k hk hh => ?_) l.length 0 (Nat.zero_add _)
        · have heq : (!(freeB m (litTo l l.length : Int))) = ((List.range' 0 l.length).any (fun g => (List.range' 0 l.length).any (hitB m l g)) || false) := by
            rw [Bool.or_false]
            have hlt := lit_lt l l.length
            rw [hlen] at hlt ⊢
            have hfree := free_iff hm hlt
            rw [Bool.eq_iff_iff, Bool.not_eq_true', ← Bool.not_eq_true, hfree, List.any_eq_true]
            constructor
            · intro hn
              refine Classical.byContradiction fun hc => hn fun i k hi hk h1 h2 => ?_
              rw [lit_bit] at h1 h2
              cases hb : (row m i).testBit k with
              | false => rfl
              | true =>
                exact absurd ⟨i, List.mem_range'_1.2 ⟨by omega, by omega⟩, List.any_eq_true.2 ⟨k, List.mem_range'_1.2 ⟨by omega, by omega⟩, by unfold hitB; rw [hb, decide_eq_true h1.2, decide_eq_true h2.2]; rfl⟩⟩ hc
            · rintro ⟨i, hi, hh⟩ hn
              obtain ⟨k, hk, hh⟩ := List.any_eq_true.1 hh
              have hi := (List.mem_range'_1.1 hi).2
              have hk := (List.mem_range'_1.1 hk).2
              unfold hitB at hh
              rw [Bool.and_eq_true, Bool.and_eq_true, decide_eq_true_eq, decide_eq_true_eq] at hh
              have := hn i k (by omega) (by omega) ((lit_bit _ _ _).2 ⟨by omega, hh.2.1⟩) ((lit_bit _ _ _).2 ⟨by omega, hh.2.2⟩)
              rw [hh.1] at this
              cases this
          rw [heq]
          refine Ev.step (fun n => ?_) key
          simp only [pelicanref15_Clash.j0, Bool.false_eq_true, if_false]
          rfl
        · refine Ev.step (f := fun _ => some false) (fun n => ?_) (Ev.now _)
          simp only [pelicanref15_Clash.l0]
          rw [if_neg (by omega)]
        · have hc := clash_l1 hm ss am red hold hlen (g := k) (by omega) hE
          rw [hh, Bool.false_or] at hc
          refine Ev.step (fun n => ?_) hc
          simp only [pelicanref15_Clash.l0]
          rw [if_pos (by omega)]
          rfl
        · have hi := clash_in hm ss am red hold hlen (g := k) (by omega)
          have hc := loop_hit (n := l.length) (g := fun n j => pelicanref15_Clash.l1 n l (k : Int) (j : Int) m ss am red hold) (hit := hitB m l k) hi.1 hi.2 l.length 0 (Nat.zero_add _) hh
          refine Ev.step (fun n => ?_) hc
          simp only [pelicanref15_Clash.l0]
          rw [if_pos (by omega)]
          rfl
      · rw [decide_eq_false hlen, Bool.false_and]
        have hne : ((l.length : Int) != (m.length : Int)) = true := by rw [bne_iff_ne]; omega
        rw [hne]
        exact hno
end Go.Proofs.YtechgjbhgeddjaaDoor.RL
