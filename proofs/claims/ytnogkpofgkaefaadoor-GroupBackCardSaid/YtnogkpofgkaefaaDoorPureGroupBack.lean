/- The plain law of GroupBack: a set comes back from its groups, groups that rise from their set. -/
import Derived.Test.YtnogkpofgkaefaaDoorPG
namespace Go.Proofs.YtnogkpofgkaefaaDoor.Pure
open Go.RowKit Go.Proofs.YtnogkpofgkaefaaDoorW.PrintWords Go.Proofs.YtnogkpofgkaefaaDoorW.PrintLast Go.Proofs.YtnogkpofgkaefaaDoorW.PrintMore Go.Proofs.YtnogkpofgkaefaaDoor.F Go.Proofs.YtnogkpofgkaefaaDoor.PG
namespace GroupBack
def risesTo (l : List Int) (k : Nat) : Bool := (List.range k).all fun j => decide (j = 0) || decide (l.getD (j - 1) 0 < l.getD j 0)
theorem risesTo_succ (l : List Int) (k : Nat) (h : 0 < k) : risesTo l (k + 1) = (risesTo l k && decide (l.getD (k - 1) 0 < l.getD k 0)) := by
  unfold risesTo
  rw [List.range_succ, List.all_append]
  have : decide (k = 0) = false := decide_eq_false (by omega)
  simp [this]
theorem rises_iff (l : List Int) : risesTo l l.length = true ↔ l.Pairwise (· < ·) := by
  unfold risesTo
  rw [List.all_eq_true]
  constructor
  · intro h
    rw [List.pairwise_iff_getElem]
    have step : ∀ i, (hi : i + 1 < l.length) → l[i] < l[i + 1] := fun i hi => by
      have := h (i + 1) (List.mem_range.2 hi)
      simp only [Nat.add_sub_cancel, Bool.or_eq_true, decide_eq_true_eq] at this
      rcases this with h | h
      · omega
      · simpa [List.getD_eq_getElem?_getD, List.getElem?_eq_getElem hi, List.getElem?_eq_getElem (show i < l.length by omega)] using h
    intro i j hi hj hij
    induction j with
    | zero => omega
    | succ j ih =>
      rcases Nat.lt_or_ge i j with h1 | h1
      · have := ih (by omega) h1
        have := step j hj
        omega
      · obtain rfl : i = j := by omega
        exact step i hj
  · intro h j hj
    have hj := List.mem_range.1 hj
    rw [List.pairwise_iff_getElem] at h
    simp only [Bool.or_eq_true, decide_eq_true_eq]
    by_cases h0 : j = 0
    · exact .inl h0
    · refine .inr ?_
      have := h (j - 1) j (by omega) hj (by omega)
      simpa [List.getD_eq_getElem?_getD, List.getElem?_eq_getElem hj, List.getElem?_eq_getElem (show j - 1 < l.length by omega)] using this
theorem rd_nat (l : List Int) (k : Nat) : rd l (k : Int) = l.getD k 0 := by simp [rd]
theorem l1_ev (l y : List Int) (hl : l.length ≤ 20) (hy : y.length = l.length) (hyl : y = l ↔ l.Pairwise (· < ·)) : ∀ (d k : Nat), k + d = l.length → 0 < k → Ev (fun n => pelicanlaw13_GroupBack.l1 n l y (risesTo l k) (k : Int)) true := by
  intro d
  induction d with
  | zero =>
    intro k hk h0
    obtain rfl : k = l.length := by omega
    refine Ev.step (f := fun n => (pelicanref05_Ints.f n y l).bind fun t => some (t == risesTo l l.length)) (fun n => ?_) (Ev.bind (ints_ev y l (by omega)) ?_)
    · simp only [pelicanlaw13_GroupBack.l1]
      rw [if_neg (by omega)]
      congr 1
      funext t
      rw [if_pos (by omega)]
    · have : (decide (y = l) == risesTo l l.length) = true := by
        rw [beq_iff_eq, Bool.eq_iff_iff, decide_eq_true_eq, hyl, rises_iff]
      rw [this]
      exact Ev.now _
  | succ d ih =>
    intro k hk h0
    have hlt : k < l.length := by omega
    have hnext := ih (k + 1) (by omega) (by omega)
    rw [risesTo_succ l k h0] at hnext
    refine Ev.step (f := fun n => pelicanlaw13_GroupBack.l1 n l y (risesTo l k && decide (l.getD (k - 1) 0 < l.getD k 0)) ((k + 1 : Nat) : Int)) (fun n => ?_) hnext
    simp only [pelicanlaw13_GroupBack.l1]
    rw [if_pos (by omega), wr (by omega) (by omega), wr (by omega) (by omega)]
    have e1 : ((k : Int) - 1) = ((k - 1 : Nat) : Int) := by omega
    have e2 : ((k : Int) + 1) = ((k + 1 : Nat) : Int) := by omega
    cases hr : risesTo l k with
    | true =>
      rw [if_pos rfl, if_pos (by omega), if_pos (by omega), if_pos (by omega), e1, e2, rd_nat, rd_nat, Bool.true_and]
    | false => rw [if_neg (by simp), e2, Bool.false_and]
theorem l_empty_one {l : List Int} (h : l.length ≤ 1) : l.Pairwise (· < ·) := by
  match l, h with
  | [], _ => exact List.Pairwise.nil
  | [_], _ => exact List.pairwise_singleton _ _
theorem j3_ev (l : List Int) (hl : l.length ≤ 20) : Ev (fun n => pelicanlaw13_GroupBack.j3 n l false) true := by
  obtain ⟨r, hr, hT⟩ := of_tells l (by omega)
  refine Ev.step (f := fun n => (group_Of.f n l).bind fun t199 => if t199 = (-1) then some (decide ((l.length : Int) > 0)) else (group_List.f t199).bind fun t200 => pelicanlaw13_GroupBack.l1 n l t200 true 1) (fun n => by simp only [pelicanlaw13_GroupBack.j3]; rw [if_neg (by simp)]) (Ev.bind hr ?_)
  rcases hT with ⟨rfl, hne, _⟩ | ⟨x, rfl, hx⟩
  · have : decide ((l.length : Int) > 0) = true := decide_eq_true (by have := List.length_pos_iff.2 hne; omega)
    simp only [if_true, this]
    exact Ev.now _
  · have hn : ¬ ((x : Int) = -1) := by omega
    simp only [if_neg hn, group_List.f, Option.bind_some, groupsOf_nat hx.lt]
    have hlen := hx.perm.length_eq
    have hiff : Sp.bitsOf x = l ↔ l.Pairwise (· < ·) := ⟨fun e => by rw [← e]; exact bits_sorted x, fun h => hx.sorted_eq h⟩
    by_cases h1 : l.length = 0
    · have hemp : l = [] := List.eq_nil_of_length_eq_zero h1
      subst hemp
      have hb : Sp.bitsOf x = [] := List.eq_nil_of_length_eq_zero (by rw [hlen]; rfl)
      rw [hb]
      refine Ev.of (fun k => (pelicanlaw13_GroupBack.mono_l k).2.2.2.2 _ _ _ _) (k := 3) (by decide +kernel)
    · have := l1_ev l (Sp.bitsOf x) hl hlen hiff (l.length - 1) 1 (by omega) (by omega)
      rw [show risesTo l 1 = true by simp [risesTo]] at this
      exact this
theorem l0_ev (s : Int) (l x : List Int) (hx : x.Pairwise (· < ·)) (hl : x.length ≤ 20) (hgo : Ev (fun n => if s ≥ 0 then pelicanlaw13_GroupBack.j2 n s l x (decide (s < 256)) else pelicanlaw13_GroupBack.j2 n s l x false) true) :
    ∀ (d k : Nat), k + d = max 1 x.length → 0 < k → Ev (fun n => pelicanlaw13_GroupBack.l0 n s l x (k : Int)) true := by
  intro d
  induction d with
  | zero =>
    intro k hk h0
    refine Ev.step (fun n => ?_) hgo
    simp only [pelicanlaw13_GroupBack.l0]
    rw [if_neg (by omega)]
  | succ d ih =>
    intro k hk h0
    have hlt : k < x.length := by omega
    refine Ev.step (f := fun n => pelicanlaw13_GroupBack.l0 n s l x ((k + 1 : Nat) : Int)) (fun n => ?_) (ih (k + 1) (by omega) (by omega))
    simp only [pelicanlaw13_GroupBack.l0]
    have e1 : ((k : Int) - 1) = ((k - 1 : Nat) : Int) := by omega
    have hp := List.pairwise_iff_getElem.1 hx (k - 1) k (by omega) hlt (by omega)
    rw [if_pos (by omega), if_pos (by omega), wr (by omega) (by omega), wr (by omega) (by omega), if_pos (by omega), if_pos (by omega), e1, rd_nat, rd_nat, if_neg ?_]
    · rfl
    · simpa [List.getD_eq_getElem?_getD, List.getElem?_eq_getElem hlt, List.getElem?_eq_getElem (show k - 1 < x.length by omega)] using hp
theorem of_bits : ∀ x : Nat, x < 256 → group_Of.f 20 (Sp.bitsOf x) = some (x : Int) := by decide +kernel
end GroupBack
open GroupBack
theorem GroupBack (a0 : Int) (l1 : List Int) : ∃ k, pelicanlaw13_GroupBack.f k a0 l1 = some true := by
  refine Ev.rounds ?_
  refine Ev.congr (f := fun n => (pelicanlaw13_awake.f n).bind fun t192 => if t192 = true then pelicanlaw13_GroupBack.j0 n a0 l1 t192 (decide ((l1.length : Int) > 20)) else pelicanlaw13_GroupBack.j0 n a0 l1 t192 true) (fun n => rfl) (Ev.bind awake_ev ?_)
  simp only [if_true]
  by_cases h20 : l1.length > 20
  · have : decide ((l1.length : Int) > 20) = true := decide_eq_true (by omega)
    rw [this]
    exact Ev.step (f := fun _ => some true) (fun n => by simp only [pelicanlaw13_GroupBack.j0, if_true]) (Ev.now _)
  · have : decide ((l1.length : Int) > 20) = false := decide_eq_false (by omega)
    rw [this]
    refine Ev.step (f := fun n => pelicanlaw13_GroupBack.l0 n a0 l1 (Sp.groupsOf a0) ((1 : Nat) : Int)) (fun n => by simp only [pelicanlaw13_GroupBack.j0, group_List.f, Option.bind_some]; rw [if_neg (by simp)]; rfl) ?_
    have h8 := Sp.groupsOf_len a0
    have hsorted : (Sp.groupsOf a0).Pairwise (· < ·) := by
      unfold Sp.groupsOf
      split
      · exact bits_sorted _
      · exact List.Pairwise.nil
    refine l0_ev a0 l1 _ hsorted (by omega) ?_ (max 1 (Sp.groupsOf a0).length - 1) 1 (by omega) (by omega)
    by_cases hr : 0 ≤ a0 ∧ a0 < 256
    · obtain ⟨h0, h1⟩ := hr
      obtain ⟨x, rfl⟩ := Int.eq_ofNat_of_zero_le h0
      have hd : decide ((x : Int) < 256) = true := decide_eq_true h1
      have hx : x < 256 := by omega
      refine Ev.congr (f := fun n => pelicanlaw13_GroupBack.j2 n (x : Int) l1 (Sp.bitsOf x) true) (fun n => by rw [if_pos h0, hd, groupsOf_nat hx]) ?_
      refine Ev.step (f := fun n => (group_Of.f n (Sp.bitsOf x)).bind fun t198 => if t198 = (x : Int) then pelicanlaw13_GroupBack.j3 n l1 false else pelicanlaw13_GroupBack.j3 n l1 true) (fun n => by simp only [pelicanlaw13_GroupBack.j2, if_true]) (Ev.bind (Ev.of (fun k => group_Of.mono _ k) (of_bits x hx)) ?_)
      simp only [if_true]
      exact j3_ev l1 (by omega)
    · have hg : Sp.groupsOf a0 = [] := by rw [Sp.groupsOf, if_neg hr]
      rw [hg]
      have hj : Ev (fun n => pelicanlaw13_GroupBack.j2 n a0 l1 [] false) true := by
        refine Ev.step (f := fun n => pelicanlaw13_GroupBack.j3 n l1 false) (fun n => by simp only [pelicanlaw13_GroupBack.j2]; rw [if_neg (by simp)]; rfl) (j3_ev l1 (by omega))
      refine Ev.congr (f := fun n => pelicanlaw13_GroupBack.j2 n a0 l1 [] false) (fun n => ?_) hj
      by_cases h0 : a0 ≥ 0
      · rw [if_pos h0, decide_eq_false (by omega)]
      · rw [if_neg h0]
end Go.Proofs.YtnogkpofgkaefaaDoor.Pure
