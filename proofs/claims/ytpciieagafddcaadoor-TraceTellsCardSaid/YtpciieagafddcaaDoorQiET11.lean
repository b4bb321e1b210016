/- Long, as the document has it, walked by the engine (own text). -/
import Derived.Test.YtpciieagafddcaaDoorQiET10
namespace Go.Proofs.YtpciieagafddcaaDoor.E
open Go Go.RowKit Go.Proofs Go.Proofs.YtpciieagafddcaaDoorW.PrintWords Go.Proofs.YtpciieagafddcaaDoorW.PrintLast Go.Proofs.YtpciieagafddcaaDoorW.PrintMore Go.Proofs.YtpciieagafddcaaDoor.F
set_option linter.unusedVariables false
set_option linter.unusedSimpArgs false
set_option maxRecDepth 100000
set_option maxHeartbeats 8000000
attribute [local irreducible] acode callR
namespace Tr
open St Rw
open PY (longB)
open PX (fitP clashP cell beg leastF leastB nextB soonB groupB groupsB rowB fromB checkB RowOk onB Betw LeastI ClearIs)
theorem ints_weak {c : Cx} {y : Value} {n : Nat} {el : Nat → Nat → CV} {x : List Int} (h : FV.R c (.t (.one (.sl n 1 el))) y) (hn : n = x.length) (he : ∀ i, i < n → el i 0 = cI (x.getD i 0)) : (fInts x).R c y := by
  subst hn
  exact ⟨S_el h.1 (fun i j hi hj => by
    obtain rfl : j = 0 := by omega
    exact he i hi), h.2⟩
theorem longS_le (rows : List (List Int)) (g x : Int) : ∀ i, (PY.longS rows g x i).1.length ≤ i ∧ (PY.longS rows g x i).2 ≤ i
  | 0 => ⟨Nat.le_refl 0, Nat.le_refl 0⟩
  | i + 1 => by
    obtain ⟨h1, h2⟩ := longS_le rows g x i
    rw [PY.longS_succ]
    split
    · exact ⟨Nat.le_succ_of_le h1, Nat.succ_le_succ h2⟩
    · refine ⟨?_, Nat.zero_le _⟩
      show ((PY.longS rows g x i).1 ++ _).length ≤ i + 1
      rw [List.length_append]
      split <;> simp <;> omega
theorem longS_hit {rows : List (List Int)} {g x : Int} {i : Nat} (h : PY.hitR rows g x i = true) : PY.longS rows g x (i + 1) = ((PY.longS rows g x i).1, (PY.longS rows g x i).2 + 1) := by rw [PY.longS_succ, if_pos h]
theorem longS_miss {rows : List (List Int)} {g x : Int} {i : Nat} (h : PY.hitR rows g x i = false) : PY.longS rows g x (i + 1) = ((PY.longS rows g x i).1 ++ (if 0 < (PY.longS rows g x i).2 then [((PY.longS rows g x i).2 : Int)] else []), 0) := by rw [PY.longS_succ, if_neg (by rw [h]; decide)]
theorem getD_last {l : List Int} {x : Int} {n : Nat} (h : l.length = n) : (l ++ [x]).getD n 0 = x := by
  subst h
  rw [List.getD_eq_getElem?_getD, List.getElem?_append_right (Nat.le_refl _), Nat.sub_self]
  rfl
theorem getD_left {l : List Int} {x : Int} {j : Nat} (h : j < l.length) : (l ++ [x]).getD j 0 = l.getD j 0 := by
  rw [List.getD_eq_getElem?_getD, List.getD_eq_getElem?_getD, List.getElem?_append_left h]
theorem nil_weak {c : Cx} {y : Value} (h : FV.R c (.t (.one (.v (.slice none 0 0)))) y) : (fInts []).R c y := by
  have hv : y = .slice none 0 0 := h.1
  subst hv
  exact ⟨⟨none, 0, rfl, Nat.le_refl 0, Nat.zero_le _, fun i j hi _ => absurd hi (Nat.not_lt_zero i)⟩, rfl⟩
theorem ints_weak1 {c : Cx} {y : Value} {el : Nat → Nat → CV} {x : Int} (h : FV.R c (.t (.one (.sl 1 1 el))) y) (he : el 0 0 = cI x) : (fInts [x]).R c y :=
  ints_weak h rfl (fun i hi => by
    obtain rfl : i = 0 := by omega
    exact he)
theorem hit_t {rows : List (List Int)} {g x : Int} {i : Nat} (h0 : decide (g ≥ 0) = true) (h1 : decide (g < ((rows.getD ((i : Int).toNat) []).length : Int)) = true) (h2 : ((rows.getD ((i : Int).toNat) []).getD g.toNat 0 == x) = true) : PY.hitR rows g x i = true := by
  rw [Int.toNat_natCast] at h1 h2
  have h0 := of_decide_eq_true h0
  unfold PY.hitR PY.inR
  rw [decide_eq_true ⟨h0, of_decide_eq_true h1⟩, Bool.true_and]
  exact decide_eq_true (beq_iff_eq.1 h2)
theorem hit_x {rows : List (List Int)} {g x : Int} {i : Nat} (h2 : ((rows.getD ((i : Int).toNat) []).getD g.toNat 0 == x) = false) : PY.hitR rows g x i = false := by
  rw [Int.toNat_natCast] at h2
  unfold PY.hitR
  rw [show decide (cell rows i g.toNat = x) = false from decide_eq_false (beq_eq_false_iff_ne.1 h2), Bool.and_false]
theorem hit_l {rows : List (List Int)} {g x : Int} {i : Nat} (h1 : decide (g < ((rows.getD ((i : Int).toNat) []).length : Int)) = false) : PY.hitR rows g x i = false := by
  rw [Int.toNat_natCast] at h1
  unfold PY.hitR PY.inR
  rw [decide_eq_false (fun h => of_decide_eq_false h1 h.2), Bool.false_and]
theorem hit_n {rows : List (List Int)} {g x : Int} {i : Nat} (h0 : decide (g ≥ 0) = false) : PY.hitR rows g x i = false := by
  unfold PY.hitR PY.inR
  rw [decide_eq_false (fun h => of_decide_eq_false h0 h.1), Bool.false_and]
def SpRlong : Spec := SpLong
theorem rlong_ok : SpecOk Tryd.prog 20 SpLong := by
  refine spec_of_codeW TZok ΓOk.nil mixed Tryd.func20 rfl ?_
  rintro args pre r post ⟨⟨rows, g, x, hlen, rfl, rfl⟩, rfl, rfl⟩
  refine ⟨rfl, ?_⟩
  repeat' (first | refine st_v rfl rfl rfl rfl (fun _ => rfl) rfl (fun _ => rfl) ?_ | refine st_skip rfl rfl rfl ?_ | refine st_b rfl rfl rfl rfl (fun _ => rfl) rfl (fun h1 => ?_) (fun h1 => ?_) | refine st_n rfl rfl rfl rfl (fun _ => rfl) rfl (fun _ => rfl) ?_ | refine st_s rfl rfl rfl rfl (fun _ => rfl) rfl (fun _ => rfl) ?_ | refine c_seq ?_ | refine c_region ?_ | refine c_plain rfl ?_ | refine c_drawn rfl (by kernel_rfl) ?_ | refine st_nil ?_ | refine c_norm ?_ | refine c_cret ?_ | refine c_ret ?_ | refine c_true rfl ?_ | refine c_false rfl ?_ | refine c_skip ?_ | refine c_block ?_ | refine c_bnorm ?_ | refine c_bret ?_ | refine c_bexit rfl ?_ | refine c_bpass rfl ?_ | refine c_exit ?_ | refine c_cexit ?_ | refine c_lret ?_ | refine c_lexit ?_ | refine c_scope ?_ | refine c_label ?_ | refine c_snorm ?_ | refine c_sret ?_ | refine c_sexit ?_ | fail)
  refine c_loop (fun s : Nat × Nat × Nat × (Nat → Nat → CV) => s.1 ≤ rows.length ∧ s.2.1 = (PY.longS rows g x s.1).1.length ∧ s.2.2.1 = (PY.longS rows g x s.1).2 ∧ ∀ j, j < s.2.1 → s.2.2.2 j 0 = cI ((PY.longS rows g x s.1).1.getD j 0))
    (fun s => match s.2.1 with
      | 0 => [(9, fI (s.1 : Int)), (8, fI (s.2.2.1 : Int)), (7, .t (.one (.v (.slice none 0 0)))), (0, fRows rows), (1, fI g), (2, fI x)]
      | _ + 1 => [(9, fI (s.1 : Int)), (8, fI (s.2.2.1 : Int)), (7, .t (.one (.own 0))), (0, fRows rows), (1, fI g), (2, fI x)])
    (fun s => match s.2.1 with
      | 0 => []
      | n + 1 => [(0, some (.row 3 (n + 1) 1 s.2.2.2))])
    (fun s => rows.length - s.1) [100000] (0, 0, 0, fun _ _ => default) ⟨Nat.zero_le _, rfl, rfl, fun j hj => absurd hj (Nat.not_lt_zero j)⟩ rfl ⟨rfl, rfl, rfl, rfl, rfl, rfl, rfl, rfl, rfl, rfl, rfl, rfl, trivial⟩ trivial rfl (fun s hs => ?_)
  obtain ⟨i, n, m, el⟩ := s
  obtain ⟨hi, hn, hm, hel⟩ := hs
  have hi : i ≤ rows.length := hi
  have hn : n = (PY.longS rows g x i).1.length := hn
  have hm : m = (PY.longS rows g x i).2 := hm
  have hle := longS_le rows g x i
  have hrb : PY.longB rows g x = (PY.longS rows g x rows.length).1 ++ (if 0 < (PY.longS rows g x rows.length).2 then [((PY.longS rows g x rows.length).2 : Int)] else []) := rfl
  cases n with
  | zero =>
    have hm : m = (PY.longS rows g x i).2 := hm
    have hmi : m ≤ i := by rw [hm]; exact hle.2
    have hnil : (PY.longS rows g x i).1 = [] := List.eq_nil_of_length_eq_zero hn.symm
    repeat' (first | refine st_v rfl rfl rfl rfl (fun _ => rfl) rfl (fun _ => rfl) ?_ | refine st_skip rfl rfl rfl ?_ | refine st_b rfl rfl rfl rfl (fun _ => rfl) rfl (fun h1 => ?_) (fun h1 => ?_) | refine st_n rfl rfl rfl rfl (fun _ => rfl) rfl (fun _ => rfl) ?_ | refine st_s rfl rfl rfl rfl (fun _ => rfl) rfl (fun _ => rfl) ?_ | refine c_seq ?_ | refine c_region ?_ | refine c_plain rfl ?_ | refine c_drawn rfl (by kernel_rfl) ?_ | refine st_nil ?_ | refine c_norm ?_ | refine c_cret ?_ | refine c_ret ?_ | refine c_true rfl ?_ | refine c_false rfl ?_ | refine c_skip ?_ | refine c_block ?_ | refine c_bnorm ?_ | refine c_bret ?_ | refine c_bexit rfl ?_ | refine c_bpass rfl ?_ | refine c_exit ?_ | refine c_cexit ?_ | refine c_lret ?_ | refine c_lexit ?_ | refine c_scope ?_ | refine c_label ?_ | refine c_snorm ?_ | refine c_sret ?_ | refine c_sexit ?_ | refine st_pv rfl rfl rfl rfl (fun _ => rfl) (by simp only [decide_eq_true_eq] at *; omega) rfl (fun _ => rfl) ?_ | refine st_pn rfl rfl rfl rfl (fun _ => rfl) (by show 1 * 8 ≤ 140737488355328; omega) rfl (fun _ => rfl) ?_ | fail)
    · have hil : i < rows.length := by have := of_decide_eq_true (by assumption : decide ((i : Int) < (rows.length : Int)) = true); omega
      have hh : PY.hitR rows g x i = true := hit_t (by assumption) (by assumption) (by assumption)
      have e := longS_hit hh
      exact c_lnorm [100000] (i + 1, 0, m + 1, el) ⟨hil, by show 0 = (PY.longS rows g x (i + 1)).1.length; rw [e]; exact hn, by show m + 1 = (PY.longS rows g x (i + 1)).2; rw [e, hm], fun j hj => by show _ = cI ((PY.longS rows g x (i + 1)).1.getD j 0); rw [e]; exact hel j hj⟩ (by show rows.length - (i + 1) < rows.length - i; omega) rfl ⟨tk_eq ((St.wr64 (by omega) (by omega)).trans (by omega : (i : Int) + 1 = ((i + 1 : Nat) : Int))), rfl, tk_eq (show IntKind.i64.wrap ((m : Int) + 1) = ((m + 1 : Nat) : Int) from (St.wr64 (by omega) (by omega)).trans (by omega)), rfl, rfl, rfl, rfl, rfl, rfl, rfl, rfl, rfl, trivial⟩ trivial rfl
    · have hil : i < rows.length := by have := of_decide_eq_true (by assumption : decide ((i : Int) < (rows.length : Int)) = true); omega
      have hm0 : 0 < m := by have := of_decide_eq_true (by assumption : decide ((m : Int) > 0) = true); omega
      have hh : PY.hitR rows g x i = false := hit_x (by assumption)
      have e := longS_miss hh
      rw [if_pos (by omega)] at e
      rw [hnil, List.nil_append] at e
      refine c_lnorm [34] (i + 1, 1, 0, _) ⟨hil, by show 1 = (PY.longS rows g x (i + 1)).1.length; rw [e]; rfl, by show 0 = (PY.longS rows g x (i + 1)).2; rw [e], fun j hj => ?_⟩ (by show rows.length - (i + 1) < rows.length - i; omega) rfl ⟨tk_eq ((St.wr64 (by omega) (by omega)).trans (by omega : (i : Int) + 1 = ((i + 1 : Nat) : Int))), rfl, rfl, rfl, rfl, rfl, rfl, rfl, rfl, rfl, rfl, rfl, trivial⟩ ⟨⟨rfl, rfl, rfl⟩, trivial⟩ rfl
      have hj : j < 1 := hj
      obtain rfl : j = 0 := by omega
      show _ = cI ((PY.longS rows g x (i + 1)).1.getD 0 0)
      rw [e, ← hm]
      rfl
    · have hil : i < rows.length := by have := of_decide_eq_true (by assumption : decide ((i : Int) < (rows.length : Int)) = true); omega
      have hm0 : m = 0 := by have := of_decide_eq_false (by assumption : decide ((m : Int) > 0) = false); omega
      have hh : PY.hitR rows g x i = false := hit_x (by assumption)
      have e := longS_miss hh
      rw [if_neg (by omega), List.append_nil] at e
      exact c_lnorm [100000] (i + 1, 0, m, el) ⟨hil, by show 0 = (PY.longS rows g x (i + 1)).1.length; rw [e]; exact hn, by show m = (PY.longS rows g x (i + 1)).2; rw [e, hm0], fun j hj => by show _ = cI ((PY.longS rows g x (i + 1)).1.getD j 0); rw [e]; exact hel j hj⟩ (by show rows.length - (i + 1) < rows.length - i; omega) rfl ⟨tk_eq ((St.wr64 (by omega) (by omega)).trans (by omega : (i : Int) + 1 = ((i + 1 : Nat) : Int))), rfl, rfl, rfl, rfl, rfl, rfl, rfl, rfl, rfl, rfl, rfl, trivial⟩ trivial rfl
    · have hil : i < rows.length := by have := of_decide_eq_true (by assumption : decide ((i : Int) < (rows.length : Int)) = true); omega
      have hm0 : 0 < m := by have := of_decide_eq_true (by assumption : decide ((m : Int) > 0) = true); omega
      have hh : PY.hitR rows g x i = false := hit_l (by assumption)
      have e := longS_miss hh
      rw [if_pos (by omega)] at e
      rw [hnil, List.nil_append] at e
      refine c_lnorm [34] (i + 1, 1, 0, _) ⟨hil, by show 1 = (PY.longS rows g x (i + 1)).1.length; rw [e]; rfl, by show 0 = (PY.longS rows g x (i + 1)).2; rw [e], fun j hj => ?_⟩ (by show rows.length - (i + 1) < rows.length - i; omega) rfl ⟨tk_eq ((St.wr64 (by omega) (by omega)).trans (by omega : (i : Int) + 1 = ((i + 1 : Nat) : Int))), rfl, rfl, rfl, rfl, rfl, rfl, rfl, rfl, rfl, rfl, rfl, trivial⟩ ⟨⟨rfl, rfl, rfl⟩, trivial⟩ rfl
      have hj : j < 1 := hj
      obtain rfl : j = 0 := by omega
      show _ = cI ((PY.longS rows g x (i + 1)).1.getD 0 0)
      rw [e, ← hm]
      rfl
    · have hil : i < rows.length := by have := of_decide_eq_true (by assumption : decide ((i : Int) < (rows.length : Int)) = true); omega
      have hm0 : m = 0 := by have := of_decide_eq_false (by assumption : decide ((m : Int) > 0) = false); omega
      have hh : PY.hitR rows g x i = false := hit_l (by assumption)
      have e := longS_miss hh
      rw [if_neg (by omega), List.append_nil] at e
      exact c_lnorm [100000] (i + 1, 0, m, el) ⟨hil, by show 0 = (PY.longS rows g x (i + 1)).1.length; rw [e]; exact hn, by show m = (PY.longS rows g x (i + 1)).2; rw [e, hm0], fun j hj => by show _ = cI ((PY.longS rows g x (i + 1)).1.getD j 0); rw [e]; exact hel j hj⟩ (by show rows.length - (i + 1) < rows.length - i; omega) rfl ⟨tk_eq ((St.wr64 (by omega) (by omega)).trans (by omega : (i : Int) + 1 = ((i + 1 : Nat) : Int))), rfl, rfl, rfl, rfl, rfl, rfl, rfl, rfl, rfl, rfl, rfl, trivial⟩ trivial rfl
    · have hil : i < rows.length := by have := of_decide_eq_true (by assumption : decide ((i : Int) < (rows.length : Int)) = true); omega
      have hm0 : 0 < m := by have := of_decide_eq_true (by assumption : decide ((m : Int) > 0) = true); omega
      have hh : PY.hitR rows g x i = false := hit_n (by assumption)
      have e := longS_miss hh
      rw [if_pos (by omega)] at e
      rw [hnil, List.nil_append] at e
      refine c_lnorm [34] (i + 1, 1, 0, _) ⟨hil, by show 1 = (PY.longS rows g x (i + 1)).1.length; rw [e]; rfl, by show 0 = (PY.longS rows g x (i + 1)).2; rw [e], fun j hj => ?_⟩ (by show rows.length - (i + 1) < rows.length - i; omega) rfl ⟨tk_eq ((St.wr64 (by omega) (by omega)).trans (by omega : (i : Int) + 1 = ((i + 1 : Nat) : Int))), rfl, rfl, rfl, rfl, rfl, rfl, rfl, rfl, rfl, rfl, rfl, trivial⟩ ⟨⟨rfl, rfl, rfl⟩, trivial⟩ rfl
      have hj : j < 1 := hj
      obtain rfl : j = 0 := by omega
      show _ = cI ((PY.longS rows g x (i + 1)).1.getD 0 0)
      rw [e, ← hm]
      rfl
    · have hil : i < rows.length := by have := of_decide_eq_true (by assumption : decide ((i : Int) < (rows.length : Int)) = true); omega
      have hm0 : m = 0 := by have := of_decide_eq_false (by assumption : decide ((m : Int) > 0) = false); omega
      have hh : PY.hitR rows g x i = false := hit_n (by assumption)
      have e := longS_miss hh
      rw [if_neg (by omega), List.append_nil] at e
      exact c_lnorm [100000] (i + 1, 0, m, el) ⟨hil, by show 0 = (PY.longS rows g x (i + 1)).1.length; rw [e]; exact hn, by show m = (PY.longS rows g x (i + 1)).2; rw [e, hm0], fun j hj => by show _ = cI ((PY.longS rows g x (i + 1)).1.getD j 0); rw [e]; exact hel j hj⟩ (by show rows.length - (i + 1) < rows.length - i; omega) rfl ⟨tk_eq ((St.wr64 (by omega) (by omega)).trans (by omega : (i : Int) + 1 = ((i + 1 : Nat) : Int))), rfl, rfl, rfl, rfl, rfl, rfl, rfl, rfl, rfl, rfl, rfl, trivial⟩ trivial rfl
    · obtain rfl : i = rows.length := by have := of_decide_eq_false (by assumption : decide ((i : Int) < (rows.length : Int)) = false); omega
      have hm0 : 0 < m := by have := of_decide_eq_true (by assumption : decide ((m : Int) > 0) = true); omega
      rw [if_pos (by omega), ← hm] at hrb
      rw [hnil, List.nil_append] at hrb
      rw [hrb]
      exact ⟨_, fun c y h => ints_weak1 h rfl, rfl, rfl, rfl, trivial⟩
    · obtain rfl : i = rows.length := by have := of_decide_eq_false (by assumption : decide ((i : Int) < (rows.length : Int)) = false); omega
      have hm0 : m = 0 := by have := of_decide_eq_false (by assumption : decide ((m : Int) > 0) = false); omega
      rw [if_neg (by omega), List.append_nil] at hrb
      rw [hrb, hnil]
      exact ⟨_, fun c y h => nil_weak h, rfl, rfl, rfl, trivial⟩
  | succ n =>
    have hm : m = (PY.longS rows g x i).2 := hm
    have hmi : m ≤ i := by rw [hm]; exact hle.2
    repeat' (first | refine st_v rfl rfl rfl rfl (fun _ => rfl) rfl (fun _ => rfl) ?_ | refine st_skip rfl rfl rfl ?_ | refine st_b rfl rfl rfl rfl (fun _ => rfl) rfl (fun h1 => ?_) (fun h1 => ?_) | refine st_n rfl rfl rfl rfl (fun _ => rfl) rfl (fun _ => rfl) ?_ | refine st_s rfl rfl rfl rfl (fun _ => rfl) rfl (fun _ => rfl) ?_ | refine c_seq ?_ | refine c_region ?_ | refine c_plain rfl ?_ | refine c_drawn rfl (by kernel_rfl) ?_ | refine st_nil ?_ | refine c_norm ?_ | refine c_cret ?_ | refine c_ret ?_ | refine c_true rfl ?_ | refine c_false rfl ?_ | refine c_skip ?_ | refine c_block ?_ | refine c_bnorm ?_ | refine c_bret ?_ | refine c_bexit rfl ?_ | refine c_bpass rfl ?_ | refine c_exit ?_ | refine c_cexit ?_ | refine c_lret ?_ | refine c_lexit ?_ | refine c_scope ?_ | refine c_label ?_ | refine c_snorm ?_ | refine c_sret ?_ | refine c_sexit ?_ | refine st_pv rfl rfl rfl rfl (fun _ => rfl) (by simp only [decide_eq_true_eq] at *; omega) rfl (fun _ => rfl) ?_ | refine st_pn2 rfl rfl rfl rfl (fun _ => rfl) (by show (n + 1) + 1 ≤ 9223372036854775807 ∧ ((n + 1) + 1) * 8 ≤ 140737488355328; omega) rfl (fun _ => rfl) ?_ | fail)
    · have hil : i < rows.length := by have := of_decide_eq_true (by assumption : decide ((i : Int) < (rows.length : Int)) = true); omega
      have hh : PY.hitR rows g x i = true := hit_t (by assumption) (by assumption) (by assumption)
      have e := longS_hit hh
      exact c_lnorm [0] (i + 1, n + 1, m + 1, el) ⟨hil, by show n + 1 = (PY.longS rows g x (i + 1)).1.length; rw [e]; exact hn, by show m + 1 = (PY.longS rows g x (i + 1)).2; rw [e, hm], fun j hj => by show _ = cI ((PY.longS rows g x (i + 1)).1.getD j 0); rw [e]; exact hel j hj⟩ (by show rows.length - (i + 1) < rows.length - i; omega) rfl ⟨tk_eq ((St.wr64 (by omega) (by omega)).trans (by omega : (i : Int) + 1 = ((i + 1 : Nat) : Int))), rfl, tk_eq (show IntKind.i64.wrap ((m : Int) + 1) = ((m + 1 : Nat) : Int) from (St.wr64 (by omega) (by omega)).trans (by omega)), rfl, rfl, rfl, rfl, rfl, rfl, rfl, rfl, rfl, trivial⟩ ⟨⟨rfl, rfl, rfl⟩, trivial⟩ rfl
    · have hil : i < rows.length := by have := of_decide_eq_true (by assumption : decide ((i : Int) < (rows.length : Int)) = true); omega
      have hm0 : 0 < m := by have := of_decide_eq_true (by assumption : decide ((m : Int) > 0) = true); omega
      have hh : PY.hitR rows g x i = false := hit_x (by assumption)
      have e := longS_miss hh
      rw [if_pos (by omega)] at e
      refine c_lnorm [34] (i + 1, n + 1 + 1, 0, _) ⟨hil, by show n + 1 + 1 = (PY.longS rows g x (i + 1)).1.length; rw [e, List.length_append, ← hn]; rfl, by show 0 = (PY.longS rows g x (i + 1)).2; rw [e], fun j hj => ?_⟩ (by show rows.length - (i + 1) < rows.length - i; omega) rfl ⟨tk_eq ((St.wr64 (by omega) (by omega)).trans (by omega : (i : Int) + 1 = ((i + 1 : Nat) : Int))), rfl, rfl, rfl, rfl, rfl, rfl, rfl, rfl, rfl, rfl, rfl, trivial⟩ ⟨⟨rfl, rfl, rfl⟩, trivial⟩ rfl
      have hj : j < n + 1 + 1 := hj
      show _ = cI ((PY.longS rows g x (i + 1)).1.getD j 0)
      rw [e]
      by_cases hj1 : j < n + 1
      · refine Eq.trans ?_ (congrArg cI (getD_left (by omega)).symm)
        exact (if_pos hj1).trans (hel j hj1)
      · obtain rfl : j = n + 1 := by omega
        refine Eq.trans ?_ (congrArg cI (getD_last hn.symm).symm)
        refine (if_neg hj1).trans ?_
        rw [Nat.sub_self, ← hm]
        rfl
    · have hil : i < rows.length := by have := of_decide_eq_true (by assumption : decide ((i : Int) < (rows.length : Int)) = true); omega
      have hm0 : m = 0 := by have := of_decide_eq_false (by assumption : decide ((m : Int) > 0) = false); omega
      have hh : PY.hitR rows g x i = false := hit_x (by assumption)
      have e := longS_miss hh
      rw [if_neg (by omega), List.append_nil] at e
      exact c_lnorm [0] (i + 1, n + 1, m, el) ⟨hil, by show n + 1 = (PY.longS rows g x (i + 1)).1.length; rw [e]; exact hn, by show m = (PY.longS rows g x (i + 1)).2; rw [e, hm0], fun j hj => by show _ = cI ((PY.longS rows g x (i + 1)).1.getD j 0); rw [e]; exact hel j hj⟩ (by show rows.length - (i + 1) < rows.length - i; omega) rfl ⟨tk_eq ((St.wr64 (by omega) (by omega)).trans (by omega : (i : Int) + 1 = ((i + 1 : Nat) : Int))), rfl, rfl, rfl, rfl, rfl, rfl, rfl, rfl, rfl, rfl, rfl, trivial⟩ ⟨⟨rfl, rfl, rfl⟩, trivial⟩ rfl
    · have hil : i < rows.length := by have := of_decide_eq_true (by assumption : decide ((i : Int) < (rows.length : Int)) = true); omega
      have hm0 : 0 < m := by have := of_decide_eq_true (by assumption : decide ((m : Int) > 0) = true); omega
      have hh : PY.hitR rows g x i = false := hit_l (by assumption)
      have e := longS_miss hh
      rw [if_pos (by omega)] at e
      refine c_lnorm [34] (i + 1, n + 1 + 1, 0, _) ⟨hil, by show n + 1 + 1 = (PY.longS rows g x (i + 1)).1.length; rw [e, List.length_append, ← hn]; rfl, by show 0 = (PY.longS rows g x (i + 1)).2; rw [e], fun j hj => ?_⟩ (by show rows.length - (i + 1) < rows.length - i; omega) rfl ⟨tk_eq ((St.wr64 (by omega) (by omega)).trans (by omega : (i : Int) + 1 = ((i + 1 : Nat) : Int))), rfl, rfl, rfl, rfl, rfl, rfl, rfl, rfl, rfl, rfl, rfl, trivial⟩ ⟨⟨rfl, rfl, rfl⟩, trivial⟩ rfl
      have hj : j < n + 1 + 1 := hj
      show _ = cI ((PY.longS rows g x (i + 1)).1.getD j 0)
      rw [e]
      by_cases hj1 : j < n + 1
      · refine Eq.trans ?_ (congrArg cI (getD_left (by omega)).symm)
        exact (if_pos hj1).trans (hel j hj1)
      · obtain rfl : j = n + 1 := by omega
        refine Eq.trans ?_ (congrArg cI (getD_last hn.symm).symm)
        refine (if_neg hj1).trans ?_
        rw [Nat.sub_self, ← hm]
        rfl
    · have hil : i < rows.length := by have := of_decide_eq_true (by assumption : decide ((i : Int) < (rows.length : Int)) = true); omega
      have hm0 : m = 0 := by have := of_decide_eq_false (by assumption : decide ((m : Int) > 0) = false); omega
      have hh : PY.hitR rows g x i = false := hit_l (by assumption)
      have e := longS_miss hh
      rw [if_neg (by omega), List.append_nil] at e
      exact c_lnorm [0] (i + 1, n + 1, m, el) ⟨hil, by show n + 1 = (PY.longS rows g x (i + 1)).1.length; rw [e]; exact hn, by show m = (PY.longS rows g x (i + 1)).2; rw [e, hm0], fun j hj => by show _ = cI ((PY.longS rows g x (i + 1)).1.getD j 0); rw [e]; exact hel j hj⟩ (by show rows.length - (i + 1) < rows.length - i; omega) rfl ⟨tk_eq ((St.wr64 (by omega) (by omega)).trans (by omega : (i : Int) + 1 = ((i + 1 : Nat) : Int))), rfl, rfl, rfl, rfl, rfl, rfl, rfl, rfl, rfl, rfl, rfl, trivial⟩ ⟨⟨rfl, rfl, rfl⟩, trivial⟩ rfl
    · have hil : i < rows.length := by have := of_decide_eq_true (by assumption : decide ((i : Int) < (rows.length : Int)) = true); omega
      have hm0 : 0 < m := by have := of_decide_eq_true (by assumption : decide ((m : Int) > 0) = true); omega
      have hh : PY.hitR rows g x i = false := hit_n (by assumption)
      have e := longS_miss hh
      rw [if_pos (by omega)] at e
      refine c_lnorm [34] (i + 1, n + 1 + 1, 0, _) ⟨hil, by show n + 1 + 1 = (PY.longS rows g x (i + 1)).1.length; rw [e, List.length_append, ← hn]; rfl, by show 0 = (PY.longS rows g x (i + 1)).2; rw [e], fun j hj => ?_⟩ (by show rows.length - (i + 1) < rows.length - i; omega) rfl ⟨tk_eq ((St.wr64 (by omega) (by omega)).trans (by omega : (i : Int) + 1 = ((i + 1 : Nat) : Int))), rfl, rfl, rfl, rfl, rfl, rfl, rfl, rfl, rfl, rfl, rfl, trivial⟩ ⟨⟨rfl, rfl, rfl⟩, trivial⟩ rfl
      have hj : j < n + 1 + 1 := hj
      show _ = cI ((PY.longS rows g x (i + 1)).1.getD j 0)
      rw [e]
      by_cases hj1 : j < n + 1
      · refine Eq.trans ?_ (congrArg cI (getD_left (by omega)).symm)
        exact (if_pos hj1).trans (hel j hj1)
      · obtain rfl : j = n + 1 := by omega
        refine Eq.trans ?_ (congrArg cI (getD_last hn.symm).symm)
        refine (if_neg hj1).trans ?_
        rw [Nat.sub_self, ← hm]
        rfl
    · have hil : i < rows.length := by have := of_decide_eq_true (by assumption : decide ((i : Int) < (rows.length : Int)) = true); omega
      have hm0 : m = 0 := by have := of_decide_eq_false (by assumption : decide ((m : Int) > 0) = false); omega
      have hh : PY.hitR rows g x i = false := hit_n (by assumption)
      have e := longS_miss hh
      rw [if_neg (by omega), List.append_nil] at e
      exact c_lnorm [0] (i + 1, n + 1, m, el) ⟨hil, by show n + 1 = (PY.longS rows g x (i + 1)).1.length; rw [e]; exact hn, by show m = (PY.longS rows g x (i + 1)).2; rw [e, hm0], fun j hj => by show _ = cI ((PY.longS rows g x (i + 1)).1.getD j 0); rw [e]; exact hel j hj⟩ (by show rows.length - (i + 1) < rows.length - i; omega) rfl ⟨tk_eq ((St.wr64 (by omega) (by omega)).trans (by omega : (i : Int) + 1 = ((i + 1 : Nat) : Int))), rfl, rfl, rfl, rfl, rfl, rfl, rfl, rfl, rfl, rfl, rfl, trivial⟩ ⟨⟨rfl, rfl, rfl⟩, trivial⟩ rfl
    · obtain rfl : i = rows.length := by have := of_decide_eq_false (by assumption : decide ((i : Int) < (rows.length : Int)) = false); omega
      have hm0 : 0 < m := by have := of_decide_eq_true (by assumption : decide ((m : Int) > 0) = true); omega
      rw [if_pos (by omega), ← hm] at hrb
      rw [hrb]
      refine ⟨_, fun c y h => ints_weak h (by rw [List.length_append, ← hn]; rfl) (fun j hj => ?_), rfl, rfl, rfl, trivial⟩
      have hj : j < n + 1 + 1 := hj
      by_cases hj1 : j < n + 1
      · refine Eq.trans ?_ (congrArg cI (getD_left (by omega)).symm)
        exact (if_pos hj1).trans (hel j hj1)
      · obtain rfl : j = n + 1 := by omega
        refine Eq.trans ?_ (congrArg cI (getD_last hn.symm).symm)
        refine (if_neg hj1).trans ?_
        rw [Nat.sub_self]
        rfl
    · obtain rfl : i = rows.length := by have := of_decide_eq_false (by assumption : decide ((i : Int) < (rows.length : Int)) = false); omega
      have hm0 : m = 0 := by have := of_decide_eq_false (by assumption : decide ((m : Int) > 0) = false); omega
      rw [if_neg (by omega), List.append_nil] at hrb
      rw [hrb]
      exact ⟨_, fun c y h => ints_weak h hn (fun j hj => hel j hj), rfl, rfl, rfl, trivial⟩
end Tr
end Go.Proofs.YtpciieagafddcaaDoor.E
