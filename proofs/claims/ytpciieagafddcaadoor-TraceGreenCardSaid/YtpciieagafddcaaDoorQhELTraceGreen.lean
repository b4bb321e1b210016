/- TraceGreen walked by the engine (own text). -/
import Derived.Test.YtpciieagafddcaaDoorQhET10
namespace Go.Proofs.YtpciieagafddcaaDoor.E
open Go Go.RowKit Go.Proofs Go.Proofs.YtpciieagafddcaaDoorW.PrintWords Go.Proofs.YtpciieagafddcaaDoorW.PrintLast Go.Proofs.YtpciieagafddcaaDoorW.PrintMore Go.Proofs.YtpciieagafddcaaDoor.F
set_option linter.unusedVariables false
set_option linter.unusedSimpArgs false
set_option maxRecDepth 100000
set_option maxHeartbeats 8000000
attribute [local irreducible] acode callR
namespace TrTraceGreen
open Tr
open St Rw
open PY (longB)
open PX (fitP clashP cell beg leastF leastB nextB soonB groupB groupsB rowB fromB checkB RowOk onB Betw LeastI ClearIs)
theorem Γg : ΓOk Tryd.prog (look [(15, SpAwake23), (16, SpFew14), (17, SpFew23), (25, SpFit), (21, SpCheck), (19, SpLong), (27, SpLeast)]) := (((((((ΓOk.nil.cons least_ok Tryd.func27 (by kernel_rfl)).cons long_ok Tryd.func19 (by kernel_rfl)).cons check_ok Tryd.func21 (by kernel_rfl)).cons fit_ok Tryd.func25 (by kernel_rfl)).cons few23_ok Tryd.func17 (by kernel_rfl)).cons few14_ok Tryd.func16 (by kernel_rfl)).cons awake23_ok Tryd.func15 (by kernel_rfl))
theorem longS_len (rows : List (List Int)) (g x : Int) : ∀ i, (PY.longS rows g x i).1.length ≤ i
  | 0 => Nat.le_refl 0
  | i + 1 => by
    have ih := longS_len rows g x i
    rw [PY.longS_succ]
    split
    · exact Nat.le_succ_of_le ih
    · show ((PY.longS rows g x i).1 ++ _).length ≤ i + 1
      rw [List.length_append]
      split <;> simp <;> omega
theorem long_len (rows : List (List Int)) (g x : Int) : (longB rows g x).length ≤ rows.length + 1 := by
  have h := longS_len rows g x rows.length
  show ((PY.longS rows g x rows.length).1 ++ _).length ≤ rows.length + 1
  rw [List.length_append]
  split <;> simp <;> omega
theorem mid {l : List Int} {i : Nat} (hi : i < l.length) : l[i]? = some (l.getD i 0) := by
  rw [List.getD_eq_getElem?_getD, List.getElem?_eq_getElem hi]; rfl
theorem ok : SpecOk Tryd.prog 6 (.pure fun a r => ∃ p rows g, a = [fPl p, fRows rows, fI g] ∧ r = vB true) := by
  refine spec_of_code TZok Γg mixed Tryd.func6 rfl ?_
  rintro args pre r post ⟨⟨p, rows, g, rfl, rfl⟩, rfl, rfl⟩
  refine ⟨rfl, ?_⟩
  obtain ⟨b1, hb1⟩ : ∃ b, few14 p = b := ⟨_, rfl⟩
  obtain ⟨b2, hb2⟩ : ∃ b, few23 rows = b := ⟨_, rfl⟩
  obtain ⟨b3, hb3⟩ : ∃ b, St.fitB p = b := ⟨_, rfl⟩
  obtain ⟨⟨a, x, y⟩, hC⟩ : ∃ x, checkB p rows = x := ⟨_, rfl⟩
  cases b2 with
  | false =>
    repeat' (first | refine st_v rfl rfl rfl rfl (fun _ => rfl) rfl (fun _ => rfl) ?_ | refine st_skip rfl rfl rfl ?_ | refine st_b rfl rfl rfl rfl (fun _ => rfl) rfl (fun h1 => ?_) (fun h1 => ?_) | refine st_n rfl rfl rfl rfl (fun _ => rfl) rfl (fun _ => rfl) ?_ | refine st_s rfl rfl rfl rfl (fun _ => rfl) rfl (fun _ => rfl) ?_ | refine c_seq ?_ | refine c_region ?_ | refine c_plain rfl ?_ | refine c_drawn rfl (by kernel_rfl) ?_ | refine st_nil ?_ | refine c_norm ?_ | refine c_cret ?_ | refine c_ret ?_ | refine c_true rfl ?_ | refine c_false rfl ?_ | refine c_skip ?_ | refine c_block ?_ | refine c_bnorm ?_ | refine c_bret ?_ | refine c_bexit rfl ?_ | refine c_bpass rfl ?_ | refine c_exit ?_ | refine c_cexit ?_ | refine c_lret ?_ | refine c_lexit ?_ | refine c_scope ?_ | refine c_label ?_ | refine c_snorm ?_ | refine c_sret ?_ | refine c_sexit ?_ | refine st_call rfl rfl rfl rfl rfl rfl rfl (call_v (vB true) rfl ⟨rfl, rfl⟩ rfl rfl rfl (cb_v rfl (fun _ => rfl) ?_)) | refine st_call rfl rfl rfl rfl rfl rfl rfl (call_v (vB b1) rfl ⟨p, rfl, by rw [hb1]⟩ rfl rfl rfl (cb_b rfl (fun h1 => ?_) (fun h1 => ?_))) | refine st_call rfl rfl rfl rfl rfl rfl rfl (call_v (vB false) rfl ⟨rows, rfl, by rw [hb2]⟩ rfl rfl rfl (cb_v rfl (fun _ => rfl) ?_)) | fail)
    all_goals exact ⟨rfl, rfl, rfl, trivial⟩
  | true =>
  have hrl := (few23_of hb2).1
  by_cases hg : b1 = true ∧ b3 = true ∧ a = 0 ∧ 0 ≤ g ∧ g < (p.f0.length : Int)
  case neg =>
    repeat' (first | refine st_v rfl rfl rfl rfl (fun _ => rfl) rfl (fun _ => rfl) ?_ | refine st_skip rfl rfl rfl ?_ | refine st_b rfl rfl rfl rfl (fun _ => rfl) rfl (fun h1 => ?_) (fun h1 => ?_) | refine st_n rfl rfl rfl rfl (fun _ => rfl) rfl (fun _ => rfl) ?_ | refine st_s rfl rfl rfl rfl (fun _ => rfl) rfl (fun _ => rfl) ?_ | refine c_seq ?_ | refine c_region ?_ | refine c_plain rfl ?_ | refine c_drawn rfl (by kernel_rfl) ?_ | refine st_nil ?_ | refine c_norm ?_ | refine c_cret ?_ | refine c_ret ?_ | refine c_true rfl ?_ | refine c_false rfl ?_ | refine c_skip ?_ | refine c_block ?_ | refine c_bnorm ?_ | refine c_bret ?_ | refine c_bexit rfl ?_ | refine c_bpass rfl ?_ | refine c_exit ?_ | refine c_cexit ?_ | refine c_lret ?_ | refine c_lexit ?_ | refine c_scope ?_ | refine c_label ?_ | refine c_snorm ?_ | refine c_sret ?_ | refine c_sexit ?_ | refine st_call rfl rfl rfl rfl rfl rfl rfl (call_v (vB true) rfl ⟨rfl, rfl⟩ rfl rfl rfl (cb_v rfl (fun _ => rfl) ?_)) | refine st_call rfl rfl rfl rfl rfl rfl rfl (call_v (vB b1) rfl ⟨p, rfl, by rw [hb1]⟩ rfl rfl rfl (cb_b rfl (fun h1 => ?_) (fun h1 => ?_))) | refine st_call rfl rfl rfl rfl rfl rfl rfl (call_v (vB true) rfl ⟨rows, rfl, by rw [hb2]⟩ rfl rfl rfl (cb_v rfl (fun _ => rfl) ?_)) | refine st_call rfl rfl rfl rfl rfl rfl rfl (call_v (vB b3) rfl ⟨p, rfl, by rw [hb3]⟩ rfl rfl rfl (cb_b rfl (fun h1 => ?_) (fun h1 => ?_))) | refine st_call rfl rfl rfl rfl rfl rfl rfl (call_v (fFlaw (a, x, y)) rfl ⟨p, rows, by omega, rfl, by rw [hC]⟩ rfl rfl rfl (cb_v rfl (fun _ => rfl) ?_)) | refine st_call rfl rfl rfl rfl rfl rfl rfl (call_s (fInts []) rfl ⟨[], g, 5, absurd hg hg, rfl, rfl⟩ rfl rfl rfl rfl (cb_v rfl (fun _ => rfl) ?_)) | fail)
    all_goals first
      | exact ⟨rfl, rfl, rfl, trivial⟩
      | (refine absurd ⟨by assumption, by assumption, ?_⟩ hg
         have ha : (a != 0) = false := by assumption
         clear hg hb1 hb2 hb3 hC
         simp only [decide_eq_true_eq, decide_eq_false_iff_not, bne_eq_false_iff_eq] at *
         omega)
  obtain ⟨rfl, rfl, rfl, hg0, hgn⟩ := hg
  obtain ⟨g, rfl⟩ := Int.eq_ofNat_of_zero_le hg0
  have hfit : fitP p = true := hb3
  have hgn : g < p.f0.length := by omega
  have hok := (PX.check_none hfit).1 (congrArg Prod.fst hC)
  have hcnt := PY.cnt_all (rows := rows) (g := g) rows.length fun j hj => ⟨by rw [(hok j hj).len]; exact hgn, PY.rng_cell (hok j hj) hgn⟩
  have s0 := PY.sum_long rows (g : Int) 0
  have s1 := PY.sum_long rows (g : Int) 1
  have s2 := PY.sum_long rows (g : Int) 2
  have p0 : ∀ y ∈ longB rows (g : Int) 0, 0 ≤ y := fun y hy => PY.long_pos hy
  have p1 : ∀ y ∈ longB rows (g : Int) 1, 0 ≤ y := fun y hy => PY.long_pos hy
  have p2 : ∀ y ∈ longB rows (g : Int) 2, 0 ≤ y := fun y hy => PY.long_pos hy
  have n0 := long_len rows (g : Int) 0
  have n1 := long_len rows (g : Int) 1
  have n2 := long_len rows (g : Int) 2
  have m1 : ∀ i, 0 < i → i + 1 < (longB rows (g : Int) 1).length → (longB rows (g : Int) 1).getD i 0 = p.f2 := fun i h0 h1 => (PY.ended_group hok hgn (PY.long_ended (mid (by omega)) h0 h1)).2 rfl
  have m2 : ∀ i, 0 < i → i + 1 < (longB rows (g : Int) 2).length → leastB p g ≤ (longB rows (g : Int) 2).getD i 0 := fun i h0 h1 => (PY.ended_group hok hgn (PY.long_ended (mid (by omega)) h0 h1)).1 rfl
  obtain ⟨l0, e0⟩ : ∃ l, longB rows (g : Int) 0 = l := ⟨_, rfl⟩
  obtain ⟨l1, e1⟩ : ∃ l, longB rows (g : Int) 1 = l := ⟨_, rfl⟩
  obtain ⟨l2, e2⟩ : ∃ l, longB rows (g : Int) 2 = l := ⟨_, rfl⟩
  rw [e0] at s0 p0 n0
  rw [e1] at s1 p1 n1 m1
  rw [e2] at s2 p2 n2 m2
  have hS : PY.sumI l0 + PY.sumI l1 + PY.sumI l2 = (rows.length : Int) := by omega
  have hS0 := PY.sumI_pos p0
  have hS1 := PY.sumI_pos p1
  have hS2 := PY.sumI_pos p2
  clear s0 s1 s2 hcnt
  have v0 : vB ((0 : Int) != 0) = vB false := rfl
  have v1 : vB (decide ((g : Int) < 0)) = vB false := by rw [decide_eq_false (by omega)]
  have v3 : vB (decide ((g : Int) ≥ (p.f0.length : Int))) = vB false := by rw [decide_eq_false (by omega)]
  repeat' (first | refine st_w 42 rfl rfl rfl rfl rfl (fun _ => rfl) v0 (fun _ => rfl) ?_ | refine st_w 46 rfl rfl rfl rfl rfl (fun _ => rfl) v1 (fun _ => rfl) ?_ | refine st_w 53 rfl rfl rfl rfl rfl (fun _ => rfl) v3 (fun _ => rfl) ?_ | refine st_v rfl rfl rfl rfl (fun _ => rfl) rfl (fun _ => rfl) ?_ | refine st_skip rfl rfl rfl ?_ | refine st_b rfl rfl rfl rfl (fun _ => rfl) rfl (fun h1 => ?_) (fun h1 => ?_) | refine st_n rfl rfl rfl rfl (fun _ => rfl) rfl (fun _ => rfl) ?_ | refine st_s rfl rfl rfl rfl (fun _ => rfl) rfl (fun _ => rfl) ?_ | refine c_seq ?_ | refine c_region ?_ | refine c_plain rfl ?_ | refine c_drawn rfl (by kernel_rfl) ?_ | refine st_nil ?_ | refine c_norm ?_ | refine c_cret ?_ | refine c_ret ?_ | refine c_true rfl ?_ | refine c_false rfl ?_ | refine c_skip ?_ | refine c_block ?_ | refine c_bnorm ?_ | refine c_bret ?_ | refine c_bexit rfl ?_ | refine c_bpass rfl ?_ | refine c_exit ?_ | refine c_cexit ?_ | refine c_lret ?_ | refine c_lexit ?_ | refine c_scope ?_ | refine c_label ?_ | refine c_snorm ?_ | refine c_sret ?_ | refine c_sexit ?_ | refine st_call rfl rfl rfl rfl rfl rfl rfl (call_v (vB true) rfl ⟨rfl, rfl⟩ rfl rfl rfl (cb_v rfl (fun _ => rfl) ?_)) | refine st_call rfl rfl rfl rfl rfl rfl rfl (call_v (vB true) rfl ⟨p, rfl, by rw [hb1]⟩ rfl rfl rfl (cb_v rfl (fun _ => rfl) ?_)) | refine st_call rfl rfl rfl rfl rfl rfl rfl (call_v (vB true) rfl ⟨rows, rfl, by rw [hb2]⟩ rfl rfl rfl (cb_v rfl (fun _ => rfl) ?_)) | refine st_call rfl rfl rfl rfl rfl rfl rfl (call_v (vB true) rfl ⟨p, rfl, by rw [hb3]⟩ rfl rfl rfl (cb_v rfl (fun _ => rfl) ?_)) | refine st_call rfl rfl rfl rfl rfl rfl rfl (call_v (fFlaw (0, x, y)) rfl ⟨p, rows, by omega, rfl, by rw [hC]⟩ rfl rfl rfl (cb_v rfl (fun _ => rfl) ?_)) | refine st_call rfl rfl rfl rfl rfl rfl rfl (call_s (fInts l0) rfl ⟨rows, (g : Int), 0, by omega, rfl, congrArg fInts e0.symm⟩ rfl rfl rfl rfl (cb_v rfl (fun _ => rfl) ?_)) | refine st_call rfl rfl rfl rfl rfl rfl rfl (call_s (fInts l1) rfl ⟨rows, (g : Int), 1, by omega, rfl, congrArg fInts e1.symm⟩ rfl rfl rfl rfl (cb_v rfl (fun _ => rfl) ?_)) | refine st_call rfl rfl rfl rfl rfl rfl rfl (call_s (fInts l2) rfl ⟨rows, (g : Int), 2, by omega, rfl, congrArg fInts e2.symm⟩ rfl rfl rfl rfl (cb_v rfl (fun _ => rfl) ?_)) | fail)
  refine c_loop (fun i : Nat => i ≤ l0.length) (fun i => [(14, fI (i : Int)), (13, fI (PY.sumI (l0.take i))), (10, fInts l0), (11, fInts l1), (12, fInts l2), (1, fRows rows), (2, fI (g : Int)), (3, pt 0)]) (fun _ => [(0, some (.var 25 (plCells p)))]) (fun i => l0.length - i) [0] 0 (Nat.zero_le _) rfl ⟨rfl, rfl, rfl, rfl, rfl, rfl, rfl, rfl, rfl, rfl, rfl, rfl, rfl, rfl, rfl, rfl, trivial⟩ ⟨⟨rfl, rfl, rfl⟩, trivial⟩ rfl (fun i hi => ?_)
  by_cases hil : i < l0.length
  case pos =>
    have hT := PY.sumI_take p0 i
    have hT' := PY.sumI_take p0 (i + 1)
    have hO := PY.sumI_one hil
    have wt : vB (decide ((i : Int) < (l0.length : Int))) = vB true := by rw [decide_eq_true (by omega)]
    have wS : vI .i64 (IntKind.i64.wrap (PY.sumI (l0.take i) + l0.getD i 0)) = fI (PY.sumI (l0.take (i + 1))) := vI_eq ((St.wr64 (by omega) (by omega)).trans (by omega))
    repeat' (first | refine st_w 68 rfl rfl rfl rfl rfl (fun _ => rfl) wt (fun _ => rfl) ?_ | refine st_w 76 rfl rfl rfl rfl rfl (fun _ => rfl) wS (fun _ => rfl) ?_ | refine st_v rfl rfl rfl rfl (fun _ => rfl) rfl (fun _ => rfl) ?_ | refine st_skip rfl rfl rfl ?_ | refine st_b rfl rfl rfl rfl (fun _ => rfl) rfl (fun h1 => ?_) (fun h1 => ?_) | refine st_n rfl rfl rfl rfl (fun _ => rfl) rfl (fun _ => rfl) ?_ | refine st_s rfl rfl rfl rfl (fun _ => rfl) rfl (fun _ => rfl) ?_ | refine c_seq ?_ | refine c_region ?_ | refine c_plain rfl ?_ | refine c_drawn rfl (by kernel_rfl) ?_ | refine st_nil ?_ | refine c_norm ?_ | refine c_cret ?_ | refine c_ret ?_ | refine c_true rfl ?_ | refine c_false rfl ?_ | refine c_skip ?_ | refine c_block ?_ | refine c_bnorm ?_ | refine c_bret ?_ | refine c_bexit rfl ?_ | refine c_bpass rfl ?_ | refine c_exit ?_ | refine c_cexit ?_ | refine c_lret ?_ | refine c_lexit ?_ | refine c_scope ?_ | refine c_label ?_ | refine c_snorm ?_ | refine c_sret ?_ | refine c_sexit ?_ | refine st_pv rfl rfl rfl rfl (fun _ => rfl) (show 0 ≤ (i : Int) ∧ (i : Int) < (l0.length : Int) by omega) rfl (fun _ => rfl) ?_ | fail)
    exact c_lnorm [0] (i + 1) hil (by show l0.length - (i + 1) < l0.length - i; omega) rfl ⟨tk_eq ((St.wr64 (by omega) (by omega)).trans (by omega : (i : Int) + 1 = ((i + 1 : Nat) : Int))), rfl, rfl, rfl, rfl, rfl, rfl, rfl, rfl, rfl, rfl, rfl, rfl, rfl, rfl, rfl, trivial⟩ ⟨⟨rfl, rfl, rfl⟩, trivial⟩ rfl
  obtain rfl : i = l0.length := by have hi : i ≤ l0.length := hi; omega
  have wt : vB (decide ((l0.length : Int) < (l0.length : Int))) = vB false := by rw [decide_eq_false (by omega)]
  have a0 : PY.sumI (l0.take l0.length) = PY.sumI l0 := by rw [List.take_length]
  clear hil hi
  repeat' (first | refine st_w 68 rfl rfl rfl rfl rfl (fun _ => rfl) wt (fun _ => rfl) ?_ | refine st_v rfl rfl rfl rfl (fun _ => rfl) rfl (fun _ => rfl) ?_ | refine st_skip rfl rfl rfl ?_ | refine st_b rfl rfl rfl rfl (fun _ => rfl) rfl (fun h1 => ?_) (fun h1 => ?_) | refine st_n rfl rfl rfl rfl (fun _ => rfl) rfl (fun _ => rfl) ?_ | refine st_s rfl rfl rfl rfl (fun _ => rfl) rfl (fun _ => rfl) ?_ | refine c_seq ?_ | refine c_region ?_ | refine c_plain rfl ?_ | refine c_drawn rfl (by kernel_rfl) ?_ | refine st_nil ?_ | refine c_norm ?_ | refine c_cret ?_ | refine c_ret ?_ | refine c_true rfl ?_ | refine c_false rfl ?_ | refine c_skip ?_ | refine c_block ?_ | refine c_bnorm ?_ | refine c_bret ?_ | refine c_bexit rfl ?_ | refine c_bpass rfl ?_ | refine c_exit ?_ | refine c_cexit ?_ | refine c_lret ?_ | refine c_lexit ?_ | refine c_scope ?_ | refine c_label ?_ | refine c_snorm ?_ | refine c_sret ?_ | refine c_sexit ?_ | fail)
  clear wt
  refine c_loop (fun i : Nat => i ≤ l1.length) (fun i => [(15, fI (i : Int)), (13, fI (PY.sumI l0 + PY.sumI (l1.take i))), (10, fInts l0), (11, fInts l1), (12, fInts l2), (1, fRows rows), (2, fI (g : Int)), (3, pt 0)]) (fun _ => [(0, some (.var 25 (plCells p)))]) (fun i => l1.length - i) [0] 0 (Nat.zero_le _) rfl ⟨rfl, rfl, fI_eq (by rw [a0]; simp [PY.sumI]), rfl, rfl, rfl, rfl, rfl, rfl, rfl, rfl, rfl, rfl, rfl, rfl, rfl, trivial⟩ ⟨⟨rfl, rfl, rfl⟩, trivial⟩ rfl (fun i hi => ?_)
  by_cases hil : i < l1.length
  case pos =>
    have hT := PY.sumI_take p1 i
    have hT' := PY.sumI_take p1 (i + 1)
    have hO := PY.sumI_one hil
    have wt : vB (decide ((i : Int) < (l1.length : Int))) = vB true := by rw [decide_eq_true (by omega)]
    have wS : vI .i64 (IntKind.i64.wrap (PY.sumI l0 + PY.sumI (l1.take i) + l1.getD i 0)) = fI (PY.sumI l0 + PY.sumI (l1.take (i + 1))) := vI_eq ((St.wr64 (by omega) (by omega)).trans (by omega))
    have wl : vI .i64 (IntKind.i64.wrap ((l1.length : Int) - 1)) = fI ((l1.length : Int) - 1) := vI_eq (St.wr64 (by omega) (by omega))
    by_cases h0 : 0 < i
    · have w0 : vB (decide ((i : Int) > 0)) = vB true := by rw [decide_eq_true (by omega)]
      by_cases h1 : i + 1 < l1.length
      · have w1 : vB (decide ((i : Int) < (l1.length : Int) - 1)) = vB true := by rw [decide_eq_true (by omega)]
        have hm := m1 i h0 h1
        have wb : vB (l1.getD i 0 != p.f2) = vB false := by rw [hm]; congr 1; exact bne_self_eq_false _
        repeat' (first | refine st_w 80 rfl rfl rfl rfl rfl (fun _ => rfl) wt (fun _ => rfl) ?_ | refine st_w 88 rfl rfl rfl rfl rfl (fun _ => rfl) wS (fun _ => rfl) ?_ | refine st_w 90 rfl rfl rfl rfl rfl (fun _ => rfl) w0 (fun _ => rfl) ?_ | refine st_w 95 rfl rfl rfl rfl rfl (fun _ => rfl) wl (fun _ => rfl) ?_ | refine st_w 96 rfl rfl rfl rfl rfl (fun _ => rfl) w1 (fun _ => rfl) ?_ | refine st_w 105 rfl rfl rfl rfl rfl (fun _ => rfl) wb (fun _ => rfl) ?_ | refine st_v rfl rfl rfl rfl (fun _ => rfl) rfl (fun _ => rfl) ?_ | refine st_skip rfl rfl rfl ?_ | refine st_b rfl rfl rfl rfl (fun _ => rfl) rfl (fun h1 => ?_) (fun h1 => ?_) | refine st_n rfl rfl rfl rfl (fun _ => rfl) rfl (fun _ => rfl) ?_ | refine st_s rfl rfl rfl rfl (fun _ => rfl) rfl (fun _ => rfl) ?_ | refine c_seq ?_ | refine c_region ?_ | refine c_plain rfl ?_ | refine c_drawn rfl (by kernel_rfl) ?_ | refine st_nil ?_ | refine c_norm ?_ | refine c_cret ?_ | refine c_ret ?_ | refine c_true rfl ?_ | refine c_false rfl ?_ | refine c_skip ?_ | refine c_block ?_ | refine c_bnorm ?_ | refine c_bret ?_ | refine c_bexit rfl ?_ | refine c_bpass rfl ?_ | refine c_exit ?_ | refine c_cexit ?_ | refine c_lret ?_ | refine c_lexit ?_ | refine c_scope ?_ | refine c_label ?_ | refine c_snorm ?_ | refine c_sret ?_ | refine c_sexit ?_ | refine st_pv rfl rfl rfl rfl (fun _ => rfl) (show 0 ≤ (i : Int) ∧ (i : Int) < (l1.length : Int) by omega) rfl (fun _ => rfl) ?_ | fail)
        exact c_lnorm [0] (i + 1) hil (by show l1.length - (i + 1) < l1.length - i; omega) rfl ⟨tk_eq ((St.wr64 (by omega) (by omega)).trans (by omega : (i : Int) + 1 = ((i + 1 : Nat) : Int))), rfl, rfl, rfl, rfl, rfl, rfl, rfl, rfl, rfl, rfl, rfl, rfl, rfl, rfl, rfl, trivial⟩ ⟨⟨rfl, rfl, rfl⟩, trivial⟩ rfl
      · have w1 : vB (decide ((i : Int) < (l1.length : Int) - 1)) = vB false := by rw [decide_eq_false (by omega)]
        repeat' (first | refine st_w 80 rfl rfl rfl rfl rfl (fun _ => rfl) wt (fun _ => rfl) ?_ | refine st_w 88 rfl rfl rfl rfl rfl (fun _ => rfl) wS (fun _ => rfl) ?_ | refine st_w 90 rfl rfl rfl rfl rfl (fun _ => rfl) w0 (fun _ => rfl) ?_ | refine st_w 95 rfl rfl rfl rfl rfl (fun _ => rfl) wl (fun _ => rfl) ?_ | refine st_w 96 rfl rfl rfl rfl rfl (fun _ => rfl) w1 (fun _ => rfl) ?_ | refine st_v rfl rfl rfl rfl (fun _ => rfl) rfl (fun _ => rfl) ?_ | refine st_skip rfl rfl rfl ?_ | refine st_b rfl rfl rfl rfl (fun _ => rfl) rfl (fun h1 => ?_) (fun h1 => ?_) | refine st_n rfl rfl rfl rfl (fun _ => rfl) rfl (fun _ => rfl) ?_ | refine st_s rfl rfl rfl rfl (fun _ => rfl) rfl (fun _ => rfl) ?_ | refine c_seq ?_ | refine c_region ?_ | refine c_plain rfl ?_ | refine c_drawn rfl (by kernel_rfl) ?_ | refine st_nil ?_ | refine c_norm ?_ | refine c_cret ?_ | refine c_ret ?_ | refine c_true rfl ?_ | refine c_false rfl ?_ | refine c_skip ?_ | refine c_block ?_ | refine c_bnorm ?_ | refine c_bret ?_ | refine c_bexit rfl ?_ | refine c_bpass rfl ?_ | refine c_exit ?_ | refine c_cexit ?_ | refine c_lret ?_ | refine c_lexit ?_ | refine c_scope ?_ | refine c_label ?_ | refine c_snorm ?_ | refine c_sret ?_ | refine c_sexit ?_ | refine st_pv rfl rfl rfl rfl (fun _ => rfl) (show 0 ≤ (i : Int) ∧ (i : Int) < (l1.length : Int) by omega) rfl (fun _ => rfl) ?_ | fail)
        exact c_lnorm [0] (i + 1) hil (by show l1.length - (i + 1) < l1.length - i; omega) rfl ⟨tk_eq ((St.wr64 (by omega) (by omega)).trans (by omega : (i : Int) + 1 = ((i + 1 : Nat) : Int))), rfl, rfl, rfl, rfl, rfl, rfl, rfl, rfl, rfl, rfl, rfl, rfl, rfl, rfl, rfl, trivial⟩ ⟨⟨rfl, rfl, rfl⟩, trivial⟩ rfl
    · have w0 : vB (decide ((i : Int) > 0)) = vB false := by rw [decide_eq_false (by omega)]
      repeat' (first | refine st_w 80 rfl rfl rfl rfl rfl (fun _ => rfl) wt (fun _ => rfl) ?_ | refine st_w 88 rfl rfl rfl rfl rfl (fun _ => rfl) wS (fun _ => rfl) ?_ | refine st_w 90 rfl rfl rfl rfl rfl (fun _ => rfl) w0 (fun _ => rfl) ?_ | refine st_v rfl rfl rfl rfl (fun _ => rfl) rfl (fun _ => rfl) ?_ | refine st_skip rfl rfl rfl ?_ | refine st_b rfl rfl rfl rfl (fun _ => rfl) rfl (fun h1 => ?_) (fun h1 => ?_) | refine st_n rfl rfl rfl rfl (fun _ => rfl) rfl (fun _ => rfl) ?_ | refine st_s rfl rfl rfl rfl (fun _ => rfl) rfl (fun _ => rfl) ?_ | refine c_seq ?_ | refine c_region ?_ | refine c_plain rfl ?_ | refine c_drawn rfl (by kernel_rfl) ?_ | refine st_nil ?_ | refine c_norm ?_ | refine c_cret ?_ | refine c_ret ?_ | refine c_true rfl ?_ | refine c_false rfl ?_ | refine c_skip ?_ | refine c_block ?_ | refine c_bnorm ?_ | refine c_bret ?_ | refine c_bexit rfl ?_ | refine c_bpass rfl ?_ | refine c_exit ?_ | refine c_cexit ?_ | refine c_lret ?_ | refine c_lexit ?_ | refine c_scope ?_ | refine c_label ?_ | refine c_snorm ?_ | refine c_sret ?_ | refine c_sexit ?_ | refine st_pv rfl rfl rfl rfl (fun _ => rfl) (show 0 ≤ (i : Int) ∧ (i : Int) < (l1.length : Int) by omega) rfl (fun _ => rfl) ?_ | fail)
      exact c_lnorm [0] (i + 1) hil (by show l1.length - (i + 1) < l1.length - i; omega) rfl ⟨tk_eq ((St.wr64 (by omega) (by omega)).trans (by omega : (i : Int) + 1 = ((i + 1 : Nat) : Int))), rfl, rfl, rfl, rfl, rfl, rfl, rfl, rfl, rfl, rfl, rfl, rfl, rfl, rfl, rfl, trivial⟩ ⟨⟨rfl, rfl, rfl⟩, trivial⟩ rfl
  obtain rfl : i = l1.length := by have hi : i ≤ l1.length := hi; omega
  have wt : vB (decide ((l1.length : Int) < (l1.length : Int))) = vB false := by rw [decide_eq_false (by omega)]
  have a1 : PY.sumI l0 + PY.sumI (l1.take l1.length) = PY.sumI l0 + PY.sumI l1 := by rw [List.take_length]
  clear hil hi
  repeat' (first | refine st_w 80 rfl rfl rfl rfl rfl (fun _ => rfl) wt (fun _ => rfl) ?_ | refine st_v rfl rfl rfl rfl (fun _ => rfl) rfl (fun _ => rfl) ?_ | refine st_skip rfl rfl rfl ?_ | refine st_b rfl rfl rfl rfl (fun _ => rfl) rfl (fun h1 => ?_) (fun h1 => ?_) | refine st_n rfl rfl rfl rfl (fun _ => rfl) rfl (fun _ => rfl) ?_ | refine st_s rfl rfl rfl rfl (fun _ => rfl) rfl (fun _ => rfl) ?_ | refine c_seq ?_ | refine c_region ?_ | refine c_plain rfl ?_ | refine c_drawn rfl (by kernel_rfl) ?_ | refine st_nil ?_ | refine c_norm ?_ | refine c_cret ?_ | refine c_ret ?_ | refine c_true rfl ?_ | refine c_false rfl ?_ | refine c_skip ?_ | refine c_block ?_ | refine c_bnorm ?_ | refine c_bret ?_ | refine c_bexit rfl ?_ | refine c_bpass rfl ?_ | refine c_exit ?_ | refine c_cexit ?_ | refine c_lret ?_ | refine c_lexit ?_ | refine c_scope ?_ | refine c_label ?_ | refine c_snorm ?_ | refine c_sret ?_ | refine c_sexit ?_ | fail)
  clear wt
  refine c_loop (fun i : Nat => i ≤ l2.length) (fun i => [(16, fI (i : Int)), (13, fI (PY.sumI l0 + PY.sumI l1 + PY.sumI (l2.take i))), (10, fInts l0), (11, fInts l1), (12, fInts l2), (1, fRows rows), (2, fI (g : Int)), (3, pt 0)]) (fun _ => [(0, some (.var 25 (plCells p)))]) (fun i => l2.length - i) [0] 0 (Nat.zero_le _) rfl ⟨rfl, rfl, fI_eq (by rw [a1]; simp [PY.sumI]), rfl, rfl, rfl, rfl, rfl, rfl, rfl, rfl, rfl, rfl, rfl, rfl, rfl, trivial⟩ ⟨⟨rfl, rfl, rfl⟩, trivial⟩ rfl (fun i hi => ?_)
  by_cases hil : i < l2.length
  case pos =>
    have hT := PY.sumI_take p2 i
    have hT' := PY.sumI_take p2 (i + 1)
    have hO := PY.sumI_one hil
    have wt : vB (decide ((i : Int) < (l2.length : Int))) = vB true := by rw [decide_eq_true (by omega)]
    have wS : vI .i64 (IntKind.i64.wrap (PY.sumI l0 + PY.sumI l1 + PY.sumI (l2.take i) + l2.getD i 0)) = fI (PY.sumI l0 + PY.sumI l1 + PY.sumI (l2.take (i + 1))) := vI_eq ((St.wr64 (by omega) (by omega)).trans (by omega))
    have wl : vI .i64 (IntKind.i64.wrap ((l2.length : Int) - 1)) = fI ((l2.length : Int) - 1) := vI_eq (St.wr64 (by omega) (by omega))
    by_cases h0 : 0 < i
    · have w0 : vB (decide ((i : Int) > 0)) = vB true := by rw [decide_eq_true (by omega)]
      by_cases h1 : i + 1 < l2.length
      · have w1 : vB (decide ((i : Int) < (l2.length : Int) - 1)) = vB true := by rw [decide_eq_true (by omega)]
        have hm := m2 i h0 h1
        have wb : vB (decide (l2.getD i 0 < leastB p g)) = vB false := by rw [decide_eq_false (by omega)]
        repeat' (first | refine st_w 110 rfl rfl rfl rfl rfl (fun _ => rfl) wt (fun _ => rfl) ?_ | refine st_w 118 rfl rfl rfl rfl rfl (fun _ => rfl) wS (fun _ => rfl) ?_ | refine st_w 120 rfl rfl rfl rfl rfl (fun _ => rfl) w0 (fun _ => rfl) ?_ | refine st_w 125 rfl rfl rfl rfl rfl (fun _ => rfl) wl (fun _ => rfl) ?_ | refine st_w 126 rfl rfl rfl rfl rfl (fun _ => rfl) w1 (fun _ => rfl) ?_ | refine st_w 136 rfl rfl rfl rfl rfl (fun _ => rfl) wb (fun _ => rfl) ?_ | refine st_v rfl rfl rfl rfl (fun _ => rfl) rfl (fun _ => rfl) ?_ | refine st_skip rfl rfl rfl ?_ | refine st_b rfl rfl rfl rfl (fun _ => rfl) rfl (fun h1 => ?_) (fun h1 => ?_) | refine st_n rfl rfl rfl rfl (fun _ => rfl) rfl (fun _ => rfl) ?_ | refine st_s rfl rfl rfl rfl (fun _ => rfl) rfl (fun _ => rfl) ?_ | refine c_seq ?_ | refine c_region ?_ | refine c_plain rfl ?_ | refine c_drawn rfl (by kernel_rfl) ?_ | refine st_nil ?_ | refine c_norm ?_ | refine c_cret ?_ | refine c_ret ?_ | refine c_true rfl ?_ | refine c_false rfl ?_ | refine c_skip ?_ | refine c_block ?_ | refine c_bnorm ?_ | refine c_bret ?_ | refine c_bexit rfl ?_ | refine c_bpass rfl ?_ | refine c_exit ?_ | refine c_cexit ?_ | refine c_lret ?_ | refine c_lexit ?_ | refine c_scope ?_ | refine c_label ?_ | refine c_snorm ?_ | refine c_sret ?_ | refine c_sexit ?_ | refine st_pv rfl rfl rfl rfl (fun _ => rfl) (show 0 ≤ (i : Int) ∧ (i : Int) < (l2.length : Int) by omega) rfl (fun _ => rfl) ?_ | refine st_call rfl rfl rfl rfl rfl rfl rfl (call_v (fI (leastB p g)) rfl ⟨p, g, hfit, hgn, rfl, rfl⟩ rfl rfl rfl (cb_v rfl (fun _ => rfl) ?_)) | fail)
        exact c_lnorm [0] (i + 1) hil (by show l2.length - (i + 1) < l2.length - i; omega) rfl ⟨tk_eq ((St.wr64 (by omega) (by omega)).trans (by omega : (i : Int) + 1 = ((i + 1 : Nat) : Int))), rfl, rfl, rfl, rfl, rfl, rfl, rfl, rfl, rfl, rfl, rfl, rfl, rfl, rfl, rfl, trivial⟩ ⟨⟨rfl, rfl, rfl⟩, trivial⟩ rfl
      · have w1 : vB (decide ((i : Int) < (l2.length : Int) - 1)) = vB false := by rw [decide_eq_false (by omega)]
        repeat' (first | refine st_w 110 rfl rfl rfl rfl rfl (fun _ => rfl) wt (fun _ => rfl) ?_ | refine st_w 118 rfl rfl rfl rfl rfl (fun _ => rfl) wS (fun _ => rfl) ?_ | refine st_w 120 rfl rfl rfl rfl rfl (fun _ => rfl) w0 (fun _ => rfl) ?_ | refine st_w 125 rfl rfl rfl rfl rfl (fun _ => rfl) wl (fun _ => rfl) ?_ | refine st_w 126 rfl rfl rfl rfl rfl (fun _ => rfl) w1 (fun _ => rfl) ?_ | refine st_v rfl rfl rfl rfl (fun _ => rfl) rfl (fun _ => rfl) ?_ | refine st_skip rfl rfl rfl ?_ | refine st_b rfl rfl rfl rfl (fun _ => rfl) rfl (fun h1 => ?_) (fun h1 => ?_) | refine st_n rfl rfl rfl rfl (fun _ => rfl) rfl (fun _ => rfl) ?_ | refine st_s rfl rfl rfl rfl (fun _ => rfl) rfl (fun _ => rfl) ?_ | refine c_seq ?_ | refine c_region ?_ | refine c_plain rfl ?_ | refine c_drawn rfl (by kernel_rfl) ?_ | refine st_nil ?_ | refine c_norm ?_ | refine c_cret ?_ | refine c_ret ?_ | refine c_true rfl ?_ | refine c_false rfl ?_ | refine c_skip ?_ | refine c_block ?_ | refine c_bnorm ?_ | refine c_bret ?_ | refine c_bexit rfl ?_ | refine c_bpass rfl ?_ | refine c_exit ?_ | refine c_cexit ?_ | refine c_lret ?_ | refine c_lexit ?_ | refine c_scope ?_ | refine c_label ?_ | refine c_snorm ?_ | refine c_sret ?_ | refine c_sexit ?_ | refine st_pv rfl rfl rfl rfl (fun _ => rfl) (show 0 ≤ (i : Int) ∧ (i : Int) < (l2.length : Int) by omega) rfl (fun _ => rfl) ?_ | fail)
        exact c_lnorm [0] (i + 1) hil (by show l2.length - (i + 1) < l2.length - i; omega) rfl ⟨tk_eq ((St.wr64 (by omega) (by omega)).trans (by omega : (i : Int) + 1 = ((i + 1 : Nat) : Int))), rfl, rfl, rfl, rfl, rfl, rfl, rfl, rfl, rfl, rfl, rfl, rfl, rfl, rfl, rfl, trivial⟩ ⟨⟨rfl, rfl, rfl⟩, trivial⟩ rfl
    · have w0 : vB (decide ((i : Int) > 0)) = vB false := by rw [decide_eq_false (by omega)]
      repeat' (first | refine st_w 110 rfl rfl rfl rfl rfl (fun _ => rfl) wt (fun _ => rfl) ?_ | refine st_w 118 rfl rfl rfl rfl rfl (fun _ => rfl) wS (fun _ => rfl) ?_ | refine st_w 120 rfl rfl rfl rfl rfl (fun _ => rfl) w0 (fun _ => rfl) ?_ | refine st_v rfl rfl rfl rfl (fun _ => rfl) rfl (fun _ => rfl) ?_ | refine st_skip rfl rfl rfl ?_ | refine st_b rfl rfl rfl rfl (fun _ => rfl) rfl (fun h1 => ?_) (fun h1 => ?_) | refine st_n rfl rfl rfl rfl (fun _ => rfl) rfl (fun _ => rfl) ?_ | refine st_s rfl rfl rfl rfl (fun _ => rfl) rfl (fun _ => rfl) ?_ | refine c_seq ?_ | refine c_region ?_ | refine c_plain rfl ?_ | refine c_drawn rfl (by kernel_rfl) ?_ | refine st_nil ?_ | refine c_norm ?_ | refine c_cret ?_ | refine c_ret ?_ | refine c_true rfl ?_ | refine c_false rfl ?_ | refine c_skip ?_ | refine c_block ?_ | refine c_bnorm ?_ | refine c_bret ?_ | refine c_bexit rfl ?_ | refine c_bpass rfl ?_ | refine c_exit ?_ | refine c_cexit ?_ | refine c_lret ?_ | refine c_lexit ?_ | refine c_scope ?_ | refine c_label ?_ | refine c_snorm ?_ | refine c_sret ?_ | refine c_sexit ?_ | refine st_pv rfl rfl rfl rfl (fun _ => rfl) (show 0 ≤ (i : Int) ∧ (i : Int) < (l2.length : Int) by omega) rfl (fun _ => rfl) ?_ | fail)
      exact c_lnorm [0] (i + 1) hil (by show l2.length - (i + 1) < l2.length - i; omega) rfl ⟨tk_eq ((St.wr64 (by omega) (by omega)).trans (by omega : (i : Int) + 1 = ((i + 1 : Nat) : Int))), rfl, rfl, rfl, rfl, rfl, rfl, rfl, rfl, rfl, rfl, rfl, rfl, rfl, rfl, rfl, trivial⟩ ⟨⟨rfl, rfl, rfl⟩, trivial⟩ rfl
  obtain rfl : i = l2.length := by have hi : i ≤ l2.length := hi; omega
  have wt : vB (decide ((l2.length : Int) < (l2.length : Int))) = vB false := by rw [decide_eq_false (by omega)]
  have v9 : vB (PY.sumI l0 + PY.sumI l1 + PY.sumI (l2.take l2.length) == (rows.length : Int)) = vB true := by rw [List.take_length, hS]; congr 1; exact beq_self_eq_true _
  repeat' (first | refine st_w 110 rfl rfl rfl rfl rfl (fun _ => rfl) wt (fun _ => rfl) ?_ | refine st_w 141 rfl rfl rfl rfl rfl (fun _ => rfl) v9 (fun _ => rfl) ?_ | refine st_v rfl rfl rfl rfl (fun _ => rfl) rfl (fun _ => rfl) ?_ | refine st_skip rfl rfl rfl ?_ | refine st_b rfl rfl rfl rfl (fun _ => rfl) rfl (fun h1 => ?_) (fun h1 => ?_) | refine st_n rfl rfl rfl rfl (fun _ => rfl) rfl (fun _ => rfl) ?_ | refine st_s rfl rfl rfl rfl (fun _ => rfl) rfl (fun _ => rfl) ?_ | refine c_seq ?_ | refine c_region ?_ | refine c_plain rfl ?_ | refine c_drawn rfl (by kernel_rfl) ?_ | refine st_nil ?_ | refine c_norm ?_ | refine c_cret ?_ | refine c_ret ?_ | refine c_true rfl ?_ | refine c_false rfl ?_ | refine c_skip ?_ | refine c_block ?_ | refine c_bnorm ?_ | refine c_bret ?_ | refine c_bexit rfl ?_ | refine c_bpass rfl ?_ | refine c_exit ?_ | refine c_cexit ?_ | refine c_lret ?_ | refine c_lexit ?_ | refine c_scope ?_ | refine c_label ?_ | refine c_snorm ?_ | refine c_sret ?_ | refine c_sexit ?_ | fail)
  exact ⟨rfl, rfl, rfl, trivial⟩
end TrTraceGreen
theorem TraceGreen_calls (A0_0 : Option Addr) (c0_0 : Nat) (l0_0 : List Int) (A0_1 : Option Addr) (c0_1 : Nat) (l0_1 : List S87) (a0_2 a0_3 a0_4 : Int) (A1 : Option Addr) (c1 : Nat) (l1 : List (List Int)) (a2 : Int) (w : World) (hr0_0 : Kd.C (Kd.int .i64) w A0_0 l0_0.length l0_0) (hc0_0 : l0_0.length ≤ c0_0) (hr0_1 : Kd.C k87 w A0_1 l0_1.length l0_1) (hc0_1 : l0_1.length ≤ c0_1) (hr1 : Kd.C (Kd.slice 3 (Kd.int .i64)) w A1 l1.length l1) (hc1 : l1.length ≤ c1) (hG : GlobOk w) :
    Calls Tryd.prog 6 #[.agg #[.slice A0_0 l0_0.length c0_0, .slice A0_1 l0_1.length c0_1, .int .i64 a0_2, .int .i64 a0_3, .int .i64 a0_4], .slice A1 l1.length c1, .int .i64 a2] w fun e w' => e = .returned (.bool true) ∧ Below w.heap.size w w' :=
  law_of TrTraceGreen.ok ⟨⟨l0_0, l0_1, a0_2, a0_3, a0_4⟩, l1, a2, rfl, rfl⟩ hG ⟨⟨[_, _, _, _, _], rfl, ⟨C_int old_I hc0_0 hr0_0, rfl⟩, ⟨C_stg old_I hc0_1 hr0_1, rfl⟩, ⟨rfl, rfl⟩, ⟨rfl, rfl⟩, ⟨rfl, rfl⟩, trivial⟩, ⟨Tr.C_rows hc1 hr1, rfl⟩, ⟨rfl, rfl⟩, trivial⟩
end Go.Proofs.YtpciieagafddcaaDoor.E
