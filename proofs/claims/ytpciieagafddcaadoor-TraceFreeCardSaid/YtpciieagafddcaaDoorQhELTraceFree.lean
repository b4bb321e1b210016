/- TraceFree walked by the engine (own text). -/
import Derived.Test.YtpciieagafddcaaDoorQhET10
namespace Go.Proofs.YtpciieagafddcaaDoor.E
open Go Go.RowKit Go.Proofs Go.Proofs.YtpciieagafddcaaDoorW.PrintWords Go.Proofs.YtpciieagafddcaaDoorW.PrintLast Go.Proofs.YtpciieagafddcaaDoorW.PrintMore Go.Proofs.YtpciieagafddcaaDoor.F
set_option linter.unusedVariables false
set_option linter.unusedSimpArgs false
set_option maxRecDepth 100000
set_option maxHeartbeats 8000000
attribute [local irreducible] acode callR
namespace TrTraceFree
open Tr
open St Rw
open PY (longB)
open PX (fitP clashP cell beg leastF leastB nextB soonB groupB groupsB rowB fromB checkB RowOk onB Betw LeastI ClearIs)
theorem Γf : ΓOk Tryd.prog (look [(15, SpAwake23), (16, SpFew14), (17, SpFew23), (25, SpFit), (21, SpCheck), (26, SpClash), (23, SpClear)]) := (((((((ΓOk.nil.cons clear_ok Tryd.func23 (by kernel_rfl)).cons clash_ok Tryd.func26 (by kernel_rfl)).cons check_ok Tryd.func21 (by kernel_rfl)).cons fit_ok Tryd.func25 (by kernel_rfl)).cons few23_ok Tryd.func17 (by kernel_rfl)).cons few14_ok Tryd.func16 (by kernel_rfl)).cons awake23_ok Tryd.func15 (by kernel_rfl))
theorem row_bit0 : ∀ x : Nat, x < 256 → ∀ i : Nat, i < 8 → ((IntKind.i64.wrap ((BitVec.ofInt 64 ((x : Int).fdiv (2 ^ (min i 64))) &&& BitVec.ofInt 64 1).toNat : Int)) == 0) = !x.testBit i := by decide +kernel
theorem pl_bit0 {x : Int} {i : Nat} (h0 : 0 ≤ x) (h1 : x < 256) (hi : i < 8) : ((IntKind.i64.wrap ((BitVec.ofInt 64 (x.fdiv (2 ^ (min i 64))) &&& BitVec.ofInt 64 1).toNat : Int)) == 0) = !x.toNat.testBit i := by
  obtain ⟨n, rfl⟩ := Int.eq_ofNat_of_zero_le h0
  exact row_bit0 n (by omega) i hi
theorem ok : SpecOk Tryd.prog 5 (.pure fun a r => ∃ p rows g h, a = [fPl p, fRows rows, fI g, fI h] ∧ r = vB true) := by
  refine spec_of_code TZok Γf mixed Tryd.func5 rfl ?_
  rintro args pre r post ⟨⟨p, rows, g, h, rfl, rfl⟩, rfl, rfl⟩
  refine ⟨rfl, ?_⟩
  obtain ⟨b1, hb1⟩ : ∃ b, few14 p = b := ⟨_, rfl⟩
  obtain ⟨b2, hb2⟩ : ∃ b, few23 rows = b := ⟨_, rfl⟩
  obtain ⟨b3, hb3⟩ : ∃ b, St.fitB p = b := ⟨_, rfl⟩
  obtain ⟨⟨a, x, y⟩, hC⟩ : ∃ x, checkB p rows = x := ⟨_, rfl⟩
  cases b2 with
  | false =>
    repeat' (first | refine st_v rfl rfl rfl rfl (fun _ => rfl) rfl (fun _ => rfl) ?_ | refine st_skip rfl rfl rfl ?_ | refine st_b rfl rfl rfl rfl (fun _ => rfl) rfl (fun h1 => ?_) (fun h1 => ?_) | refine st_n rfl rfl rfl rfl (fun _ => rfl) rfl (fun _ => rfl) ?_ | refine st_s rfl rfl rfl rfl (fun _ => rfl) rfl (fun _ => rfl) ?_ | refine c_seq ?_ | refine c_region ?_ | refine c_plain rfl ?_ | refine c_drawn rfl (by kernel_rfl) ?_ | refine st_nil ?_ | refine c_norm ?_ | refine c_cret ?_ | refine c_ret ?_ | refine c_true rfl ?_ | refine c_false rfl ?_ | refine c_skip ?_ | refine c_block ?_ | refine c_bnorm ?_ | refine c_bret ?_ | refine c_bexit rfl ?_ | refine c_bpass rfl ?_ | refine c_exit ?_ | refine c_cexit ?_ | refine c_lret ?_ | refine c_lexit ?_ | refine c_scope ?_ | refine c_label ?_ | refine c_snorm ?_ | refine c_sret ?_ | refine c_sexit ?_ | refine st_call rfl rfl rfl rfl rfl rfl rfl (call_v (vB true) rfl ⟨rfl, rfl⟩ rfl rfl rfl (cb_v rfl (fun _ => rfl) ?_)) | refine st_call rfl rfl rfl rfl rfl rfl rfl (call_v (vB b1) rfl ⟨p, rfl, by rw [hb1]⟩ rfl rfl rfl (cb_b rfl (fun h1 => ?_) (fun h1 => ?_))) | refine st_call rfl rfl rfl rfl rfl rfl rfl (call_v (vB false) rfl ⟨rows, rfl, by rw [hb2]⟩ rfl rfl rfl (cb_v rfl (fun _ => rfl) ?_)) | fail)
    all_goals exact ⟨rfl, rfl, rfl, trivial⟩
  | true =>
  have hrl := (few23_of hb2).1
  by_cases hg : b1 = true ∧ b3 = true ∧ a = 0 ∧ 0 ≤ g ∧ 0 ≤ h ∧ g < (p.f0.length : Int) ∧ h < (p.f0.length : Int)
  case neg =>
    repeat' (first | refine st_v rfl rfl rfl rfl (fun _ => rfl) rfl (fun _ => rfl) ?_ | refine st_skip rfl rfl rfl ?_ | refine st_b rfl rfl rfl rfl (fun _ => rfl) rfl (fun h1 => ?_) (fun h1 => ?_) | refine st_n rfl rfl rfl rfl (fun _ => rfl) rfl (fun _ => rfl) ?_ | refine st_s rfl rfl rfl rfl (fun _ => rfl) rfl (fun _ => rfl) ?_ | refine c_seq ?_ | refine c_region ?_ | refine c_plain rfl ?_ | refine c_drawn rfl (by kernel_rfl) ?_ | refine st_nil ?_ | refine c_norm ?_ | refine c_cret ?_ | refine c_ret ?_ | refine c_true rfl ?_ | refine c_false rfl ?_ | refine c_skip ?_ | refine c_block ?_ | refine c_bnorm ?_ | refine c_bret ?_ | refine c_bexit rfl ?_ | refine c_bpass rfl ?_ | refine c_exit ?_ | refine c_cexit ?_ | refine c_lret ?_ | refine c_lexit ?_ | refine c_scope ?_ | refine c_label ?_ | refine c_snorm ?_ | refine c_sret ?_ | refine c_sexit ?_ | refine st_call rfl rfl rfl rfl rfl rfl rfl (call_v (vB true) rfl ⟨rfl, rfl⟩ rfl rfl rfl (cb_v rfl (fun _ => rfl) ?_)) | refine st_call rfl rfl rfl rfl rfl rfl rfl (call_v (vB b1) rfl ⟨p, rfl, by rw [hb1]⟩ rfl rfl rfl (cb_b rfl (fun h1 => ?_) (fun h1 => ?_))) | refine st_call rfl rfl rfl rfl rfl rfl rfl (call_v (vB true) rfl ⟨rows, rfl, by rw [hb2]⟩ rfl rfl rfl (cb_v rfl (fun _ => rfl) ?_)) | refine st_call rfl rfl rfl rfl rfl rfl rfl (call_v (vB b3) rfl ⟨p, rfl, by rw [hb3]⟩ rfl rfl rfl (cb_b rfl (fun h1 => ?_) (fun h1 => ?_))) | refine st_call rfl rfl rfl rfl rfl rfl rfl (call_v (fFlaw (a, x, y)) rfl ⟨p, rows, by omega, rfl, by rw [hC]⟩ rfl rfl rfl (cb_v rfl (fun _ => rfl) ?_)) | fail)
    all_goals first
      | exact ⟨rfl, rfl, rfl, trivial⟩
      | (refine absurd ⟨by assumption, by assumption, ?_⟩ hg
         have ha : (a != 0) = false := by assumption
         clear hg hb1 hb2 hb3 hC
         simp only [decide_eq_true_eq, decide_eq_false_iff_not, bne_eq_false_iff_eq] at *
         omega)
  obtain ⟨rfl, rfl, rfl, hg0, hh0, hgn, hhn⟩ := hg
  obtain ⟨g, rfl⟩ := Int.eq_ofNat_of_zero_le hg0
  obtain ⟨h, rfl⟩ := Int.eq_ofNat_of_zero_le hh0
  have hfit : fitP p = true := hb3
  have hFit := PX.fits_of hfit
  have h8 := hFit.may.len8
  have hp8 := hFit.may.p8
  have hrg := hFit.may.rng g (by omega)
  have hok := (PX.check_none hfit).1 (congrArg Prod.fst hC)
  have v0 : vB ((0 : Int) != 0) = vB false := rfl
  have v1 : vB (decide ((g : Int) < 0)) = vB false := by rw [decide_eq_false (by omega)]
  have v2 : vB (decide ((h : Int) < 0)) = vB false := by rw [decide_eq_false (by omega)]
  have v3 : vB (decide ((g : Int) ≥ (p.f0.length : Int))) = vB false := by rw [decide_eq_false (by omega)]
  have v4 : vB (decide ((h : Int) ≥ (p.f0.length : Int))) = vB false := by rw [decide_eq_false (by omega)]
  have wbit : (IntKind.i64.wrap ((BitVec.ofInt 64 ((p.f0.getD g 0).fdiv (2 ^ (min h 64))) &&& BitVec.ofInt 64 1).toNat : Int) == 0) = !(PM.row p.f0 g).testBit h := pl_bit0 hrg.1 (by omega) (by omega)
  cases hbit : (PM.row p.f0 g).testBit h with
  | false =>
    have v5 : vB (IntKind.i64.wrap ((BitVec.ofInt 64 ((p.f0.getD g 0).fdiv (2 ^ (min h 64))) &&& BitVec.ofInt 64 1).toNat : Int) == 0) = vB true := by rw [wbit, hbit]; rfl
    repeat' (first | refine st_w 39 rfl rfl rfl rfl rfl (fun _ => rfl) v0 (fun _ => rfl) ?_ | refine st_w 43 rfl rfl rfl rfl rfl (fun _ => rfl) v1 (fun _ => rfl) ?_ | refine st_w 47 rfl rfl rfl rfl rfl (fun _ => rfl) v2 (fun _ => rfl) ?_ | refine st_w 54 rfl rfl rfl rfl rfl (fun _ => rfl) v3 (fun _ => rfl) ?_ | refine st_w 61 rfl rfl rfl rfl rfl (fun _ => rfl) v4 (fun _ => rfl) ?_ | refine st_w 72 rfl rfl rfl rfl rfl (fun _ => rfl) v5 (fun _ => rfl) ?_ | refine st_v rfl rfl rfl rfl (fun _ => rfl) rfl (fun _ => rfl) ?_ | refine st_skip rfl rfl rfl ?_ | refine st_b rfl rfl rfl rfl (fun _ => rfl) rfl (fun h1 => ?_) (fun h1 => ?_) | refine st_n rfl rfl rfl rfl (fun _ => rfl) rfl (fun _ => rfl) ?_ | refine st_s rfl rfl rfl rfl (fun _ => rfl) rfl (fun _ => rfl) ?_ | refine c_seq ?_ | refine c_region ?_ | refine c_plain rfl ?_ | refine c_drawn rfl (by kernel_rfl) ?_ | refine st_nil ?_ | refine c_norm ?_ | refine c_cret ?_ | refine c_ret ?_ | refine c_true rfl ?_ | refine c_false rfl ?_ | refine c_skip ?_ | refine c_block ?_ | refine c_bnorm ?_ | refine c_bret ?_ | refine c_bexit rfl ?_ | refine c_bpass rfl ?_ | refine c_exit ?_ | refine c_cexit ?_ | refine c_lret ?_ | refine c_lexit ?_ | refine c_scope ?_ | refine c_label ?_ | refine c_snorm ?_ | refine c_sret ?_ | refine c_sexit ?_ | refine st_call rfl rfl rfl rfl rfl rfl rfl (call_v (vB true) rfl ⟨rfl, rfl⟩ rfl rfl rfl (cb_v rfl (fun _ => rfl) ?_)) | refine st_call rfl rfl rfl rfl rfl rfl rfl (call_v (vB true) rfl ⟨p, rfl, by rw [hb1]⟩ rfl rfl rfl (cb_v rfl (fun _ => rfl) ?_)) | refine st_call rfl rfl rfl rfl rfl rfl rfl (call_v (vB true) rfl ⟨rows, rfl, by rw [hb2]⟩ rfl rfl rfl (cb_v rfl (fun _ => rfl) ?_)) | refine st_call rfl rfl rfl rfl rfl rfl rfl (call_v (vB true) rfl ⟨p, rfl, by rw [hb3]⟩ rfl rfl rfl (cb_v rfl (fun _ => rfl) ?_)) | refine st_call rfl rfl rfl rfl rfl rfl rfl (call_v (fFlaw (0, x, y)) rfl ⟨p, rows, by omega, rfl, by rw [hC]⟩ rfl rfl rfl (cb_v rfl (fun _ => rfl) ?_)) | refine st_pv rfl rfl rfl rfl (fun _ => rfl) (show 0 ≤ (g : Int) ∧ (g : Int) < (p.f0.length : Int) by omega) rfl (fun _ => rfl) ?_ | refine st_pv rfl rfl rfl rfl (fun _ => rfl) (show 0 ≤ (h : Int) by omega) rfl (fun _ => rfl) ?_ | fail)
    exact ⟨rfl, rfl, rfl, trivial⟩
  | true =>
    have v5 : vB (IntKind.i64.wrap ((BitVec.ofInt 64 ((p.f0.getD g 0).fdiv (2 ^ (min h 64))) &&& BitVec.ofInt 64 1).toNat : Int) == 0) = vB false := by rw [wbit, hbit]; rfl
    repeat' (first | refine st_w 39 rfl rfl rfl rfl rfl (fun _ => rfl) v0 (fun _ => rfl) ?_ | refine st_w 43 rfl rfl rfl rfl rfl (fun _ => rfl) v1 (fun _ => rfl) ?_ | refine st_w 47 rfl rfl rfl rfl rfl (fun _ => rfl) v2 (fun _ => rfl) ?_ | refine st_w 54 rfl rfl rfl rfl rfl (fun _ => rfl) v3 (fun _ => rfl) ?_ | refine st_w 61 rfl rfl rfl rfl rfl (fun _ => rfl) v4 (fun _ => rfl) ?_ | refine st_w 72 rfl rfl rfl rfl rfl (fun _ => rfl) v5 (fun _ => rfl) ?_ | refine st_v rfl rfl rfl rfl (fun _ => rfl) rfl (fun _ => rfl) ?_ | refine st_skip rfl rfl rfl ?_ | refine st_b rfl rfl rfl rfl (fun _ => rfl) rfl (fun h1 => ?_) (fun h1 => ?_) | refine st_n rfl rfl rfl rfl (fun _ => rfl) rfl (fun _ => rfl) ?_ | refine st_s rfl rfl rfl rfl (fun _ => rfl) rfl (fun _ => rfl) ?_ | refine c_seq ?_ | refine c_region ?_ | refine c_plain rfl ?_ | refine c_drawn rfl (by kernel_rfl) ?_ | refine st_nil ?_ | refine c_norm ?_ | refine c_cret ?_ | refine c_ret ?_ | refine c_true rfl ?_ | refine c_false rfl ?_ | refine c_skip ?_ | refine c_block ?_ | refine c_bnorm ?_ | refine c_bret ?_ | refine c_bexit rfl ?_ | refine c_bpass rfl ?_ | refine c_exit ?_ | refine c_cexit ?_ | refine c_lret ?_ | refine c_lexit ?_ | refine c_scope ?_ | refine c_label ?_ | refine c_snorm ?_ | refine c_sret ?_ | refine c_sexit ?_ | refine st_call rfl rfl rfl rfl rfl rfl rfl (call_v (vB true) rfl ⟨rfl, rfl⟩ rfl rfl rfl (cb_v rfl (fun _ => rfl) ?_)) | refine st_call rfl rfl rfl rfl rfl rfl rfl (call_v (vB true) rfl ⟨p, rfl, by rw [hb1]⟩ rfl rfl rfl (cb_v rfl (fun _ => rfl) ?_)) | refine st_call rfl rfl rfl rfl rfl rfl rfl (call_v (vB true) rfl ⟨rows, rfl, by rw [hb2]⟩ rfl rfl rfl (cb_v rfl (fun _ => rfl) ?_)) | refine st_call rfl rfl rfl rfl rfl rfl rfl (call_v (vB true) rfl ⟨p, rfl, by rw [hb3]⟩ rfl rfl rfl (cb_v rfl (fun _ => rfl) ?_)) | refine st_call rfl rfl rfl rfl rfl rfl rfl (call_v (fFlaw (0, x, y)) rfl ⟨p, rows, by omega, rfl, by rw [hC]⟩ rfl rfl rfl (cb_v rfl (fun _ => rfl) ?_)) | refine st_pv rfl rfl rfl rfl (fun _ => rfl) (show 0 ≤ (g : Int) ∧ (g : Int) < (p.f0.length : Int) by omega) rfl (fun _ => rfl) ?_ | refine st_pv rfl rfl rfl rfl (fun _ => rfl) (show 0 ≤ (h : Int) by omega) rfl (fun _ => rfl) ?_ | fail)
    refine c_loop (fun i : Nat => i ≤ rows.length) (fun i => [(12, fI (i : Int)), (1, fRows rows), (2, fI (g : Int)), (3, fI (h : Int)), (4, pt 0)]) (fun _ => [(0, some (.var 25 (plCells p)))]) (fun i => rows.length - i) [0] 0 (Nat.zero_le _) rfl ⟨rfl, rfl, rfl, rfl, rfl, rfl, rfl, rfl, rfl, rfl, trivial⟩ ⟨⟨rfl, rfl, rfl⟩, trivial⟩ rfl (fun i hi => ?_)
    by_cases hil : i < rows.length
    case neg =>
      have wt : vB (decide ((i : Int) < (rows.length : Int))) = vB false := by rw [decide_eq_false (by omega)]
      obtain ⟨z, hz⟩ := PX.clear_ex p rows (g : Int) (h : Int)
      have hL : LeastI (Betw p rows g h) z := by
        unfold ClearIs at hz
        rwa [if_pos ⟨hfit, by omega, by omega, by omega, by omega⟩] at hz
      by_cases hz1 : z = -1
      · have v6 : vB (z == -1) = vB true := by rw [hz1]; rfl
        repeat' (first | refine st_w 78 rfl rfl rfl rfl rfl (fun _ => rfl) wt (fun _ => rfl) ?_ | refine st_w 124 rfl rfl rfl rfl rfl (fun _ => rfl) v6 (fun _ => rfl) ?_ | refine st_v rfl rfl rfl rfl (fun _ => rfl) rfl (fun _ => rfl) ?_ | refine st_skip rfl rfl rfl ?_ | refine st_b rfl rfl rfl rfl (fun _ => rfl) rfl (fun h1 => ?_) (fun h1 => ?_) | refine st_n rfl rfl rfl rfl (fun _ => rfl) rfl (fun _ => rfl) ?_ | refine st_s rfl rfl rfl rfl (fun _ => rfl) rfl (fun _ => rfl) ?_ | refine c_seq ?_ | refine c_region ?_ | refine c_plain rfl ?_ | refine c_drawn rfl (by kernel_rfl) ?_ | refine st_nil ?_ | refine c_norm ?_ | refine c_cret ?_ | refine c_ret ?_ | refine c_true rfl ?_ | refine c_false rfl ?_ | refine c_skip ?_ | refine c_block ?_ | refine c_bnorm ?_ | refine c_bret ?_ | refine c_bexit rfl ?_ | refine c_bpass rfl ?_ | refine c_exit ?_ | refine c_cexit ?_ | refine c_lret ?_ | refine c_lexit ?_ | refine c_scope ?_ | refine c_label ?_ | refine c_snorm ?_ | refine c_sret ?_ | refine c_sexit ?_ | refine st_call rfl rfl rfl rfl rfl rfl rfl (call_v (fI z) rfl ⟨p, rows, _, _, z, by omega, hz, rfl, rfl⟩ rfl rfl rfl (cb_v rfl (fun _ => rfl) ?_)) | fail)
        exact ⟨rfl, rfl, rfl, trivial⟩
      · have v6 : vB (z == -1) = vB false := by congr 1; exact beq_eq_false_iff_ne.2 hz1
        have v7 : vB (decide (z ≥ p.f3)) = vB true := by
          rcases hL with hL | ⟨⟨i, k, h1, h2, h3⟩, h4⟩
          · exact absurd hL.1 hz1
          · have := PY.ok_betw hfit hok (by omega) (by omega) hbit h1
            rw [decide_eq_true (by omega)]
        repeat' (first | refine st_w 78 rfl rfl rfl rfl rfl (fun _ => rfl) wt (fun _ => rfl) ?_ | refine st_w 124 rfl rfl rfl rfl rfl (fun _ => rfl) v6 (fun _ => rfl) ?_ | refine st_w 129 rfl rfl rfl rfl rfl (fun _ => rfl) v7 (fun _ => rfl) ?_ | refine st_v rfl rfl rfl rfl (fun _ => rfl) rfl (fun _ => rfl) ?_ | refine st_skip rfl rfl rfl ?_ | refine st_b rfl rfl rfl rfl (fun _ => rfl) rfl (fun h1 => ?_) (fun h1 => ?_) | refine st_n rfl rfl rfl rfl (fun _ => rfl) rfl (fun _ => rfl) ?_ | refine st_s rfl rfl rfl rfl (fun _ => rfl) rfl (fun _ => rfl) ?_ | refine c_seq ?_ | refine c_region ?_ | refine c_plain rfl ?_ | refine c_drawn rfl (by kernel_rfl) ?_ | refine st_nil ?_ | refine c_norm ?_ | refine c_cret ?_ | refine c_ret ?_ | refine c_true rfl ?_ | refine c_false rfl ?_ | refine c_skip ?_ | refine c_block ?_ | refine c_bnorm ?_ | refine c_bret ?_ | refine c_bexit rfl ?_ | refine c_bpass rfl ?_ | refine c_exit ?_ | refine c_cexit ?_ | refine c_lret ?_ | refine c_lexit ?_ | refine c_scope ?_ | refine c_label ?_ | refine c_snorm ?_ | refine c_sret ?_ | refine c_sexit ?_ | refine st_call rfl rfl rfl rfl rfl rfl rfl (call_v (fI z) rfl ⟨p, rows, _, _, z, by omega, hz, rfl, rfl⟩ rfl rfl rfl (cb_v rfl (fun _ => rfl) ?_)) | fail)
        exact ⟨rfl, rfl, rfl, trivial⟩
    have wt : vB (decide ((i : Int) < (rows.length : Int))) = vB true := by rw [decide_eq_true (by omega)]
    have hr := hok i hil
    have hlen := hr.len
    have v8 : vB (((rows.getD i []).length : Int) != (p.f0.length : Int)) = vB false := by rw [hlen]; congr 1; exact bne_self_eq_false _
    by_cases hz : cell rows i g = 0
    · have v9 : vB (cell rows i g != 0) = vB false := by rw [hz]; rfl
      repeat' (first | refine st_w 78 rfl rfl rfl rfl rfl (fun _ => rfl) wt (fun _ => rfl) ?_ | refine st_w 89 rfl rfl rfl rfl rfl (fun _ => rfl) v8 (fun _ => rfl) ?_ | refine st_w 98 rfl rfl rfl rfl rfl (fun _ => rfl) v9 (fun _ => rfl) ?_ | refine st_v rfl rfl rfl rfl (fun _ => rfl) rfl (fun _ => rfl) ?_ | refine st_skip rfl rfl rfl ?_ | refine st_b rfl rfl rfl rfl (fun _ => rfl) rfl (fun h1 => ?_) (fun h1 => ?_) | refine st_n rfl rfl rfl rfl (fun _ => rfl) rfl (fun _ => rfl) ?_ | refine st_s rfl rfl rfl rfl (fun _ => rfl) rfl (fun _ => rfl) ?_ | refine c_seq ?_ | refine c_region ?_ | refine c_plain rfl ?_ | refine c_drawn rfl (by kernel_rfl) ?_ | refine st_nil ?_ | refine c_norm ?_ | refine c_cret ?_ | refine c_ret ?_ | refine c_true rfl ?_ | refine c_false rfl ?_ | refine c_skip ?_ | refine c_block ?_ | refine c_bnorm ?_ | refine c_bret ?_ | refine c_bexit rfl ?_ | refine c_bpass rfl ?_ | refine c_exit ?_ | refine c_cexit ?_ | refine c_lret ?_ | refine c_lexit ?_ | refine c_scope ?_ | refine c_label ?_ | refine c_snorm ?_ | refine c_sret ?_ | refine c_sexit ?_ | refine st_call rfl rfl rfl rfl rfl rfl rfl (call_v (vB false) rfl ⟨p, rows.getD i [], rfl, congrArg vB hr.free.symm⟩ rfl rfl rfl (cb_v rfl (fun _ => rfl) ?_)) | refine st_pv rfl rfl rfl rfl (fun _ => rfl) (show 0 ≤ (i : Int) ∧ (i : Int) < (rows.length : Int) by omega) rfl (fun _ => rfl) ?_ | refine st_pv rfl rfl rfl rfl (fun _ => rfl) (show 0 ≤ (g : Int) ∧ (g : Int) < ((rows.getD i []).length : Int) by omega) rfl (fun _ => rfl) ?_ | fail)
      exact c_lnorm [0] (i + 1) hil (by show rows.length - (i + 1) < rows.length - i; omega) rfl ⟨tk_eq ((St.wr64 (by omega) (by omega)).trans (by omega : (i : Int) + 1 = ((i + 1 : Nat) : Int))), rfl, rfl, rfl, rfl, rfl, rfl, rfl, rfl, rfl, trivial⟩ ⟨⟨rfl, rfl, rfl⟩, trivial⟩ rfl
    · have v9 : vB (cell rows i g != 0) = vB true := by congr 1; exact bne_iff_ne.2 hz
      have hq := (PY.ok_free hfit hr (by omega) (by omega) hbit).resolve_left hz
      have v10 : vB (cell rows i h != 0) = vB false := by rw [hq]; rfl
      repeat' (first | refine st_w 78 rfl rfl rfl rfl rfl (fun _ => rfl) wt (fun _ => rfl) ?_ | refine st_w 89 rfl rfl rfl rfl rfl (fun _ => rfl) v8 (fun _ => rfl) ?_ | refine st_w 98 rfl rfl rfl rfl rfl (fun _ => rfl) v9 (fun _ => rfl) ?_ | refine st_w 107 rfl rfl rfl rfl rfl (fun _ => rfl) v10 (fun _ => rfl) ?_ | refine st_v rfl rfl rfl rfl (fun _ => rfl) rfl (fun _ => rfl) ?_ | refine st_skip rfl rfl rfl ?_ | refine st_b rfl rfl rfl rfl (fun _ => rfl) rfl (fun h1 => ?_) (fun h1 => ?_) | refine st_n rfl rfl rfl rfl (fun _ => rfl) rfl (fun _ => rfl) ?_ | refine st_s rfl rfl rfl rfl (fun _ => rfl) rfl (fun _ => rfl) ?_ | refine c_seq ?_ | refine c_region ?_ | refine c_plain rfl ?_ | refine c_drawn rfl (by kernel_rfl) ?_ | refine st_nil ?_ | refine c_norm ?_ | refine c_cret ?_ | refine c_ret ?_ | refine c_true rfl ?_ | refine c_false rfl ?_ | refine c_skip ?_ | refine c_block ?_ | refine c_bnorm ?_ | refine c_bret ?_ | refine c_bexit rfl ?_ | refine c_bpass rfl ?_ | refine c_exit ?_ | refine c_cexit ?_ | refine c_lret ?_ | refine c_lexit ?_ | refine c_scope ?_ | refine c_label ?_ | refine c_snorm ?_ | refine c_sret ?_ | refine c_sexit ?_ | refine st_call rfl rfl rfl rfl rfl rfl rfl (call_v (vB false) rfl ⟨p, rows.getD i [], rfl, congrArg vB hr.free.symm⟩ rfl rfl rfl (cb_v rfl (fun _ => rfl) ?_)) | refine st_pv rfl rfl rfl rfl (fun _ => rfl) (show 0 ≤ (i : Int) ∧ (i : Int) < (rows.length : Int) by omega) rfl (fun _ => rfl) ?_ | refine st_pv rfl rfl rfl rfl (fun _ => rfl) (show 0 ≤ (g : Int) ∧ (g : Int) < ((rows.getD i []).length : Int) by omega) rfl (fun _ => rfl) ?_ | refine st_pv rfl rfl rfl rfl (fun _ => rfl) (show 0 ≤ (h : Int) ∧ (h : Int) < ((rows.getD i []).length : Int) by omega) rfl (fun _ => rfl) ?_ | fail)
      exact c_lnorm [0] (i + 1) hil (by show rows.length - (i + 1) < rows.length - i; omega) rfl ⟨tk_eq ((St.wr64 (by omega) (by omega)).trans (by omega : (i : Int) + 1 = ((i + 1 : Nat) : Int))), rfl, rfl, rfl, rfl, rfl, rfl, rfl, rfl, rfl, trivial⟩ ⟨⟨rfl, rfl, rfl⟩, trivial⟩ rfl
end TrTraceFree
theorem TraceFree_calls (A0_0 : Option Addr) (c0_0 : Nat) (l0_0 : List Int) (A0_1 : Option Addr) (c0_1 : Nat) (l0_1 : List S87) (a0_2 a0_3 a0_4 : Int) (A1 : Option Addr) (c1 : Nat) (l1 : List (List Int)) (a2 : Int) (a3 : Int) (w : World) (hr0_0 : Kd.C (Kd.int .i64) w A0_0 l0_0.length l0_0) (hc0_0 : l0_0.length ≤ c0_0) (hr0_1 : Kd.C k87 w A0_1 l0_1.length l0_1) (hc0_1 : l0_1.length ≤ c0_1) (hr1 : Kd.C (Kd.slice 3 (Kd.int .i64)) w A1 l1.length l1) (hc1 : l1.length ≤ c1) (hG : GlobOk w) :
    Calls Tryd.prog 5 #[.agg #[.slice A0_0 l0_0.length c0_0, .slice A0_1 l0_1.length c0_1, .int .i64 a0_2, .int .i64 a0_3, .int .i64 a0_4], .slice A1 l1.length c1, .int .i64 a2, .int .i64 a3] w fun e w' => e = .returned (.bool true) ∧ Below w.heap.size w w' :=
  law_of TrTraceFree.ok ⟨⟨l0_0, l0_1, a0_2, a0_3, a0_4⟩, l1, a2, a3, rfl, rfl⟩ hG ⟨⟨[_, _, _, _, _], rfl, ⟨C_int old_I hc0_0 hr0_0, rfl⟩, ⟨C_stg old_I hc0_1 hr0_1, rfl⟩, ⟨rfl, rfl⟩, ⟨rfl, rfl⟩, ⟨rfl, rfl⟩, trivial⟩, ⟨Tr.C_rows hc1 hr1, rfl⟩, ⟨rfl, rfl⟩, ⟨rfl, rfl⟩, trivial⟩
end Go.Proofs.YtpciieagafddcaaDoor.E
