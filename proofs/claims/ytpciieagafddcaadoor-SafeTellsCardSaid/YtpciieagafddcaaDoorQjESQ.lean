/- The document's All and Play, walked by the engine (own text). -/
import Derived.Test.YtpciieagafddcaaDoorQjESR4
namespace Go.Proofs.YtpciieagafddcaaDoor.E
open Go Go.RowKit Go.Proofs Go.Proofs.YtpciieagafddcaaDoorW.PrintWords Go.Proofs.YtpciieagafddcaaDoorW.PrintLast Go.Proofs.YtpciieagafddcaaDoorW.PrintMore Go.Proofs.YtpciieagafddcaaDoor.F
set_option linter.unusedVariables false
set_option linter.unusedSimpArgs false
set_option maxRecDepth 100000
set_option maxHeartbeats 8000000
attribute [local irreducible] acode callR
namespace Sr
open St Rw
open Tr (st_w st_wb vI_eq)
open Safe (fI_eq' blk_eq ret_two getD_last getD_left fAll all_weak all_weak0 take_all fAsks cAsks askCells sgB z0 fDo SpDo SpAllD SpPlay)
theorem Γa : ΓOk Tryd.prog (look [(31, Safe.SpDo)]) := (ΓOk.nil.cons do_ok Tryd.func31 (by kernel_rfl))
theorem all_ok : SpecOk Tryd.prog 33 Safe.SpAllD := by
  refine spec_of_codeW TYok Γa mixed Tryd.func33 rfl ?_
  rintro args pre r post ⟨⟨l, s, asks, hw, hlen, rfl, rfl⟩, rfl, rfl⟩
  refine ⟨rfl, ?_⟩
  repeat' (first | refine st_v rfl rfl rfl rfl (fun _ => rfl) rfl (fun _ => rfl) ?_ | refine st_skip rfl rfl rfl ?_ | refine st_b rfl rfl rfl rfl (fun _ => rfl) rfl (fun h1 => ?_) (fun h1 => ?_) | refine st_n rfl rfl rfl rfl (fun _ => rfl) rfl (fun _ => rfl) ?_ | refine st_s rfl rfl rfl rfl (fun _ => rfl) rfl (fun _ => rfl) ?_ | refine c_seq ?_ | refine c_region ?_ | refine c_plain rfl ?_ | refine c_drawn rfl (by kernel_rfl) ?_ | refine st_nil ?_ | refine c_norm ?_ | refine c_cret ?_ | refine c_ret ?_ | refine c_true rfl ?_ | refine c_false rfl ?_ | refine c_skip ?_ | refine c_block ?_ | refine c_bnorm ?_ | refine c_bret ?_ | refine c_bexit rfl ?_ | refine c_bpass rfl ?_ | refine c_exit ?_ | refine c_cexit ?_ | refine c_lret ?_ | refine c_lexit ?_ | refine c_scope ?_ | refine c_label ?_ | refine c_snorm ?_ | refine c_sret ?_ | refine c_sexit ?_ | fail)
  refine c_loop (fun x : Nat × (Nat → Nat → CV) => x.1 ≤ asks.length ∧ ∀ j, j < x.1 → x.2 j 0 = cI ((PW.allE l (asks.take x.1) s).getD j 0))
    (fun x => match x.1 with
      | 0 => [(9, fI 0), (2, fAsks asks), (8, .t (.one (.v (.slice none 0 0)))), (0, fPls l), (4, .t (.one (.ptr 0 0))), (6, .t (.one (.ptr 1 0)))]
      | i + 1 => [(9, fI ((i + 1 : Nat) : Int)), (2, fAsks asks), (8, .t (.one (.own 2))), (0, fPls l), (4, .t (.one (.ptr 0 0))), (6, .t (.one (.ptr 1 0)))])
    (fun x => match x.1 with
      | 0 => [(0, some (sgB s)), (1, some (sgB z0))]
      | i + 1 => [(0, some (sgB (PW.allS l (asks.take (i + 1)) s))), (1, some (sgB z0)), (2, some (.row 46 (i + 1) 1 x.2))])
    (fun x => asks.length - x.1) [0, 1, 100000] (0, fun _ _ => default) ⟨Nat.zero_le _, fun j hj => absurd hj (Nat.not_lt_zero j)⟩ rfl ⟨rfl, rfl, rfl, rfl, rfl, rfl, rfl, rfl, rfl, rfl, rfl, rfl, trivial⟩ ⟨⟨rfl, rfl, rfl⟩, ⟨rfl, rfl, rfl⟩, trivial⟩ rfl (fun x hx => ?_)
  obtain ⟨i, el⟩ := x
  obtain ⟨hi, hel⟩ := hx
  cases i with
  | zero =>
    repeat' (first | refine st_v rfl rfl rfl rfl (fun _ => rfl) rfl (fun _ => rfl) ?_ | refine st_skip rfl rfl rfl ?_ | refine st_b rfl rfl rfl rfl (fun _ => rfl) rfl (fun h1 => ?_) (fun h1 => ?_) | refine st_n rfl rfl rfl rfl (fun _ => rfl) rfl (fun _ => rfl) ?_ | refine st_s rfl rfl rfl rfl (fun _ => rfl) rfl (fun _ => rfl) ?_ | refine c_seq ?_ | refine c_region ?_ | refine c_plain rfl ?_ | refine c_drawn rfl (by kernel_rfl) ?_ | refine st_nil ?_ | refine c_norm ?_ | refine c_cret ?_ | refine c_ret ?_ | refine c_true rfl ?_ | refine c_false rfl ?_ | refine c_skip ?_ | refine c_block ?_ | refine c_bnorm ?_ | refine c_bret ?_ | refine c_bexit rfl ?_ | refine c_bpass rfl ?_ | refine c_exit ?_ | refine c_cexit ?_ | refine c_lret ?_ | refine c_lexit ?_ | refine c_scope ?_ | refine c_label ?_ | refine c_snorm ?_ | refine c_sret ?_ | refine c_sexit ?_ | refine st_call rfl rfl rfl rfl rfl rfl rfl (call_v (fDo (PW.doB l s _ _)) rfl ⟨l, s, _, _, hw, rfl, rfl⟩ rfl rfl rfl (cb_v rfl (fun _ => rfl) ?_)) | refine st_pv rfl rfl rfl rfl (fun _ => rfl) (by simp only [decide_eq_true_eq] at *; omega) rfl (fun _ => rfl) ?_ | refine st_pn rfl rfl rfl rfl (fun _ => rfl) (by show 1 * 8 ≤ 140737488355328; omega) rfl (fun _ => rfl) ?_ | fail)
    · have h1m : 0 < asks.length := by have := of_decide_eq_true (by assumption : decide ((0 : Int) < (asks.length : Int)) = true); omega
      refine c_lnorm [0, 1, 31] (0 + 1, _) ?_ (by show asks.length - 1 < asks.length - 0; omega) rfl ⟨fI_eq' (St.wr64 (by omega) (by omega)), rfl, rfl, rfl, rfl, rfl, rfl, rfl, rfl, rfl, rfl, rfl, trivial⟩ ⟨⟨blk_eq (t := (PW.doB l s (asks.getD 0 z65).f0 (asks.getD 0 z65).f1).1) rfl (PW.allS_one s h1m).symm, rfl, rfl⟩, ⟨rfl, rfl, rfl⟩, ⟨rfl, rfl, rfl⟩, trivial⟩ rfl
      refine ⟨h1m, fun j hj => ?_⟩
      have hj : j < 1 := hj
      obtain rfl : j = 0 := by omega
      show _ = cI ((PW.allE l (asks.take (0 + 1)) s).getD 0 0)
      rw [PW.allE_one s h1m]
      rfl
    · have h1m : ¬ ((0 : Int) < (asks.length : Int)) := of_decide_eq_false (by assumption)
      have h0 : asks = [] := List.eq_nil_of_length_eq_zero (by omega)
      subst h0
      exact ⟨_, fun c y h => all_weak0 h (show _ = sgCells s from rfl), ret_two rfl rfl rfl rfl rfl rfl rfl rfl rfl, rfl, rfl, trivial⟩
  | succ i =>
    have hsw : PU.Wf (PW.allS l (asks.take (i + 1)) s) := PW.allS_wf _ hw
    repeat' (first | refine st_v rfl rfl rfl rfl (fun _ => rfl) rfl (fun _ => rfl) ?_ | refine st_skip rfl rfl rfl ?_ | refine st_b rfl rfl rfl rfl (fun _ => rfl) rfl (fun h1 => ?_) (fun h1 => ?_) | refine st_n rfl rfl rfl rfl (fun _ => rfl) rfl (fun _ => rfl) ?_ | refine st_s rfl rfl rfl rfl (fun _ => rfl) rfl (fun _ => rfl) ?_ | refine c_seq ?_ | refine c_region ?_ | refine c_plain rfl ?_ | refine c_drawn rfl (by kernel_rfl) ?_ | refine st_nil ?_ | refine c_norm ?_ | refine c_cret ?_ | refine c_ret ?_ | refine c_true rfl ?_ | refine c_false rfl ?_ | refine c_skip ?_ | refine c_block ?_ | refine c_bnorm ?_ | refine c_bret ?_ | refine c_bexit rfl ?_ | refine c_bpass rfl ?_ | refine c_exit ?_ | refine c_cexit ?_ | refine c_lret ?_ | refine c_lexit ?_ | refine c_scope ?_ | refine c_label ?_ | refine c_snorm ?_ | refine c_sret ?_ | refine c_sexit ?_ | refine st_call rfl rfl rfl rfl rfl rfl rfl (call_v (fDo (PW.doB l (PW.allS l (asks.take (i + 1)) s) _ _)) rfl ⟨l, PW.allS l (asks.take (i + 1)) s, _, _, hsw, rfl, rfl⟩ rfl rfl rfl (cb_v rfl (fun _ => rfl) ?_)) | refine st_pv rfl rfl rfl rfl (fun _ => rfl) (by simp only [decide_eq_true_eq] at *; omega) rfl (fun _ => rfl) ?_ | refine st_pn2 rfl rfl rfl rfl (fun _ => rfl) (by show (i + 1) + 1 ≤ 9223372036854775807 ∧ ((i + 1) + 1) * 8 ≤ 140737488355328; omega) rfl (fun _ => rfl) ?_ | fail)
    · have h1m : i + 1 < asks.length := by have := of_decide_eq_true (by assumption : decide (((i + 1 : Nat) : Int) < (asks.length : Int)) = true); omega
      refine c_lnorm [0, 1, 31] (i + 1 + 1, _) ?_ (by show asks.length - (i + 1 + 1) < asks.length - (i + 1); omega) rfl ⟨fI_eq' ((St.wr64 (by omega) (by omega)).trans (by omega : ((i + 1 : Nat) : Int) + 1 = ((i + 1 + 1 : Nat) : Int))), rfl, rfl, rfl, rfl, rfl, rfl, rfl, rfl, rfl, rfl, rfl, trivial⟩ ⟨⟨blk_eq (t := (PW.doB l (PW.allS l (asks.take (i + 1)) s) (asks.getD (i + 1) z65).f0 (asks.getD (i + 1) z65).f1).1) rfl (PW.allS_one s h1m).symm, rfl, rfl⟩, ⟨rfl, rfl, rfl⟩, ⟨rfl, rfl, rfl⟩, trivial⟩ rfl
      refine ⟨h1m, fun j hj => ?_⟩
      have hj : j < i + 1 + 1 := hj
      have hl : (PW.allE l (asks.take (i + 1)) s).length = i + 1 := by rw [PW.allE_len, List.length_take]; omega
      show _ = cI ((PW.allE l (asks.take (i + 1 + 1)) s).getD j 0)
      rw [PW.allE_one s h1m]
      by_cases hj1 : j < i + 1
      · refine Eq.trans ?_ (congrArg cI (getD_left (by omega)).symm)
        exact (if_pos hj1).trans (hel j hj1)
      · obtain rfl : j = i + 1 := by omega
        refine Eq.trans ?_ (congrArg cI (getD_last hl).symm)
        refine (if_neg hj1).trans ?_
        rw [Nat.sub_self]
        rfl
    · have h1m : ¬ (((i + 1 : Nat) : Int) < (asks.length : Int)) := of_decide_eq_false (by assumption)
      have ht : asks.take (i + 1) = asks := take_all (by omega)
      have hi : i + 1 ≤ asks.length := hi
      exact ⟨_, fun c y h => all_weak h ((rfl : _ = sgCells (PW.allS l (asks.take (i + 1)) s)).trans (congrArg sgCells (by rw [ht]))) (by rw [PW.allE_len]; omega) (fun j hj => by have := hel j hj; rw [ht] at this; exact this), ret_two rfl rfl rfl rfl rfl rfl rfl rfl rfl, rfl, rfl, trivial⟩
theorem Γp : ΓOk Tryd.prog (look [(31, Safe.SpDo), (71, Ref.SpTick), (72, Ref.SpLamps)]) := (((ΓOk.nil.cons Ref.lamps_ok Tryd.func72 (by kernel_rfl)).cons Ref.tick_ok Tryd.func71 (by kernel_rfl)).cons do_ok Tryd.func31 (by kernel_rfl))
theorem play_ok : SpecOk Tryd.prog 35 Safe.SpPlay := by
  refine spec_of_codeW TYok Γp mixed Tryd.func35 rfl ?_
  rintro args pre r post ⟨⟨l, s, asks, hw, hlen, rfl, rfl⟩, rfl, rfl⟩
  refine ⟨rfl, ?_⟩
  repeat' (first | refine st_v rfl rfl rfl rfl (fun _ => rfl) rfl (fun _ => rfl) ?_ | refine st_skip rfl rfl rfl ?_ | refine st_b rfl rfl rfl rfl (fun _ => rfl) rfl (fun h1 => ?_) (fun h1 => ?_) | refine st_n rfl rfl rfl rfl (fun _ => rfl) rfl (fun _ => rfl) ?_ | refine st_s rfl rfl rfl rfl (fun _ => rfl) rfl (fun _ => rfl) ?_ | refine c_seq ?_ | refine c_region ?_ | refine c_plain rfl ?_ | refine c_drawn rfl (by kernel_rfl) ?_ | refine st_nil ?_ | refine c_norm ?_ | refine c_cret ?_ | refine c_ret ?_ | refine c_true rfl ?_ | refine c_false rfl ?_ | refine c_skip ?_ | refine c_block ?_ | refine c_bnorm ?_ | refine c_bret ?_ | refine c_bexit rfl ?_ | refine c_bpass rfl ?_ | refine c_exit ?_ | refine c_cexit ?_ | refine c_lret ?_ | refine c_lexit ?_ | refine c_scope ?_ | refine c_label ?_ | refine c_snorm ?_ | refine c_sret ?_ | refine c_sexit ?_ | fail)
  refine c_loop (fun x : Nat × Nat × (Nat → Nat → CV) => x.1 ≤ asks.length ∧ x.2.1 = (PW.playR l (asks.take x.1) s).length ∧ ∀ j, j < x.2.1 → x.2.2 j 0 = cInts ((PW.playR l (asks.take x.1) s).getD j []))
    (fun x => match x.2.1 with
      | 0 => [(9, fI (x.1 : Int)), (2, fAsks asks), (8, .t (.one (.v (.slice none 0 0)))), (0, fPls l), (4, .t (.one (.ptr 0 0))), (6, .t (.one (.ptr 1 0)))]
      | _ + 1 => [(9, fI (x.1 : Int)), (2, fAsks asks), (8, .t (.one (.own 2))), (0, fPls l), (4, .t (.one (.ptr 0 0))), (6, .t (.one (.ptr 1 0)))])
    (fun x => match x.2.1 with
      | 0 => [(0, some (sgB (PW.playS l (asks.take x.1) s))), (1, some (sgB z0))]
      | n + 1 => [(0, some (sgB (PW.playS l (asks.take x.1) s))), (1, some (sgB z0)), (2, some (.row 22 (n + 1) 1 x.2.2))])
    (fun x => asks.length - x.1) [0, 1, 100000] (0, 0, fun _ _ => default) ⟨Nat.zero_le _, rfl, fun j hj => absurd hj (Nat.not_lt_zero j)⟩ rfl ⟨rfl, rfl, rfl, rfl, rfl, rfl, rfl, rfl, rfl, rfl, rfl, rfl, trivial⟩ ⟨⟨rfl, rfl, rfl⟩, ⟨rfl, rfl, rfl⟩, trivial⟩ rfl (fun x hx => ?_)
  obtain ⟨i, n, el⟩ := x
  obtain ⟨hi, hn, hel⟩ := hx
  have hsw : PU.Wf (PW.playS l (asks.take i) s) := PW.playS_wf _ hw
  have hn : n = (PW.playR l (asks.take i) s).length := hn
  have hnl : n ≤ i := by
    have := PW.playR_len (l := l) (asks.take i) s
    rw [List.length_take] at this
    omega
  cases n with
  | zero =>
    have hnil : PW.playR l (asks.take i) s = [] := List.eq_nil_of_length_eq_zero hn.symm
    repeat' (first | refine st_v rfl rfl rfl rfl (fun _ => rfl) rfl (fun _ => rfl) ?_ | refine st_skip rfl rfl rfl ?_ | refine st_b rfl rfl rfl rfl (fun _ => rfl) rfl (fun h1 => ?_) (fun h1 => ?_) | refine st_n rfl rfl rfl rfl (fun _ => rfl) rfl (fun _ => rfl) ?_ | refine st_s rfl rfl rfl rfl (fun _ => rfl) rfl (fun _ => rfl) ?_ | refine c_seq ?_ | refine c_region ?_ | refine c_plain rfl ?_ | refine c_drawn rfl (by kernel_rfl) ?_ | refine st_nil ?_ | refine c_norm ?_ | refine c_cret ?_ | refine c_ret ?_ | refine c_true rfl ?_ | refine c_false rfl ?_ | refine c_skip ?_ | refine c_block ?_ | refine c_bnorm ?_ | refine c_bret ?_ | refine c_bexit rfl ?_ | refine c_bpass rfl ?_ | refine c_exit ?_ | refine c_cexit ?_ | refine c_lret ?_ | refine c_lexit ?_ | refine c_scope ?_ | refine c_label ?_ | refine c_snorm ?_ | refine c_sret ?_ | refine c_sexit ?_ | refine st_call rfl rfl rfl rfl rfl rfl rfl (call_v (fDo (PW.doB l (PW.playS l (asks.take i) s) _ _)) rfl ⟨l, PW.playS l (asks.take i) s, _, _, hsw, rfl, rfl⟩ rfl rfl rfl (cb_v rfl (fun _ => rfl) ?_)) | refine st_call rfl rfl rfl rfl rfl rfl rfl (call_v (fSg (stage_tickB.f l (PW.playS l (asks.take i) s))) rfl ⟨l, PW.playS l (asks.take i) s, hsw, rfl, rfl⟩ rfl rfl rfl (cb_v rfl (fun _ => rfl) ?_)) | refine st_call rfl rfl rfl rfl rfl rfl rfl (call_s (fInts (PU.lampsB l (stage_tickB.f l (PW.playS l (asks.take i) s)))) rfl ⟨l, stage_tickB.f l (PW.playS l (asks.take i) s), PW.tick_wf hsw, rfl, rfl⟩ rfl rfl rfl rfl (cb_v rfl (fun _ => rfl) ?_)) | refine st_pv rfl rfl rfl rfl (fun _ => rfl) (by simp only [decide_eq_true_eq] at *; omega) rfl (fun _ => rfl) ?_ | refine st_pn rfl rfl rfl rfl (fun _ => rfl) (by show 1 * 24 ≤ 140737488355328; omega) rfl (fun _ => rfl) ?_ | fail)
    · have h1m : i < asks.length := by have := of_decide_eq_true (by assumption : decide ((i : Int) < (asks.length : Int)) = true); omega
      have hx : (asks.getD i z65).f0 = -1 := by simpa using (by assumption : ((asks.getD (i : Int).toNat z65).f0 == -1) = true)
      refine c_lnorm [0, 1, 22] (i + 1, 1, _) ?_ (by show asks.length - (i + 1) < asks.length - i; omega) rfl ⟨fI_eq' ((St.wr64 (by omega) (by omega)).trans (by omega : (i : Int) + 1 = ((i + 1 : Nat) : Int))), rfl, rfl, rfl, rfl, rfl, rfl, rfl, rfl, rfl, rfl, rfl, trivial⟩ ⟨⟨blk_eq (t := stage_tickB.f l (PW.playS l (asks.take i) s)) rfl ((PW.one_tick hx).symm.trans (PW.playS_one s h1m).symm), rfl, rfl⟩, ⟨rfl, rfl, rfl⟩, ⟨rfl, rfl, rfl⟩, trivial⟩ rfl
      have hr := PW.playR_tick (l := l) s h1m hx
      rw [hnil, List.nil_append] at hr
      refine ⟨h1m, by show 1 = (PW.playR l (asks.take (i + 1)) s).length; rw [hr]; rfl, fun j hj => ?_⟩
      have hj : j < 1 := hj
      obtain rfl : j = 0 := by omega
      show _ = cInts ((PW.playR l (asks.take (i + 1)) s).getD 0 [])
      rw [hr]
      rfl
    · have h1m : i < asks.length := by have := of_decide_eq_true (by assumption : decide ((i : Int) < (asks.length : Int)) = true); omega
      have hx : ¬ (asks.getD i z65).f0 = -1 := by simpa using (by assumption : ((asks.getD (i : Int).toNat z65).f0 == -1) = false)
      refine c_lnorm [0, 1, 100000] (i + 1, 0, el) ?_ (by show asks.length - (i + 1) < asks.length - i; omega) rfl ⟨fI_eq' ((St.wr64 (by omega) (by omega)).trans (by omega : (i : Int) + 1 = ((i + 1 : Nat) : Int))), rfl, rfl, rfl, rfl, rfl, rfl, rfl, rfl, rfl, rfl, rfl, trivial⟩ ⟨⟨blk_eq (t := (PW.doB l (PW.playS l (asks.take i) s) (asks.getD i z65).f0 (asks.getD i z65).f1).1) rfl ((PW.one_do hx).symm.trans (PW.playS_one s h1m).symm), rfl, rfl⟩, ⟨rfl, rfl, rfl⟩, trivial⟩ rfl
      exact ⟨h1m, by show 0 = (PW.playR l (asks.take (i + 1)) s).length; rw [PW.playR_no s h1m hx]; exact hn, fun j hj => absurd hj (Nat.not_lt_zero j)⟩
    · have h1m : ¬ ((i : Int) < (asks.length : Int)) := of_decide_eq_false (by assumption)
      have ht : asks.take i = asks := take_all (by omega)
      rw [ht] at hnil
      rw [hnil]
      exact ⟨_, fun c y h => run_weak0 h ((rfl : _ = sgCells (PW.playS l (asks.take i) s)).trans (congrArg sgCells (by rw [ht]))), ret_two rfl rfl rfl rfl rfl rfl rfl rfl rfl, rfl, rfl, trivial⟩
  | succ n =>
    repeat' (first | refine st_v rfl rfl rfl rfl (fun _ => rfl) rfl (fun _ => rfl) ?_ | refine st_skip rfl rfl rfl ?_ | refine st_b rfl rfl rfl rfl (fun _ => rfl) rfl (fun h1 => ?_) (fun h1 => ?_) | refine st_n rfl rfl rfl rfl (fun _ => rfl) rfl (fun _ => rfl) ?_ | refine st_s rfl rfl rfl rfl (fun _ => rfl) rfl (fun _ => rfl) ?_ | refine c_seq ?_ | refine c_region ?_ | refine c_plain rfl ?_ | refine c_drawn rfl (by kernel_rfl) ?_ | refine st_nil ?_ | refine c_norm ?_ | refine c_cret ?_ | refine c_ret ?_ | refine c_true rfl ?_ | refine c_false rfl ?_ | refine c_skip ?_ | refine c_block ?_ | refine c_bnorm ?_ | refine c_bret ?_ | refine c_bexit rfl ?_ | refine c_bpass rfl ?_ | refine c_exit ?_ | refine c_cexit ?_ | refine c_lret ?_ | refine c_lexit ?_ | refine c_scope ?_ | refine c_label ?_ | refine c_snorm ?_ | refine c_sret ?_ | refine c_sexit ?_ | refine st_call rfl rfl rfl rfl rfl rfl rfl (call_v (fDo (PW.doB l (PW.playS l (asks.take i) s) _ _)) rfl ⟨l, PW.playS l (asks.take i) s, _, _, hsw, rfl, rfl⟩ rfl rfl rfl (cb_v rfl (fun _ => rfl) ?_)) | refine st_call rfl rfl rfl rfl rfl rfl rfl (call_v (fSg (stage_tickB.f l (PW.playS l (asks.take i) s))) rfl ⟨l, PW.playS l (asks.take i) s, hsw, rfl, rfl⟩ rfl rfl rfl (cb_v rfl (fun _ => rfl) ?_)) | refine st_call rfl rfl rfl rfl rfl rfl rfl (call_s (fInts (PU.lampsB l (stage_tickB.f l (PW.playS l (asks.take i) s)))) rfl ⟨l, stage_tickB.f l (PW.playS l (asks.take i) s), PW.tick_wf hsw, rfl, rfl⟩ rfl rfl rfl rfl (cb_v rfl (fun _ => rfl) ?_)) | refine st_pv rfl rfl rfl rfl (fun _ => rfl) (by simp only [decide_eq_true_eq] at *; omega) rfl (fun _ => rfl) ?_ | refine st_pn2 rfl rfl rfl rfl (fun _ => rfl) (by show (n + 1) + 1 ≤ 9223372036854775807 ∧ ((n + 1) + 1) * 24 ≤ 140737488355328; have hi : i ≤ asks.length := hi; omega) rfl (fun _ => rfl) ?_ | fail)
    · have h1m : i < asks.length := by have := of_decide_eq_true (by assumption : decide ((i : Int) < (asks.length : Int)) = true); omega
      have hx : (asks.getD i z65).f0 = -1 := by simpa using (by assumption : ((asks.getD (i : Int).toNat z65).f0 == -1) = true)
      refine c_lnorm [0, 1, 22] (i + 1, n + 1 + 1, _) ?_ (by show asks.length - (i + 1) < asks.length - i; omega) rfl ⟨fI_eq' ((St.wr64 (by omega) (by omega)).trans (by omega : (i : Int) + 1 = ((i + 1 : Nat) : Int))), rfl, rfl, rfl, rfl, rfl, rfl, rfl, rfl, rfl, rfl, rfl, trivial⟩ ⟨⟨blk_eq (t := stage_tickB.f l (PW.playS l (asks.take i) s)) rfl ((PW.one_tick hx).symm.trans (PW.playS_one s h1m).symm), rfl, rfl⟩, ⟨rfl, rfl, rfl⟩, ⟨rfl, rfl, rfl⟩, trivial⟩ rfl
      have hr := PW.playR_tick (l := l) s h1m hx
      refine ⟨h1m, by show n + 1 + 1 = (PW.playR l (asks.take (i + 1)) s).length; rw [hr, List.length_append, ← hn]; rfl, fun j hj => ?_⟩
      have hj : j < n + 1 + 1 := hj
      show _ = cInts ((PW.playR l (asks.take (i + 1)) s).getD j [])
      rw [hr]
      by_cases hj1 : j < n + 1
      · refine Eq.trans ?_ (congrArg cInts (getD_left (by omega)).symm)
        exact (if_pos hj1).trans (hel j hj1)
      · obtain rfl : j = n + 1 := by omega
        refine Eq.trans ?_ (congrArg cInts (getD_last hn.symm).symm)
        refine (if_neg hj1).trans ?_
        rw [Nat.sub_self]
        rfl
    · have h1m : i < asks.length := by have := of_decide_eq_true (by assumption : decide ((i : Int) < (asks.length : Int)) = true); omega
      have hx : ¬ (asks.getD i z65).f0 = -1 := by simpa using (by assumption : ((asks.getD (i : Int).toNat z65).f0 == -1) = false)
      refine c_lnorm [0, 1, 2] (i + 1, n + 1, el) ?_ (by show asks.length - (i + 1) < asks.length - i; omega) rfl ⟨fI_eq' ((St.wr64 (by omega) (by omega)).trans (by omega : (i : Int) + 1 = ((i + 1 : Nat) : Int))), rfl, rfl, rfl, rfl, rfl, rfl, rfl, rfl, rfl, rfl, rfl, trivial⟩ ⟨⟨blk_eq (t := (PW.doB l (PW.playS l (asks.take i) s) (asks.getD i z65).f0 (asks.getD i z65).f1).1) rfl ((PW.one_do hx).symm.trans (PW.playS_one s h1m).symm), rfl, rfl⟩, ⟨rfl, rfl, rfl⟩, ⟨rfl, rfl, rfl⟩, trivial⟩ rfl
      exact ⟨h1m, by show n + 1 = (PW.playR l (asks.take (i + 1)) s).length; rw [PW.playR_no s h1m hx]; exact hn, fun j hj => by show _ = cInts ((PW.playR l (asks.take (i + 1)) s).getD j []); rw [PW.playR_no s h1m hx]; exact hel j hj⟩
    · have h1m : ¬ ((i : Int) < (asks.length : Int)) := of_decide_eq_false (by assumption)
      have ht : asks.take i = asks := take_all (by omega)
      exact ⟨_, fun c y h => run_weak h ((rfl : _ = sgCells (PW.playS l (asks.take i) s)).trans (congrArg sgCells (by rw [ht]))) (by rw [ht] at hn; exact hn) (fun j hj => by have := hel j hj; rw [ht] at this; exact this), ret_two rfl rfl rfl rfl rfl rfl rfl rfl rfl, rfl, rfl, trivial⟩
def SpErrs : Spec := .pure fun a r => ∃ es : List Int, es.length ≤ 1000 ∧ a = [fInts es, fInts es] ∧ r = vB true
theorem errs_ok : SpecOk Tryd.prog 36 SpErrs := by
  refine spec_of_code TYok ΓOk.nil mixed Tryd.func36 rfl ?_
  rintro args pre r post ⟨⟨es, hl, rfl, rfl⟩, rfl, rfl⟩
  refine ⟨rfl, ?_⟩
  have w1 : vB ((es.length : Int) != (es.length : Int)) = vB false := by congr 1; exact bne_self_eq_false _
  repeat' (first | refine st_w 10 rfl rfl rfl rfl rfl (fun _ => rfl) w1 (fun _ => rfl) ?_ | refine st_v rfl rfl rfl rfl (fun _ => rfl) rfl (fun _ => rfl) ?_ | refine st_skip rfl rfl rfl ?_ | refine st_b rfl rfl rfl rfl (fun _ => rfl) rfl (fun h1 => ?_) (fun h1 => ?_) | refine st_n rfl rfl rfl rfl (fun _ => rfl) rfl (fun _ => rfl) ?_ | refine st_s rfl rfl rfl rfl (fun _ => rfl) rfl (fun _ => rfl) ?_ | refine c_seq ?_ | refine c_region ?_ | refine c_plain rfl ?_ | refine c_drawn rfl (by kernel_rfl) ?_ | refine st_nil ?_ | refine c_norm ?_ | refine c_cret ?_ | refine c_ret ?_ | refine c_true rfl ?_ | refine c_false rfl ?_ | refine c_skip ?_ | refine c_block ?_ | refine c_bnorm ?_ | refine c_bret ?_ | refine c_bexit rfl ?_ | refine c_bpass rfl ?_ | refine c_exit ?_ | refine c_cexit ?_ | refine c_lret ?_ | refine c_lexit ?_ | refine c_scope ?_ | refine c_label ?_ | refine c_snorm ?_ | refine c_sret ?_ | refine c_sexit ?_ | fail)
  refine c_loop (fun i : Nat => i ≤ es.length) (fun i => [(5, fI (i : Int)), (0, fInts es), (1, fInts es)]) (fun _ => []) (fun i => es.length - i) [] 0 (Nat.zero_le _) rfl ⟨rfl, rfl, rfl, rfl, rfl, rfl, trivial⟩ trivial rfl (fun i hi => ?_)
  have w2 : vB (es.getD i 0 != es.getD i 0) = vB false := by congr 1; exact bne_self_eq_false _
  by_cases hil : i < es.length
  · have wt : vB (decide ((i : Int) < (es.length : Int))) = vB true := by rw [decide_eq_true (by omega)]
    repeat' (first | refine st_w 14 rfl rfl rfl rfl rfl (fun _ => rfl) wt (fun _ => rfl) ?_ | refine st_w 25 rfl rfl rfl rfl rfl (fun _ => rfl) w2 (fun _ => rfl) ?_ | refine st_v rfl rfl rfl rfl (fun _ => rfl) rfl (fun _ => rfl) ?_ | refine st_skip rfl rfl rfl ?_ | refine st_b rfl rfl rfl rfl (fun _ => rfl) rfl (fun h1 => ?_) (fun h1 => ?_) | refine st_n rfl rfl rfl rfl (fun _ => rfl) rfl (fun _ => rfl) ?_ | refine st_s rfl rfl rfl rfl (fun _ => rfl) rfl (fun _ => rfl) ?_ | refine c_seq ?_ | refine c_region ?_ | refine c_plain rfl ?_ | refine c_drawn rfl (by kernel_rfl) ?_ | refine st_nil ?_ | refine c_norm ?_ | refine c_cret ?_ | refine c_ret ?_ | refine c_true rfl ?_ | refine c_false rfl ?_ | refine c_skip ?_ | refine c_block ?_ | refine c_bnorm ?_ | refine c_bret ?_ | refine c_bexit rfl ?_ | refine c_bpass rfl ?_ | refine c_exit ?_ | refine c_cexit ?_ | refine c_lret ?_ | refine c_lexit ?_ | refine c_scope ?_ | refine c_label ?_ | refine c_snorm ?_ | refine c_sret ?_ | refine c_sexit ?_ | refine st_pv rfl rfl rfl rfl (fun _ => rfl) (show 0 ≤ (i : Int) ∧ (i : Int) < (es.length : Int) by omega) rfl (fun _ => rfl) ?_ | fail)
    exact c_lnorm [] (i + 1) hil (by show es.length - (i + 1) < es.length - i; omega) rfl ⟨Safe.fI_eq' ((St.wr64 (by omega) (by omega)).trans (by omega : (i : Int) + 1 = ((i + 1 : Nat) : Int))), rfl, rfl, rfl, rfl, rfl, trivial⟩ trivial rfl
  · have wt : vB (decide ((i : Int) < (es.length : Int))) = vB false := by rw [decide_eq_false (by omega)]
    repeat' (first | refine st_w 14 rfl rfl rfl rfl rfl (fun _ => rfl) wt (fun _ => rfl) ?_ | refine st_v rfl rfl rfl rfl (fun _ => rfl) rfl (fun _ => rfl) ?_ | refine st_skip rfl rfl rfl ?_ | refine st_b rfl rfl rfl rfl (fun _ => rfl) rfl (fun h1 => ?_) (fun h1 => ?_) | refine st_n rfl rfl rfl rfl (fun _ => rfl) rfl (fun _ => rfl) ?_ | refine st_s rfl rfl rfl rfl (fun _ => rfl) rfl (fun _ => rfl) ?_ | refine c_seq ?_ | refine c_region ?_ | refine c_plain rfl ?_ | refine c_drawn rfl (by kernel_rfl) ?_ | refine st_nil ?_ | refine c_norm ?_ | refine c_cret ?_ | refine c_ret ?_ | refine c_true rfl ?_ | refine c_false rfl ?_ | refine c_skip ?_ | refine c_block ?_ | refine c_bnorm ?_ | refine c_bret ?_ | refine c_bexit rfl ?_ | refine c_bpass rfl ?_ | refine c_exit ?_ | refine c_cexit ?_ | refine c_lret ?_ | refine c_lexit ?_ | refine c_scope ?_ | refine c_label ?_ | refine c_snorm ?_ | refine c_sret ?_ | refine c_sexit ?_ | fail)
    exact ⟨rfl, rfl, rfl, trivial⟩
end Sr
end Go.Proofs.YtpciieagafddcaaDoor.E
