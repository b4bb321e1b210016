/- Several ticks, walked by the engine (own text). -/
import Derived.Test.YtechgjbhgeddjaaDoorQsELM
namespace Go.Proofs.YtechgjbhgeddjaaDoor.E
open Go Go.RowKit Go.Proofs Go.Proofs.YtechgjbhgeddjaaDoorW.PrintWords Go.Proofs.YtechgjbhgeddjaaDoorW.PrintLast Go.Proofs.YtechgjbhgeddjaaDoorW.PrintMore Go.Proofs.YtechgjbhgeddjaaDoor.F
set_option linter.unusedVariables false
set_option linter.unusedSimpArgs false
set_option maxRecDepth 100000
set_option maxHeartbeats 8000000
attribute [local irreducible] acode callR
namespace St
theorem ret_run {T : TT} {s : AS} {rs : List ResultVar} {t t' ty id e : Nat} {cs l : List CV} {ti : TI} {fv : FV} {x : TV} {r : FV} (h0 : rs = [.cell t ty, .tmp t']) (h1 : look s.fr t = some (.t (.one (.ptr id 0)))) (h2 : look T ty = some ti) (h3 : blkOf s.hp (some id) = some (.var e cs)) (h4 : seg cs 0 ti.size = some l) (h5 : isAggD ti.d = true) (h6 : look s.fr t' = some fv) (h7 : fzF s.hp fv = .t x) (hr : FV.tup [.agg l, x] = r) : retF T s rs = some r := by
  subst h0
  unfold retF retVs retV retVs retV retVs
  simp only [h1, h2, h3, h4, h5, h6, h7, hr]
theorem fI_eqR {a b : Int} (h : a = b) : some (fI a) = some (fI b) := by rw [h]
theorem blk_eqR {hp : HP} {id : Nat} {ids : List Nat} {t t' : Sg} (h : look hp id = some (some ((Blk.var 24 (sgCells t)).ren ids))) (ht : t = t') : look hp id = some (some ((Blk.var 24 (sgCells t')).ren ids)) := by subst ht; exact h
theorem rows_succ (l : List S39) (i : Nat) (s : Sg) : PV.rowsN l (i + 1) s = PV.rowsN l i s ++ [PU.lampsB l (stage_tickB.f l (PV.tickN l i s))] := PV.rowsN_add l i 1 s
theorem tick_succ (l : List S39) (i : Nat) (s : Sg) : stage_tickB.f l (PV.tickN l i s) = PV.tickN l (i + 1) s := (PV.tickN_add l i 1 s).symm
theorem rows_at (l : List S39) (i : Nat) (s : Sg) : (PV.rowsN l (i + 1) s).getD i [] = PU.lampsB l (stage_tickB.f l (PV.tickN l i s)) := by
  rw [rows_succ, List.getD_eq_getElem?_getD, List.getElem?_append_right (by rw [PV.rowsN_len]; exact Nat.le_refl _), PV.rowsN_len, Nat.sub_self]
  rfl
theorem rows_below (l : List S39) {i j : Nat} (s : Sg) (h : j < i) : (PV.rowsN l (i + 1) s).getD j [] = (PV.rowsN l i s).getD j [] := by
  rw [rows_succ, List.getD_eq_getElem?_getD, List.getElem?_append_left (by rw [PV.rowsN_len]; exact h), List.getD_eq_getElem?_getD]
end St
open St
def SpRun : Spec := .pure fun a r => ∃ l s n t rows, PU.Wf s ∧ a = [fPls l, fSg s, fI n] ∧ r = fRun t rows ∧ ((∃ m : Nat, stage_mayB.f l s = true ∧ m ≤ 2000 ∧ n = (m : Int) ∧ t = PV.tickN l m s ∧ rows = PV.rowsN l m s) ∨ (¬ (stage_mayB.f l s = true ∧ 0 ≤ n ∧ n ≤ 2000) ∧ t = s ∧ rows = []))
theorem ΓRun : ΓOk Tryd.prog (look [(22, SpMay), (44, Ph.SpIn), (23, SpTick), (20, SpLamps)]) :=
  (((ΓOk.nil.cons lamps_ok Tryd.func20 (by kernel_rfl)).cons tick_ok Tryd.func23 (by kernel_rfl)).cons Ph.in_ok Tryd.func44 (by kernel_rfl)).cons may_ok Tryd.func22 (by kernel_rfl)
theorem run_ok : SpecOk Tryd.prog 17 SpRun := by
  refine spec_of_codeW TYok ΓRun mixed Tryd.func17 rfl ?_
  rintro args pre r post ⟨⟨l, s, n, t, rows, hw, rfl, rfl, hh⟩, rfl, rfl⟩
  refine ⟨rfl, ?_⟩
  rcases hh with ⟨m, hm, hm2, rfl, rfl, rfl⟩ | ⟨hno, rfl, rfl⟩
  · have hM := PU.may_of hw hm
    have hin : Ph.inB (m : Int) 0 2000 = true := by
      unfold Ph.inB
      rw [decide_eq_true (by omega), decide_eq_true (by omega)]
      rfl
    repeat' (first | refine st_v rfl rfl rfl rfl (fun _ => rfl) rfl (fun _ => rfl) ?_ | refine st_skip rfl rfl rfl ?_ | refine st_b rfl rfl rfl rfl (fun _ => rfl) rfl (fun h1 => ?_) (fun h1 => ?_) | refine st_n rfl rfl rfl rfl (fun _ => rfl) rfl (fun _ => rfl) ?_ | refine st_s rfl rfl rfl rfl (fun _ => rfl) rfl (fun _ => rfl) ?_ | refine c_seq ?_ | refine c_region ?_ | refine c_plain rfl ?_ | refine c_drawn rfl (by kernel_rfl) ?_ | refine st_nil ?_ | refine c_norm ?_ | refine c_cret ?_ | refine c_ret ?_ | refine c_true rfl ?_ | refine c_false rfl ?_ | refine c_skip ?_ | refine c_block ?_ | refine c_bnorm ?_ | refine c_bret ?_ | refine c_bexit rfl ?_ | refine c_bpass rfl ?_ | refine c_exit ?_ | refine c_cexit ?_ | refine c_lret ?_ | refine c_lexit ?_ | refine c_scope ?_ | refine c_label ?_ | refine c_snorm ?_ | refine c_sret ?_ | refine c_sexit ?_ | refine st_call rfl rfl rfl rfl rfl rfl rfl (call_v (vB true) rfl ⟨l, s, rfl, by rw [hm]⟩ rfl rfl rfl (cb_v rfl (fun _ => rfl) ?_)) | refine st_call rfl rfl rfl rfl rfl rfl rfl (call_v (vB true) rfl ⟨(m : Int), 0, 2000, rfl, by rw [hin]⟩ rfl rfl rfl (cb_v rfl (fun _ => rfl) ?_)) | fail)
    refine c_loop (fun x : Nat × (Nat → Nat → CV) => x.1 ≤ m ∧ ∀ j, j < x.1 → x.2 j 0 = cInts ((PV.rowsN l x.1 s).getD j []))
      (fun x => match x.1 with
        | 0 => [(20, fI 0), (19, fI (m : Int)), (8, .t (.one (.v (.slice none 0 0)))), (0, fPls l), (4, .t (.one (.ptr 0 0))), (6, .t (.one (.ptr 1 0)))]
        | i + 1 => [(20, fI ((i + 1 : Nat) : Int)), (19, fI (m : Int)), (8, .t (.one (.own 2))), (0, fPls l), (4, .t (.one (.ptr 0 0))), (6, .t (.one (.ptr 1 0)))])
      (fun x => match x.1 with
        | 0 => [(0, some (.var 24 (sgCells s))), (1, some (.var 24 (sgCells ⟨0, 0, 0, 0, 0, 0, 0, 0, 0, false⟩)))]
        | i + 1 => [(0, some (.var 24 (sgCells (PV.tickN l (i + 1) s)))), (1, some (.var 24 (sgCells ⟨0, 0, 0, 0, 0, 0, 0, 0, 0, false⟩))), (2, some (.row 32 (i + 1) 1 x.2))])
      (fun x => m - x.1) [0, 1, 100000] (0, fun _ _ => default) ⟨Nat.zero_le _, fun j hj => absurd hj (Nat.not_lt_zero j)⟩ rfl ⟨rfl, rfl, rfl, rfl, rfl, rfl, rfl, rfl, rfl, rfl, rfl, rfl, trivial⟩ ⟨⟨rfl, rfl, rfl⟩, ⟨rfl, rfl, rfl⟩, trivial⟩ rfl (fun x hx => ?_)
    obtain ⟨i, el⟩ := x
    obtain ⟨hi, hel⟩ := hx
    have hMi := PV.tickN_may i hM
    have hMi2 := PV.tickN_may (i + 1) hM
    cases i with
    | zero =>
      repeat' (first | refine st_v rfl rfl rfl rfl (fun _ => rfl) rfl (fun _ => rfl) ?_ | refine st_skip rfl rfl rfl ?_ | refine st_b rfl rfl rfl rfl (fun _ => rfl) rfl (fun h1 => ?_) (fun h1 => ?_) | refine st_n rfl rfl rfl rfl (fun _ => rfl) rfl (fun _ => rfl) ?_ | refine st_s rfl rfl rfl rfl (fun _ => rfl) rfl (fun _ => rfl) ?_ | refine c_seq ?_ | refine c_region ?_ | refine c_plain rfl ?_ | refine c_drawn rfl (by kernel_rfl) ?_ | refine st_nil ?_ | refine c_norm ?_ | refine c_cret ?_ | refine c_ret ?_ | refine c_true rfl ?_ | refine c_false rfl ?_ | refine c_skip ?_ | refine c_block ?_ | refine c_bnorm ?_ | refine c_bret ?_ | refine c_bexit rfl ?_ | refine c_bpass rfl ?_ | refine c_exit ?_ | refine c_cexit ?_ | refine c_lret ?_ | refine c_lexit ?_ | refine c_scope ?_ | refine c_label ?_ | refine c_snorm ?_ | refine c_sret ?_ | refine c_sexit ?_ | refine st_call rfl rfl rfl rfl rfl rfl rfl (call_v (fSg (stage_tickB.f l s)) rfl ⟨l, s, hw, rfl, rfl⟩ rfl rfl rfl (cb_v rfl (fun _ => rfl) ?_)) | refine st_call rfl rfl rfl rfl rfl rfl rfl (call_s (fInts (PU.lampsB l (stage_tickB.f l s))) rfl ⟨l, stage_tickB.f l s, hMi2.wf, rfl, rfl⟩ rfl rfl rfl rfl (cb_v rfl (fun _ => rfl) ?_)) | refine st_pn rfl rfl rfl rfl (fun _ => rfl) (by show 1 * 24 ≤ 140737488355328; omega) rfl (fun _ => rfl) ?_ | fail)
      · have h1m : 0 < m := by have := of_decide_eq_true (by assumption : decide ((0 : Int) < (m : Int)) = true); omega
        refine c_lnorm [0, 1, 13] (0 + 1, _) ?_ (by show m - 1 < m - 0; omega) rfl ⟨fI_eqR (St.wr64 (by omega) (by omega)), rfl, rfl, rfl, rfl, rfl, rfl, rfl, rfl, rfl, rfl, rfl, trivial⟩ ⟨⟨blk_eqR (t := stage_tickB.f l s) rfl (tick_succ l 0 s), rfl, rfl⟩, ⟨rfl, rfl, rfl⟩, ⟨rfl, rfl, rfl⟩, trivial⟩ rfl
        refine ⟨h1m, fun j hj => ?_⟩
        have hj : j < 1 := hj
        obtain rfl : j = 0 := by omega
        exact (congrArg cInts (rows_at l 0 s)).symm
      · have h1m : ¬ ((0 : Int) < (m : Int)) := of_decide_eq_false (by assumption)
        obtain rfl : m = 0 := by omega
        exact ⟨_, fun c y h => run_weak0 h (show _ = sgCells s from rfl), ret_run rfl rfl rfl rfl rfl rfl rfl rfl rfl, rfl, rfl, trivial⟩
    | succ i =>
      repeat' (first | refine st_v rfl rfl rfl rfl (fun _ => rfl) rfl (fun _ => rfl) ?_ | refine st_skip rfl rfl rfl ?_ | refine st_b rfl rfl rfl rfl (fun _ => rfl) rfl (fun h1 => ?_) (fun h1 => ?_) | refine st_n rfl rfl rfl rfl (fun _ => rfl) rfl (fun _ => rfl) ?_ | refine st_s rfl rfl rfl rfl (fun _ => rfl) rfl (fun _ => rfl) ?_ | refine c_seq ?_ | refine c_region ?_ | refine c_plain rfl ?_ | refine c_drawn rfl (by kernel_rfl) ?_ | refine st_nil ?_ | refine c_norm ?_ | refine c_cret ?_ | refine c_ret ?_ | refine c_true rfl ?_ | refine c_false rfl ?_ | refine c_skip ?_ | refine c_block ?_ | refine c_bnorm ?_ | refine c_bret ?_ | refine c_bexit rfl ?_ | refine c_bpass rfl ?_ | refine c_exit ?_ | refine c_cexit ?_ | refine c_lret ?_ | refine c_lexit ?_ | refine c_scope ?_ | refine c_label ?_ | refine c_snorm ?_ | refine c_sret ?_ | refine c_sexit ?_ | refine st_call rfl rfl rfl rfl rfl rfl rfl (call_v (fSg (stage_tickB.f l (PV.tickN l (i + 1) s))) rfl ⟨l, PV.tickN l (i + 1) s, hMi.wf, rfl, rfl⟩ rfl rfl rfl (cb_v rfl (fun _ => rfl) ?_)) | refine st_call rfl rfl rfl rfl rfl rfl rfl (call_s (fInts (PU.lampsB l (stage_tickB.f l (PV.tickN l (i + 1) s)))) rfl ⟨l, stage_tickB.f l (PV.tickN l (i + 1) s), (PU.tick_may hMi).wf, rfl, rfl⟩ rfl rfl rfl rfl (cb_v rfl (fun _ => rfl) ?_)) | refine st_pn2 rfl rfl rfl rfl (fun _ => rfl) (by show (i + 1) + 1 ≤ 9223372036854775807 ∧ ((i + 1) + 1) * 24 ≤ 140737488355328; omega) rfl (fun _ => rfl) ?_ | fail)
      · have h1m : i + 1 < m := by have := of_decide_eq_true (by assumption : decide (((i + 1 : Nat) : Int) < (m : Int)) = true); omega
        refine c_lnorm [0, 1, 13] (i + 1 + 1, _) ?_ (by show m - (i + 1 + 1) < m - (i + 1); omega) rfl ⟨fI_eqR ((St.wr64 (by omega) (by omega)).trans (by omega : ((i + 1 : Nat) : Int) + 1 = ((i + 1 + 1 : Nat) : Int))), rfl, rfl, rfl, rfl, rfl, rfl, rfl, rfl, rfl, rfl, rfl, trivial⟩ ⟨⟨blk_eqR (t := stage_tickB.f l (PV.tickN l (i + 1) s)) rfl (tick_succ l (i + 1) s), rfl, rfl⟩, ⟨rfl, rfl, rfl⟩, ⟨rfl, rfl, rfl⟩, trivial⟩ rfl
        refine ⟨h1m, fun j hj => ?_⟩
        have hj : j < i + 1 + 1 := hj
        by_cases hj1 : j < i + 1
        · refine Eq.trans ?_ (congrArg cInts (rows_below l s hj1)).symm
          exact (if_pos hj1).trans (hel j hj1)
        · obtain rfl : j = i + 1 := by omega
          refine Eq.trans ?_ (congrArg cInts (rows_at l (i + 1) s)).symm
          refine (if_neg hj1).trans ?_
          rw [Nat.sub_self]
          rfl
      · have h1m : ¬ (((i + 1 : Nat) : Int) < (m : Int)) := of_decide_eq_false (by assumption)
        have hi : i + 1 ≤ m := hi
        obtain rfl : m = i + 1 := by omega
        exact ⟨_, fun c y h => run_weak h (show _ = sgCells (PV.tickN l (i + 1) s) from rfl) (PV.rowsN_len l (i + 1) s).symm (fun j hj => hel j hj), ret_run rfl rfl rfl rfl rfl rfl rfl rfl rfl, rfl, rfl, trivial⟩
  · repeat' (first | refine st_v rfl rfl rfl rfl (fun _ => rfl) rfl (fun _ => rfl) ?_ | refine st_skip rfl rfl rfl ?_ | refine st_b rfl rfl rfl rfl (fun _ => rfl) rfl (fun h1 => ?_) (fun h1 => ?_) | refine st_n rfl rfl rfl rfl (fun _ => rfl) rfl (fun _ => rfl) ?_ | refine st_s rfl rfl rfl rfl (fun _ => rfl) rfl (fun _ => rfl) ?_ | refine c_seq ?_ | refine c_region ?_ | refine c_plain rfl ?_ | refine c_drawn rfl (by kernel_rfl) ?_ | refine st_nil ?_ | refine c_norm ?_ | refine c_cret ?_ | refine c_ret ?_ | refine c_true rfl ?_ | refine c_false rfl ?_ | refine c_skip ?_ | refine c_block ?_ | refine c_bnorm ?_ | refine c_bret ?_ | refine c_bexit rfl ?_ | refine c_bpass rfl ?_ | refine c_exit ?_ | refine c_cexit ?_ | refine c_lret ?_ | refine c_lexit ?_ | refine c_scope ?_ | refine c_label ?_ | refine c_snorm ?_ | refine c_sret ?_ | refine c_sexit ?_ | refine st_call rfl rfl rfl rfl rfl rfl rfl (call_v (vB (stage_mayB.f l t)) rfl ⟨l, t, rfl, rfl⟩ rfl rfl rfl (cb_b rfl (fun h1 => ?_) (fun h1 => ?_))) | refine st_call rfl rfl rfl rfl rfl rfl rfl (call_v (vB (Ph.inB n 0 2000)) rfl ⟨n, 0, 2000, rfl, rfl⟩ rfl rfl rfl (cb_b rfl (fun h1 => ?_) (fun h1 => ?_))) | fail)
    all_goals first
      | exact ⟨_, fun c y h => run_weak0 h (show _ = sgCells t from rfl), ret_run rfl rfl rfl rfl rfl rfl rfl rfl rfl, rfl, rfl, trivial⟩
      | (exfalso
         have h2 : Ph.inB n 0 2000 = true := by assumption
         unfold Ph.inB at h2
         simp only [Bool.and_eq_true, decide_eq_true_eq] at h2
         exact hno ⟨by assumption, h2.1, h2.2⟩)
end Go.Proofs.YtechgjbhgeddjaaDoor.E
