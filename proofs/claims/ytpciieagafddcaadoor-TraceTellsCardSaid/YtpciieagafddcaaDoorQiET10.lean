/- How few there are, walked by the engine (own text). -/
import Derived.Test.YtpciieagafddcaaDoorQiET9
namespace Go.Proofs.YtpciieagafddcaaDoor.E
open Go Go.RowKit Go.Proofs Go.Proofs.YtpciieagafddcaaDoorW.PrintWords Go.Proofs.YtpciieagafddcaaDoorW.PrintLast Go.Proofs.YtpciieagafddcaaDoorW.PrintMore Go.Proofs.YtpciieagafddcaaDoor.F
set_option linter.unusedVariables false
set_option linter.unusedSimpArgs false
set_option maxRecDepth 100000
set_option maxHeartbeats 8000000
attribute [local irreducible] acode callR
namespace Tr
open St Rw
open PY (longB)
open PX (fitP clashP cell beg leastF leastB nextB soonB groupB groupsB rowB fromB checkB RowOk onB Betw LeastI ClearIs)
def few14 (p : S25) : Bool := decide (p.f0.length ≤ 10 ∧ p.f1.length ≤ 10)
def SpFew14 : Spec := .pure fun a r => ∃ p, a = [fPl p] ∧ r = vB (few14 p)
theorem few14_ok : SpecOk Tryd.prog 16 SpFew14 := by
  rintro args pre r post ⟨⟨p, rfl, rfl⟩, rfl, rfl⟩ c ys hgl hy hI hZ hpre hdj
  match ys, hy with
  | [y], ⟨hy, _⟩ =>
    obtain ⟨A0, c0, A1, c1, rfl, h0, h1, h2, h3⟩ := pl_val hy
    exact (pelicanlaw14_Few.calls A0 c0 p.f0 A1 c1 p.f1 p.f2 p.f3 p.f4 _ c.w h1 h0 h3 h2 (PQ.few_f _ _ _ _ _)).mono fun e w' ⟨he, hb⟩ => by
      subst he
      exact ends_of hI hb ⟨rfl, rfl⟩
def few23 (rows : List (List Int)) : Bool := decide (rows.length ≤ 80 ∧ ∀ i, i < rows.length → (rows.getD i []).length ≤ 20)
theorem few23_of {rows : List (List Int)} (h : few23 rows = true) : rows.length ≤ 80 ∧ ∀ i, (rows.getD i []).length ≤ 20 := by
  obtain ⟨h1, h2⟩ := of_decide_eq_true h
  refine ⟨h1, fun i => ?_⟩
  by_cases hi : i < rows.length
  · exact h2 i hi
  · rw [List.getD_eq_getElem?_getD, List.getElem?_eq_none (by omega)]
    exact Nat.zero_le _
def SpFew23 : Spec := .pure fun a r => ∃ rows, a = [fRows rows, fI 80] ∧ r = vB (few23 rows)
theorem few23_ok : SpecOk Tryd.prog 17 SpFew23 := by
  refine spec_of_code TZok ΓOk.nil mixed Tryd.func17 rfl ?_
  rintro args pre r post ⟨⟨rows, rfl, rfl⟩, rfl, rfl⟩
  refine ⟨rfl, ?_⟩
  repeat' (first | refine st_v rfl rfl rfl rfl (fun _ => rfl) rfl (fun _ => rfl) ?_ | refine st_skip rfl rfl rfl ?_ | refine st_b rfl rfl rfl rfl (fun _ => rfl) rfl (fun h1 => ?_) (fun h1 => ?_) | refine st_n rfl rfl rfl rfl (fun _ => rfl) rfl (fun _ => rfl) ?_ | refine st_s rfl rfl rfl rfl (fun _ => rfl) rfl (fun _ => rfl) ?_ | refine c_seq ?_ | refine c_region ?_ | refine c_plain rfl ?_ | refine c_drawn rfl (by kernel_rfl) ?_ | refine st_nil ?_ | refine c_norm ?_ | refine c_cret ?_ | refine c_ret ?_ | refine c_true rfl ?_ | refine c_false rfl ?_ | refine c_skip ?_ | refine c_block ?_ | refine c_bnorm ?_ | refine c_bret ?_ | refine c_bexit rfl ?_ | refine c_bpass rfl ?_ | refine c_exit ?_ | refine c_cexit ?_ | refine c_lret ?_ | refine c_lexit ?_ | refine c_scope ?_ | refine c_label ?_ | refine c_snorm ?_ | refine c_sret ?_ | refine c_sexit ?_ | fail)
  refine c_loop (fun i : Nat => i ≤ rows.length ∧ i ≤ 81 ∧ ∀ j, j < i → (rows.getD j []).length ≤ 20) (fun i => [(5, fI (i : Int)), (0, fRows rows), (1, fI 80)]) (fun _ => []) (fun i => rows.length - i) [] 0 ⟨Nat.zero_le _, by omega, fun j hj => absurd hj (Nat.not_lt_zero j)⟩ rfl ⟨rfl, rfl, rfl, rfl, rfl, rfl, trivial⟩ trivial rfl (fun i hi => ?_)
  obtain ⟨hi, hi2, hall⟩ := hi
  by_cases hil : i < rows.length ∧ i ≤ 80
  case neg =>
    have hend : decide ((rows.length : Int) ≤ 80) = few23 rows := by
      unfold few23
      by_cases h8 : rows.length ≤ 80
      · rw [decide_eq_true (by omega)]
        exact (decide_eq_true ⟨h8, fun j hj => hall j (by omega)⟩).symm
      · rw [decide_eq_false (by omega)]
        exact (decide_eq_false (fun hx => h8 hx.1)).symm
    have we : vB (decide ((rows.length : Int) ≤ 80)) = vB (few23 rows) := by rw [hend]
    by_cases hl : i < rows.length
    · have wt : vB (decide ((i : Int) < (rows.length : Int))) = vB true := by rw [decide_eq_true (by omega)]
      have w8 : vB (decide ((i : Int) ≤ 80)) = vB false := by rw [decide_eq_false (by omega)]
      repeat' (first | refine st_w 9 rfl rfl rfl rfl rfl (fun _ => rfl) wt (fun _ => rfl) ?_ | refine st_w 13 rfl rfl rfl rfl rfl (fun _ => rfl) w8 (fun _ => rfl) ?_ | refine st_wb 26 rfl rfl rfl rfl rfl (fun _ => rfl) hend (fun h1 => ?_) (fun h1 => ?_) | refine st_v rfl rfl rfl rfl (fun _ => rfl) rfl (fun _ => rfl) ?_ | refine st_skip rfl rfl rfl ?_ | refine st_b rfl rfl rfl rfl (fun _ => rfl) rfl (fun h1 => ?_) (fun h1 => ?_) | refine st_n rfl rfl rfl rfl (fun _ => rfl) rfl (fun _ => rfl) ?_ | refine st_s rfl rfl rfl rfl (fun _ => rfl) rfl (fun _ => rfl) ?_ | refine c_seq ?_ | refine c_region ?_ | refine c_plain rfl ?_ | refine c_drawn rfl (by kernel_rfl) ?_ | refine st_nil ?_ | refine c_norm ?_ | refine c_cret ?_ | refine c_ret ?_ | refine c_true rfl ?_ | refine c_false rfl ?_ | refine c_skip ?_ | refine c_block ?_ | refine c_bnorm ?_ | refine c_bret ?_ | refine c_bexit rfl ?_ | refine c_bpass rfl ?_ | refine c_exit ?_ | refine c_cexit ?_ | refine c_lret ?_ | refine c_lexit ?_ | refine c_scope ?_ | refine c_label ?_ | refine c_snorm ?_ | refine c_sret ?_ | refine c_sexit ?_ | fail)
      all_goals exact ⟨ret_b (Eq.symm (by assumption)), rfl, rfl, trivial⟩
    · have wt : vB (decide ((i : Int) < (rows.length : Int))) = vB false := by rw [decide_eq_false (by omega)]
      repeat' (first | refine st_w 9 rfl rfl rfl rfl rfl (fun _ => rfl) wt (fun _ => rfl) ?_ | refine st_wb 26 rfl rfl rfl rfl rfl (fun _ => rfl) hend (fun h1 => ?_) (fun h1 => ?_) | refine st_v rfl rfl rfl rfl (fun _ => rfl) rfl (fun _ => rfl) ?_ | refine st_skip rfl rfl rfl ?_ | refine st_b rfl rfl rfl rfl (fun _ => rfl) rfl (fun h1 => ?_) (fun h1 => ?_) | refine st_n rfl rfl rfl rfl (fun _ => rfl) rfl (fun _ => rfl) ?_ | refine st_s rfl rfl rfl rfl (fun _ => rfl) rfl (fun _ => rfl) ?_ | refine c_seq ?_ | refine c_region ?_ | refine c_plain rfl ?_ | refine c_drawn rfl (by kernel_rfl) ?_ | refine st_nil ?_ | refine c_norm ?_ | refine c_cret ?_ | refine c_ret ?_ | refine c_true rfl ?_ | refine c_false rfl ?_ | refine c_skip ?_ | refine c_block ?_ | refine c_bnorm ?_ | refine c_bret ?_ | refine c_bexit rfl ?_ | refine c_bpass rfl ?_ | refine c_exit ?_ | refine c_cexit ?_ | refine c_lret ?_ | refine c_lexit ?_ | refine c_scope ?_ | refine c_label ?_ | refine c_snorm ?_ | refine c_sret ?_ | refine c_sexit ?_ | fail)
      all_goals exact ⟨ret_b (Eq.symm (by assumption)), rfl, rfl, trivial⟩
  obtain ⟨hil, hi8⟩ := hil
  have wt : vB (decide ((i : Int) < (rows.length : Int))) = vB true := by rw [decide_eq_true (by omega)]
  have w8 : vB (decide ((i : Int) ≤ 80)) = vB true := by rw [decide_eq_true (by omega)]
  repeat' (first | refine st_w 9 rfl rfl rfl rfl rfl (fun _ => rfl) wt (fun _ => rfl) ?_ | refine st_w 13 rfl rfl rfl rfl rfl (fun _ => rfl) w8 (fun _ => rfl) ?_ | refine st_v rfl rfl rfl rfl (fun _ => rfl) rfl (fun _ => rfl) ?_ | refine st_skip rfl rfl rfl ?_ | refine st_b rfl rfl rfl rfl (fun _ => rfl) rfl (fun h1 => ?_) (fun h1 => ?_) | refine st_n rfl rfl rfl rfl (fun _ => rfl) rfl (fun _ => rfl) ?_ | refine st_s rfl rfl rfl rfl (fun _ => rfl) rfl (fun _ => rfl) ?_ | refine c_seq ?_ | refine c_region ?_ | refine c_plain rfl ?_ | refine c_drawn rfl (by kernel_rfl) ?_ | refine st_nil ?_ | refine c_norm ?_ | refine c_cret ?_ | refine c_ret ?_ | refine c_true rfl ?_ | refine c_false rfl ?_ | refine c_skip ?_ | refine c_block ?_ | refine c_bnorm ?_ | refine c_bret ?_ | refine c_bexit rfl ?_ | refine c_bpass rfl ?_ | refine c_exit ?_ | refine c_cexit ?_ | refine c_lret ?_ | refine c_lexit ?_ | refine c_scope ?_ | refine c_label ?_ | refine c_snorm ?_ | refine c_sret ?_ | refine c_sexit ?_ | refine st_pv rfl rfl rfl rfl (fun _ => rfl) (show 0 ≤ (i : Int) ∧ (i : Int) < (rows.length : Int) by omega) rfl (fun _ => rfl) ?_ | fail)
  · have hq : decide (((rows.getD i []).length : Int) > 20) = true := by assumption
    exact ⟨ret_b (decide_eq_false (fun hx => by have := hx.2 i hil; have := of_decide_eq_true hq; omega)).symm, rfl, rfl, trivial⟩
  · have hq : decide (((rows.getD i []).length : Int) > 20) = false := by assumption
    exact c_lnorm [] (i + 1) ⟨hil, by omega, fun j hj => if e : j = i then by rw [e]; have := of_decide_eq_false hq; omega else hall j (by omega)⟩ (by show rows.length - (i + 1) < rows.length - i; omega) rfl ⟨tk_eq ((St.wr64 (by omega) (by omega)).trans (by omega : (i : Int) + 1 = ((i + 1 : Nat) : Int))), rfl, rfl, rfl, rfl, rfl, trivial⟩ trivial rfl
theorem eqF_self {a b c : Int} {us vs : List Value} (hu : us = [.int .i64 a, .int .i64 b, .int .i64 c]) (hv : vs = us) : vB (eqV us vs) = vB true := by
  subst hv hu
  simp [eqV]
theorem C_rows {w : World} {l : List (List Int)} {A : Option Addr} {c : Nat} (hc : l.length ≤ c) (h : Kd.C (Kd.slice 3 (Kd.int .i64)) w A l.length l) : (cRows l).S w (Old w) (.slice A l.length c) :=
  S_of_C (d := Kd.slice 3 (Kd.int .i64)) old_I (fun i x hx us hK j u hu => by
    obtain ⟨A0, c0, rfl, h0, h1⟩ := hK
    rw [getD_some hx]
    match j, hu with
    | 0, hu => cases hu; exact C_int old_I h0 h1) hc h
end Tr
end Go.Proofs.YtpciieagafddcaaDoor.E
