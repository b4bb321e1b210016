/- Whether plans of the document's layer 14 fit, walked by the engine (own text). -/
import Derived.Test.YtpciieagafddcaaDoorQjEC
import Derived.Test.YtpciieagafddcaaDoorQjF14
import Derived.Test.YtpciieagafddcaaDoorQjRF
namespace Go.Proofs.YtpciieagafddcaaDoor.E
open Go Go.RowKit Go.Proofs Go.Proofs.YtpciieagafddcaaDoorW.PrintWords Go.Proofs.YtpciieagafddcaaDoorW.PrintLast Go.Proofs.YtpciieagafddcaaDoorW.PrintMore Go.Proofs.YtpciieagafddcaaDoor.F
set_option linter.unusedVariables false
set_option linter.unusedSimpArgs false
set_option maxRecDepth 100000
set_option maxHeartbeats 8000000
attribute [local irreducible] acode callR
namespace Ref
open St
def SpFit14 : Spec := .pure fun a r => ∃ p, a = [fPl p] ∧ r = vB (St.fitB p)
theorem fit14_ok : SpecOk Tryd.prog 50 SpFit14 := by
  rintro args pre r post ⟨⟨p, rfl, rfl⟩, rfl, rfl⟩ c ys hgl hy hI hZ hpre hdj
  match ys, hy with
  | [y], ⟨hy, _⟩ =>
    obtain ⟨A0, c0, A1, c1, rfl, h0, h1, h2, h3⟩ := pl_val hy
    obtain ⟨k, hk⟩ := (RF.rfit_ev p.f0 p.f1 p.f2 p.f3 p.f4).rounds
    exact (pelicanref14_Fit.calls k A0 c0 p.f0 A1 c1 p.f1 p.f2 p.f3 p.f4 _ c.w h1 h0 h3 h2 hk).mono fun e w' ⟨he, hb⟩ => by
      subst he
      exact ends_of hI hb ⟨rfl, rfl⟩
theorem Γ14 : ΓOk Tryd.prog (look [(50, SpFit14)]) := ΓOk.nil.cons fit14_ok Tryd.func50 (by kernel_rfl)
theorem rd_getD (l : List S25) (k : Nat) : rd_T25 l (k : Int) = l.getD k z25 := by
  by_cases h : k < l.length
  · simp [rd_T25, h]
  · simp [rd_T25, h, List.getD_eq_getElem?_getD]
theorem allB_iff (l : List S25) : PU.allB l = true ↔ (1 ≤ l.length ∧ l.length ≤ 3) ∧ ∀ j, j < l.length → St.fitB (l.getD j z25) = true ∧ (l.getD j z25).f0.length = (l.getD 0 z25).f0.length := by
  have e0 : rd_T25 l 0 = l.getD 0 z25 := rd_getD l 0
  have hb : ∀ p, plan_badB.f (l.getD 0 z25).f0.length p = false ↔ St.fitB p = true ∧ p.f0.length = (l.getD 0 z25).f0.length := fun p => by
    unfold plan_badB.f St.fitB
    simp
  unfold PU.allB
  rw [e0, Bool.and_eq_true, decide_eq_true_eq, Bool.not_eq_true', List.any_eq_false]
  refine and_congr_right fun _ => ⟨fun h j hj => ?_, fun h p hp => ?_⟩
  · have := h (l.getD j z25) (by rw [List.getD_eq_getElem?_getD, List.getElem?_eq_getElem hj]; exact List.getElem_mem hj)
    exact (hb _).1 (by simpa using this)
  · obtain ⟨j, hj, rfl⟩ := List.getElem_of_mem hp
    have := (hb _).2 (h j hj)
    rw [List.getD_eq_getElem?_getD (i := j), List.getElem?_eq_getElem hj] at this
    simpa using this
theorem allB_no {l : List S25} (h : ¬ ((1 ≤ l.length ∧ l.length ≤ 3) ∧ ∀ j, j < l.length → St.fitB (l.getD j z25) = true ∧ (l.getD j z25).f0.length = (l.getD 0 z25).f0.length)) : false = PU.allB l := by
  cases hb : PU.allB l with
  | false => rfl
  | true => exact absurd ((allB_iff l).1 hb) h
theorem fI_eqA {a b : Int} (h : a = b) : some (fI a) = some (fI b) := by rw [h]
theorem wrA {x : Int} (h0 : -9223372036854775808 ≤ x) (h1 : x ≤ 9223372036854775807) : IntKind.i64.wrap x = x := (i64_w x).trans (PG.wr h0 h1)
def SpAll : Spec := .pure fun a r => ∃ l, a = [fPls l] ∧ r = vB (PU.allB l)
theorem all_ok : SpecOk Tryd.prog 100 SpAll := by
  refine spec_of_code TYok Γ14 mixed Tryd.func100 rfl ?_
  rintro args pre r post ⟨⟨l, rfl, rfl⟩, rfl, rfl⟩
  refine ⟨rfl, ?_⟩
  repeat' (first | refine st_v rfl rfl rfl rfl (fun _ => rfl) rfl (fun _ => rfl) ?_ | refine st_skip rfl rfl rfl ?_ | refine st_b rfl rfl rfl rfl (fun _ => rfl) rfl (fun h1 => ?_) (fun h1 => ?_) | refine st_n rfl rfl rfl rfl (fun _ => rfl) rfl (fun _ => rfl) ?_ | refine st_s rfl rfl rfl rfl (fun _ => rfl) rfl (fun _ => rfl) ?_ | refine c_seq ?_ | refine c_region ?_ | refine c_plain rfl ?_ | refine c_drawn rfl (by kernel_rfl) ?_ | refine st_nil ?_ | refine c_norm ?_ | refine c_cret ?_ | refine c_ret ?_ | refine c_true rfl ?_ | refine c_false rfl ?_ | refine c_skip ?_ | refine c_block ?_ | refine c_bnorm ?_ | refine c_bret ?_ | refine c_bexit rfl ?_ | refine c_bpass rfl ?_ | refine c_exit ?_ | refine c_cexit ?_ | refine c_lret ?_ | refine c_lexit ?_ | refine c_scope ?_ | refine c_label ?_ | refine c_snorm ?_ | refine c_sret ?_ | refine c_sexit ?_ | fail)
  · have h1 : (l.length : Int) < 1 := of_decide_eq_true (by assumption)
    exact ⟨ret_b (allB_no (fun h => by omega)), rfl, rfl, trivial⟩
  · have h1 : (l.length : Int) > 3 := of_decide_eq_true (by assumption)
    exact ⟨ret_b (allB_no (fun h => by omega)), rfl, rfl, trivial⟩
  have g1 : ¬ (l.length : Int) < 1 := of_decide_eq_false (by assumption)
  have g3 : ¬ (l.length : Int) > 3 := of_decide_eq_false (by assumption)
  refine c_loop (fun i : Nat => i ≤ l.length ∧ ∀ j, j < i → St.fitB (l.getD j z25) = true ∧ (l.getD j z25).f0.length = (l.getD 0 z25).f0.length) (fun i => [(3, fI (i : Int)), (0, fPls l)]) (fun _ => []) (fun i => l.length - i) [] 0 ⟨Nat.zero_le _, fun j hj => absurd hj (Nat.not_lt_zero j)⟩ rfl ⟨rfl, rfl, rfl, rfl, trivial⟩ trivial rfl (fun i hi => ?_)
  obtain ⟨hi, hall⟩ := hi
  obtain ⟨b, hb⟩ : ∃ b, St.fitB (l.getD i z25) = b := ⟨_, rfl⟩
  repeat' (first | refine st_v rfl rfl rfl rfl (fun _ => rfl) rfl (fun _ => rfl) ?_ | refine st_skip rfl rfl rfl ?_ | refine st_b rfl rfl rfl rfl (fun _ => rfl) rfl (fun h1 => ?_) (fun h1 => ?_) | refine st_n rfl rfl rfl rfl (fun _ => rfl) rfl (fun _ => rfl) ?_ | refine st_s rfl rfl rfl rfl (fun _ => rfl) rfl (fun _ => rfl) ?_ | refine c_seq ?_ | refine c_region ?_ | refine c_plain rfl ?_ | refine c_drawn rfl (by kernel_rfl) ?_ | refine st_nil ?_ | refine c_norm ?_ | refine c_cret ?_ | refine c_ret ?_ | refine c_true rfl ?_ | refine c_false rfl ?_ | refine c_skip ?_ | refine c_block ?_ | refine c_bnorm ?_ | refine c_bret ?_ | refine c_bexit rfl ?_ | refine c_bpass rfl ?_ | refine c_exit ?_ | refine c_cexit ?_ | refine c_lret ?_ | refine c_lexit ?_ | refine c_scope ?_ | refine c_label ?_ | refine c_snorm ?_ | refine c_sret ?_ | refine c_sexit ?_ | refine st_call rfl rfl rfl rfl rfl rfl rfl (call_v (vB b) rfl ⟨l.getD i z25, rfl, by rw [hb]⟩ rfl rfl rfl (cb_b rfl (fun h1 => ?_) (fun h1 => ?_))) | refine st_pv rfl rfl rfl rfl (fun _ => rfl) (by clear hall; simp only [decide_eq_true_eq] at *; omega) rfl (fun _ => rfl) ?_ | fail)
  · have hil : i < l.length := by have := of_decide_eq_true (by assumption : decide ((i : Int) < (l.length : Int)) = true); omega
    have hn : (((l.getD i z25).f0.length : Int) != ((l.getD 0 z25).f0.length : Int)) = true := by assumption
    exact ⟨ret_b (allB_no (fun h => bne_iff_ne.1 hn (by rw [(h.2 i hil).2]))), rfl, rfl, trivial⟩
  · have hil : i < l.length := by have := of_decide_eq_true (by assumption : decide ((i : Int) < (l.length : Int)) = true); omega
    have hn : (((l.getD i z25).f0.length : Int) != ((l.getD 0 z25).f0.length : Int)) = false := by assumption
    have hbt : b = true := by assumption
    refine c_lnorm [] (i + 1) ⟨hil, fun j hj => ?_⟩ (by show l.length - (i + 1) < l.length - i; omega) rfl ⟨fI_eqA ((wrA (by omega) (by omega)).trans (by omega : (i : Int) + 1 = ((i + 1 : Nat) : Int))), rfl, rfl, rfl, trivial⟩ trivial rfl
    by_cases e : j = i
    · rw [e]
      exact ⟨by rw [hb, hbt], by have := bne_eq_false_iff_eq.1 hn; omega⟩
    · exact hall j (by omega)
  · have hil : i < l.length := by have := of_decide_eq_true (by assumption : decide ((i : Int) < (l.length : Int)) = true); omega
    have hbf : b = false := by assumption
    exact ⟨ret_b (allB_no (fun h => by have := (h.2 i hil).1; rw [hb, hbf] at this; cases this)), rfl, rfl, trivial⟩
  · have hil : ¬ (i : Int) < (l.length : Int) := of_decide_eq_false (by assumption)
    exact ⟨ret_b ((allB_iff l).2 ⟨⟨by omega, by omega⟩, fun j hj => hall j (by omega)⟩).symm, rfl, rfl, trivial⟩
end Ref
end Go.Proofs.YtpciieagafddcaaDoor.E
