/- TraceTells walked by the engine (own text). -/
import Derived.Test.YtpciieagafddcaaDoorQiET11
import Derived.Test.YtpciieagafddcaaDoorQiET5
import Derived.Test.YtpciieagafddcaaDoorQiET6
import Derived.Test.YtpciieagafddcaaDoorQiF9
namespace Go.Proofs.YtpciieagafddcaaDoor.E
open Go Go.RowKit Go.Proofs Go.Proofs.YtpciieagafddcaaDoorW.PrintWords Go.Proofs.YtpciieagafddcaaDoorW.PrintLast Go.Proofs.YtpciieagafddcaaDoorW.PrintMore Go.Proofs.YtpciieagafddcaaDoor.F
set_option linter.unusedVariables false
set_option linter.unusedSimpArgs false
set_option maxRecDepth 100000
set_option maxHeartbeats 8000000
attribute [local irreducible] acode callR
namespace TrTraceTells
open Tr
open St Rw
open PY (longB)
open PX (fitP clashP cell beg leastF leastB nextB soonB groupB groupsB rowB fromB checkB RowOk onB Betw LeastI ClearIs)
def SpSame : Spec := .pure fun a r => ∃ l, l.length ≤ 2000 ∧ a = [fInts l, fInts l] ∧ r = vB true
theorem same_ok : SpecOk Tryd.prog 18 SpSame := by
  rintro args pre r post ⟨⟨l, hl, rfl, rfl⟩, rfl, rfl⟩ c ys hgl hy hI hZ hpre hdj
  match ys, hy with
  | [y, z], ⟨hy, hz, _⟩ =>
    have h1 : (cInts l).S c.w c.I y := hy.1
    have h2 : (cInts l).S c.w c.I z := hz.1
    obtain ⟨A, n, rfl⟩ := S_slice h1
    obtain ⟨A', n', rfl⟩ := S_slice h2
    have h1 := int_C h1
    have h2 := int_C h2
    obtain ⟨k, hk⟩ := PG.ints_ev l l (by omega)
    have hk : pelicanref05_Ints.f k l l = some true := (hk k (Nat.le_refl k)).trans (by rw [decide_eq_true rfl])
    exact (pelicanref05_Ints.calls k A n l A' n' l true c.w h1.2 h1.1 h2.2 h2.1 hk).mono fun e w' ⟨he, hb⟩ => by
      subst he
      exact ends_of hI hb.below ⟨rfl, rfl⟩
theorem long_len (rows : List (List Int)) (g x : Int) : (longB rows g x).length ≤ rows.length + 1 := by
  have h := (longS_le rows g x rows.length).1
  show ((PY.longS rows g x rows.length).1 ++ _).length ≤ rows.length + 1
  rw [List.length_append]
  split <;> simp <;> omega
theorem Γl : ΓOk Tryd.prog (look [(15, SpAwake23), (16, SpFew14), (17, SpFew23), (19, SpLong), (20, SpRlong), (18, SpSame), (21, SpCheck), (22, SpRcheck), (23, SpClear), (24, SpClear)]) := ((((((((((ΓOk.nil.cons rclear_ok Tryd.func24 (by kernel_rfl)).cons clear_ok Tryd.func23 (by kernel_rfl)).cons rcheck_ok Tryd.func22 (by kernel_rfl)).cons check_ok Tryd.func21 (by kernel_rfl)).cons same_ok Tryd.func18 (by kernel_rfl)).cons rlong_ok Tryd.func20 (by kernel_rfl)).cons long_ok Tryd.func19 (by kernel_rfl)).cons few23_ok Tryd.func17 (by kernel_rfl)).cons few14_ok Tryd.func16 (by kernel_rfl)).cons awake23_ok Tryd.func15 (by kernel_rfl))
theorem ok : SpecOk Tryd.prog 3 (.pure fun a r => ∃ p rows g h x, a = [fPl p, fRows rows, fI g, fI h, fI x] ∧ r = vB true) := by
  refine spec_of_code TZok Γl mixed Tryd.func3 rfl ?_
  rintro args pre r post ⟨⟨p, rows, g, h, x, rfl, rfl⟩, rfl, rfl⟩
  refine ⟨rfl, ?_⟩
  obtain ⟨b1, hb1⟩ : ∃ b, few14 p = b := ⟨_, rfl⟩
  obtain ⟨b2, hb2⟩ : ∃ b, few23 rows = b := ⟨_, rfl⟩
  by_cases hg : b1 = true ∧ b2 = true
  case neg =>
    repeat' (first | refine st_v rfl rfl rfl rfl (fun _ => rfl) rfl (fun _ => rfl) ?_ | refine st_skip rfl rfl rfl ?_ | refine st_b rfl rfl rfl rfl (fun _ => rfl) rfl (fun h1 => ?_) (fun h1 => ?_) | refine st_n rfl rfl rfl rfl (fun _ => rfl) rfl (fun _ => rfl) ?_ | refine st_s rfl rfl rfl rfl (fun _ => rfl) rfl (fun _ => rfl) ?_ | refine c_seq ?_ | refine c_region ?_ | refine c_plain rfl ?_ | refine c_drawn rfl (by kernel_rfl) ?_ | refine st_nil ?_ | refine c_norm ?_ | refine c_cret ?_ | refine c_ret ?_ | refine c_true rfl ?_ | refine c_false rfl ?_ | refine c_skip ?_ | refine c_block ?_ | refine c_bnorm ?_ | refine c_bret ?_ | refine c_bexit rfl ?_ | refine c_bpass rfl ?_ | refine c_exit ?_ | refine c_cexit ?_ | refine c_lret ?_ | refine c_lexit ?_ | refine c_scope ?_ | refine c_label ?_ | refine c_snorm ?_ | refine c_sret ?_ | refine c_sexit ?_ | refine st_call rfl rfl rfl rfl rfl rfl rfl (call_v (vB true) rfl ⟨rfl, rfl⟩ rfl rfl rfl (cb_v rfl (fun _ => rfl) ?_)) | refine st_call rfl rfl rfl rfl rfl rfl rfl (call_v (vB b1) rfl ⟨p, rfl, by rw [hb1]⟩ rfl rfl rfl (cb_b rfl (fun h1 => ?_) (fun h1 => ?_))) | refine st_call rfl rfl rfl rfl rfl rfl rfl (call_v (vB b2) rfl ⟨rows, rfl, by rw [hb2]⟩ rfl rfl rfl (cb_b rfl (fun h1 => ?_) (fun h1 => ?_))) | fail)
    all_goals first
      | exact ⟨rfl, rfl, rfl, trivial⟩
      | exact absurd ⟨by assumption, by assumption⟩ hg
  obtain ⟨rfl, rfl⟩ := hg
  have hf := few23_of hb2
  have hrl := hf.1
  have hrw : ∀ k, (rows.getD k []).length ≤ 1000 := fun k => Nat.le_trans (hf.2 k) (by omega)
  have hll := long_len rows g x
  obtain ⟨fl, hfl⟩ : ∃ f, checkB p rows = f := ⟨_, rfl⟩
  obtain ⟨z, hz⟩ := PX.clear_ex p rows g h
  have vz : vB (z == z) = vB true := by rw [beq_self_eq_true]
  repeat' (first | refine st_w 46 rfl rfl rfl rfl rfl (fun _ => rfl) (eqF_self rfl rfl) (fun _ => rfl) ?_ | refine st_w 61 rfl rfl rfl rfl rfl (fun _ => rfl) vz (fun _ => rfl) ?_ | refine st_v rfl rfl rfl rfl (fun _ => rfl) rfl (fun _ => rfl) ?_ | refine st_skip rfl rfl rfl ?_ | refine st_b rfl rfl rfl rfl (fun _ => rfl) rfl (fun h1 => ?_) (fun h1 => ?_) | refine st_n rfl rfl rfl rfl (fun _ => rfl) rfl (fun _ => rfl) ?_ | refine st_s rfl rfl rfl rfl (fun _ => rfl) rfl (fun _ => rfl) ?_ | refine c_seq ?_ | refine c_region ?_ | refine c_plain rfl ?_ | refine c_drawn rfl (by kernel_rfl) ?_ | refine st_nil ?_ | refine c_norm ?_ | refine c_cret ?_ | refine c_ret ?_ | refine c_true rfl ?_ | refine c_false rfl ?_ | refine c_skip ?_ | refine c_block ?_ | refine c_bnorm ?_ | refine c_bret ?_ | refine c_bexit rfl ?_ | refine c_bpass rfl ?_ | refine c_exit ?_ | refine c_cexit ?_ | refine c_lret ?_ | refine c_lexit ?_ | refine c_scope ?_ | refine c_label ?_ | refine c_snorm ?_ | refine c_sret ?_ | refine c_sexit ?_ | refine st_call rfl rfl rfl rfl rfl rfl rfl (call_v (vB true) rfl ⟨rfl, rfl⟩ rfl rfl rfl (cb_v rfl (fun _ => rfl) ?_)) | refine st_call rfl rfl rfl rfl rfl rfl rfl (call_v (vB true) rfl ⟨p, rfl, by rw [hb1]⟩ rfl rfl rfl (cb_v rfl (fun _ => rfl) ?_)) | refine st_call rfl rfl rfl rfl rfl rfl rfl (call_v (vB true) rfl ⟨rows, rfl, by rw [hb2]⟩ rfl rfl rfl (cb_v rfl (fun _ => rfl) ?_)) | refine st_call rfl rfl rfl rfl rfl rfl rfl (call_s (fInts (longB rows g x)) rfl ⟨rows, g, x, by omega, rfl, rfl⟩ rfl rfl rfl rfl (cb_v rfl (fun _ => rfl) ?_)) | refine st_call rfl rfl rfl rfl rfl rfl rfl (call_v (vB true) rfl ⟨longB rows g x, by omega, rfl, rfl⟩ rfl rfl rfl (cb_v rfl (fun _ => rfl) ?_)) | refine st_call rfl rfl rfl rfl rfl rfl rfl (call_v (fFlaw fl) rfl ⟨p, rows, by omega, rfl, by rw [hfl]⟩ rfl rfl rfl (cb_v rfl (fun _ => rfl) ?_)) | refine st_call rfl rfl rfl rfl rfl rfl rfl (call_v (fFlaw fl) rfl ⟨p, rows, by omega, hrw, rfl, by rw [hfl]⟩ rfl rfl rfl (cb_v rfl (fun _ => rfl) ?_)) | refine st_call rfl rfl rfl rfl rfl rfl rfl (call_v (fI z) rfl ⟨p, rows, g, h, z, by omega, hz, rfl, rfl⟩ rfl rfl rfl (cb_v rfl (fun _ => rfl) ?_)) | fail)
  exact ⟨rfl, rfl, rfl, trivial⟩
end TrTraceTells
theorem TraceTells_calls (A0_0 : Option Addr) (c0_0 : Nat) (l0_0 : List Int) (A0_1 : Option Addr) (c0_1 : Nat) (l0_1 : List S87) (a0_2 a0_3 a0_4 : Int) (A1 : Option Addr) (c1 : Nat) (l1 : List (List Int)) (a2 : Int) (a3 : Int) (a4 : Int) (w : World) (hr0_0 : Kd.C (Kd.int .i64) w A0_0 l0_0.length l0_0) (hc0_0 : l0_0.length ≤ c0_0) (hr0_1 : Kd.C k87 w A0_1 l0_1.length l0_1) (hc0_1 : l0_1.length ≤ c0_1) (hr1 : Kd.C (Kd.slice 3 (Kd.int .i64)) w A1 l1.length l1) (hc1 : l1.length ≤ c1) (hG : GlobOk w) :
    Calls Tryd.prog 3 #[.agg #[.slice A0_0 l0_0.length c0_0, .slice A0_1 l0_1.length c0_1, .int .i64 a0_2, .int .i64 a0_3, .int .i64 a0_4], .slice A1 l1.length c1, .int .i64 a2, .int .i64 a3, .int .i64 a4] w fun e w' => e = .returned (.bool true) ∧ Below w.heap.size w w' :=
  law_of TrTraceTells.ok ⟨⟨l0_0, l0_1, a0_2, a0_3, a0_4⟩, l1, a2, a3, a4, rfl, rfl⟩ hG ⟨⟨[_, _, _, _, _], rfl, ⟨C_int old_I hc0_0 hr0_0, rfl⟩, ⟨C_stg old_I hc0_1 hr0_1, rfl⟩, ⟨rfl, rfl⟩, ⟨rfl, rfl⟩, ⟨rfl, rfl⟩, trivial⟩, ⟨Tr.C_rows hc1 hr1, rfl⟩, ⟨rfl, rfl⟩, ⟨rfl, rfl⟩, ⟨rfl, rfl⟩, trivial⟩
end Go.Proofs.YtpciieagafddcaaDoor.E
