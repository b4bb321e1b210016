/- The example of the chapter on the machine, walked by the engine (own text). -/
import Derived.Test.YtechgjbhgeddjaaDoorQsER
import Derived.Test.YtechgjbhgeddjaaDoorQsERB
import Derived.Test.YtechgjbhgeddjaaDoorQsF20
namespace Go.Proofs.YtechgjbhgeddjaaDoor.E
open Go Go.RowKit Go.Proofs Go.Proofs.YtechgjbhgeddjaaDoorW.PrintWords Go.Proofs.YtechgjbhgeddjaaDoorW.PrintLast Go.Proofs.YtechgjbhgeddjaaDoorW.PrintMore Go.Proofs.YtechgjbhgeddjaaDoor.F
set_option linter.unusedVariables false
set_option linter.unusedSimpArgs false
set_option maxRecDepth 100000
set_option maxHeartbeats 8000000
attribute [local irreducible] acode callR
def SpAwake : Spec := .pure fun a r => a = [] ∧ r = vB true
namespace Aw
open St
open Rw
/-! ### a value, in other words -/
section
variable {T : TT} {Γ : Nat → Option Spec} {ops : Array Oper} {nid i : Nat} {o : Oper} {l : List Oper} {fr : List (Nat × FV)} {hp : HP} {n0 N m : Nat} {acc : List Rec} {k : List Rec → AS → Prop}
theorem st_w (d : Nat) {xs : List FV} {fv fv' : FV} (hdst : o.dst = some d) (hd : dstOk o.dst N = true) (hg : gst ops fr o = some true) (hp0 : isPlain o = true) (hx : evs fr o.op.operands.toList = some xs) (he : ∀ K : FV → HP → Prop, Ex T o xs hp (nid + i) K = K fv []) (hw : fv = fv') (hb : ∀ K : FV → Prop, boolF fv' K = K fv') (h : next T Γ ops nid l (i + 1) ((d, fv') :: fr) hp n0 N m (recOf ops o fv' [] (addO (need o.op xs) []) :: acc) k) : next T Γ ops nid (o :: l) i fr hp n0 N m acc k := by
  subst hw
  exact st_v hd hg hp0 hx he hdst hb h
end
def newS : Sg := ⟨0, 0, 0, 2, 0, 0, 0, -1, -1, false⟩
def SpNew : Spec := .pure fun a r => a = [] ∧ r = fSg newS
theorem new_ok : SpecOk Tryd.prog 25 SpNew := by
  refine spec_of_code TYok ΓOk.nil mixed Tryd.func25 rfl ?_
  rintro args pre r post ⟨⟨rfl, rfl⟩, rfl, rfl⟩
  refine ⟨rfl, ?_⟩
  repeat' (first | refine st_v rfl rfl rfl rfl (fun _ => rfl) rfl (fun _ => rfl) ?_ | refine st_skip rfl rfl rfl ?_ | refine st_b rfl rfl rfl rfl (fun _ => rfl) rfl (fun h1 => ?_) (fun h1 => ?_) | refine st_n rfl rfl rfl rfl (fun _ => rfl) rfl (fun _ => rfl) ?_ | refine st_s rfl rfl rfl rfl (fun _ => rfl) rfl (fun _ => rfl) ?_ | refine c_seq ?_ | refine c_region ?_ | refine c_plain rfl ?_ | refine c_drawn rfl (by kernel_rfl) ?_ | refine st_nil ?_ | refine c_norm ?_ | refine c_cret ?_ | refine c_ret ?_ | refine c_true rfl ?_ | refine c_false rfl ?_ | refine c_skip ?_ | refine c_block ?_ | refine c_bnorm ?_ | refine c_bret ?_ | refine c_bexit rfl ?_ | refine c_bpass rfl ?_ | refine c_exit ?_ | refine c_cexit ?_ | refine c_lret ?_ | refine c_lexit ?_ | refine c_scope ?_ | refine c_label ?_ | refine c_snorm ?_ | refine c_sret ?_ | refine c_sexit ?_ | fail)
  exact ⟨ret_cell rfl rfl rfl rfl rfl rfl rfl, rfl, rfl, trivial⟩
def twoP : S39 := ⟨[2, 1], [⟨1, 5, 9⟩, ⟨2, 7, 8⟩], 3, 2, 4⟩
def SpTwo : Spec := .pure fun a r => a = [] ∧ r = fPl twoP
theorem lt_two {i : Nat} (h : i < 2) : i = 0 ∨ i = 1 := by omega
theorem lt_three {i : Nat} (h : i < 3) : i = 0 ∨ i = 1 ∨ i = 2 := by omega
theorem two_weak {c : Cx} {y : Value} {f g : Nat → Nat → CV} (h : FV.R c (.t (.agg [.sl 2 1 f, .sl 2 3 g, cI 3, cI 2, cI 4])) y) (hf : ∀ i j, i < 2 → j < 1 → f i j = cI (([2, 1] : List Int).getD i 0)) (hg : ∀ i j, i < 2 → j < 3 → g i j = (stgCells (twoP.f1.getD i z41)).getD j (.v undef)) : (fPl twoP).R c y := by
  obtain ⟨us, rfl, h⟩ := h
  match us, h with
  | [u0, u1, u2, u3, u4], ⟨⟨h0, k0⟩, ⟨h1, k1⟩, h2, h3, h4, _⟩ => exact ⟨[u0, u1, u2, u3, u4], rfl, ⟨S_el h0 hf, k0⟩, ⟨S_el h1 hg, k1⟩, h2, h3, h4, trivial⟩
theorem two_ok : SpecOk Tryd.prog 42 SpTwo := by
  refine spec_of_codeW TYok ΓOk.nil mixed Tryd.func42 rfl ?_
  rintro args pre r post ⟨⟨rfl, rfl⟩, rfl, rfl⟩
  refine ⟨rfl, ?_⟩
  repeat' (first | refine st_v rfl rfl rfl rfl (fun _ => rfl) rfl (fun _ => rfl) ?_ | refine st_skip rfl rfl rfl ?_ | refine st_b rfl rfl rfl rfl (fun _ => rfl) rfl (fun h1 => ?_) (fun h1 => ?_) | refine st_n rfl rfl rfl rfl (fun _ => rfl) rfl (fun _ => rfl) ?_ | refine st_s rfl rfl rfl rfl (fun _ => rfl) rfl (fun _ => rfl) ?_ | refine c_seq ?_ | refine c_region ?_ | refine c_plain rfl ?_ | refine c_drawn rfl (by kernel_rfl) ?_ | refine st_nil ?_ | refine c_norm ?_ | refine c_cret ?_ | refine c_ret ?_ | refine c_true rfl ?_ | refine c_false rfl ?_ | refine c_skip ?_ | refine c_block ?_ | refine c_bnorm ?_ | refine c_bret ?_ | refine c_bexit rfl ?_ | refine c_bpass rfl ?_ | refine c_exit ?_ | refine c_cexit ?_ | refine c_lret ?_ | refine c_lexit ?_ | refine c_scope ?_ | refine c_label ?_ | refine c_snorm ?_ | refine c_sret ?_ | refine c_sexit ?_ | fail)
  exact ⟨_, fun c y h => two_weak h (fun i j hi hj => by
    obtain rfl : j = 0 := by omega
    rcases lt_two hi with rfl | rfl <;> rfl) (fun i j hi hj => by
    rcases lt_two hi with rfl | rfl <;> rcases lt_three hj with rfl | rfl | rfl <;> rfl), ret_cell rfl rfl rfl rfl rfl rfl rfl, rfl, rfl, trivial⟩
def fStr (s : ByteArray) : FV := .t (.one (.v (.string s)))
def SpText : Spec := .pure fun a r => ∃ l, a = [fInts l] ∧ r = fStr (lamp_textB.f l)
theorem text_ok : SpecOk Tryd.prog 39 SpText := by
  rintro args pre r post ⟨⟨l, rfl, rfl⟩, rfl, rfl⟩ c ys hgl hy hI hZ hpre hdj
  match ys, hy with
  | [y], ⟨hy, _⟩ =>
    have h1 : (cInts l).S c.w c.I y := hy.1
    obtain ⟨A, n, rfl⟩ := S_slice h1
    have h2 := int_C h1
    exact (lamp_Text.calls A n l _ c.w h2.2 h2.1 rfl).mono fun e w' ⟨he, hb⟩ => by
      subst he
      exact ends_of hI hb ⟨rfl, rfl⟩
def PlE (l : List S39) (el : Nat → Nat → CV) : Prop := ∀ i j, i < l.length → j < 5 → el i j = (plCells (l.getD i z39)).getD j (.v undef)
def slF (n sz : Nat) (el : Nat → Nat → CV) : FV := .t (.one (.sl n sz el))
def SpRunE : List FV → FV → Prop := fun a r => ∃ l s n t rows el, PU.Wf s ∧ PlE l el ∧ a = [slF l.length 5 el, fSg s, fI n] ∧ r = fRun t rows ∧ ((∃ m : Nat, stage_mayB.f l s = true ∧ m ≤ 2000 ∧ n = (m : Int) ∧ t = PV.tickN l m s ∧ rows = PV.rowsN l m s) ∨ (¬ (stage_mayB.f l s = true ∧ 0 ≤ n ∧ n ≤ 2000) ∧ t = s ∧ rows = []))
theorem runE_ok : SpecOk Tryd.prog 17 (.pure SpRunE) := by
  refine SpecOk.pre run_ok ?_
  rintro a r ⟨l, s, n, t, rows, el, hw, he, rfl, rfl, hh⟩
  refine ⟨[fPls l, fSg s, fI n], ⟨l, s, n, t, rows, hw, rfl, rfl, hh⟩, fun c ys h => ?_⟩
  match ys, h with
  | [x, y, z], ⟨⟨h1, h2⟩, h3, h4, _⟩ => exact ⟨⟨S_el h1 he, h2⟩, h3, h4, trivial⟩
def SpMayE : List FV → FV → Prop := fun a r => ∃ l s el, PlE l el ∧ a = [slF l.length 5 el, fSg s] ∧ r = vB (stage_mayB.f l s)
theorem mayE_ok : SpecOk Tryd.prog 22 (.pure SpMayE) := by
  refine SpecOk.pre may_ok ?_
  rintro a r ⟨l, s, el, he, rfl, rfl⟩
  refine ⟨[fPls l, fSg s], ⟨l, s, rfl, rfl⟩, fun c ys h => ?_⟩
  match ys, h with
  | [x, y], ⟨⟨h1, h2⟩, h3, _⟩ => exact ⟨⟨S_el h1 he, h2⟩, h3, trivial⟩
def SpLampsE : List FV → FV → Prop := fun a r => ∃ l s el, PU.Wf s ∧ PlE l el ∧ a = [slF l.length 5 el, fSg s] ∧ r = fInts (PU.lampsB l s)
theorem lampsE_ok : SpecOk Tryd.prog 20 (.pure SpLampsE) := by
  refine SpecOk.pre lamps_ok ?_
  rintro a r ⟨l, s, el, hw, he, rfl, rfl⟩
  refine ⟨[fPls l, fSg s], ⟨l, s, hw, rfl, rfl⟩, fun c ys h => ?_⟩
  match ys, h with
  | [x, y], ⟨⟨h1, h2⟩, h3, _⟩ => exact ⟨⟨S_el h1 he, h2⟩, h3, trivial⟩
def exS : Sg := ⟨0, 0, 0, 0, 5, 0, 0, -1, -1, false⟩
def exR : List (List Int) := [[0, 0], [2, 0], [2, 0], [2, 0], [2, 0], [2, 0], [2, 0]]
theorem ex_may0 : stage_mayB.f [twoP] newS = true := by kernel_rfl
theorem ex_may : stage_mayB.f [twoP] exS = true := by kernel_rfl
theorem ex_run : PV.tickN [twoP] 7 newS = exS := by kernel_rfl
theorem ex_rows : PV.rowsN [twoP] 7 newS = exR := by kernel_rfl
theorem ex_lamps : PU.lampsB [twoP] exS = [2, 0] := by kernel_rfl
theorem ex_gr : lamp_textB.f [2, 0] = ⟨#[103, 114]⟩ := by kernel_rfl
theorem ex_rr : lamp_textB.f [0, 0] = ⟨#[114, 114]⟩ := by kernel_rfl
theorem wf_new : PU.Wf newS := ⟨by decide, by decide⟩
theorem wf_ex : PU.Wf exS := ⟨by decide, by decide⟩
theorem lt_five {i : Nat} (h : i < 5) : i = 0 ∨ i = 1 ∨ i = 2 ∨ i = 3 ∨ i = 4 := by omega
theorem Γw : ΓOk Tryd.prog (look [(42, SpTwo), (25, SpNew), (39, SpText), (17, .pure SpRunE), (22, .pure SpMayE), (20, .pure SpLampsE)]) :=
  (((((ΓOk.nil.cons lampsE_ok Tryd.func20 (by kernel_rfl)).cons mayE_ok Tryd.func22 (by kernel_rfl)).cons runE_ok Tryd.func17 (by kernel_rfl)).cons text_ok Tryd.func39 (by kernel_rfl)).cons new_ok Tryd.func25 (by kernel_rfl)).cons two_ok Tryd.func42 (by kernel_rfl)
theorem awake_ok : SpecOk Tryd.prog 14 SpAwake := by
  refine spec_of_code TYok Γw mixed Tryd.func14 rfl ?_
  rintro args pre r post ⟨⟨rfl, rfl⟩, rfl, rfl⟩
  refine ⟨rfl, ?_⟩
  have wg : vB ((⟨#[103, 114]⟩ : ByteArray).toList == (⟨#[103, 114]⟩ : ByteArray).toList) = vB true := by rw [beq_self_eq_true]
  have wr : vB ((⟨#[114, 114]⟩ : ByteArray).toList == (⟨#[114, 114]⟩ : ByteArray).toList) = vB true := by rw [beq_self_eq_true]
  repeat' (first | refine st_w 25 rfl rfl rfl rfl rfl (fun _ => rfl) wr (fun _ => rfl) ?_ | refine st_w 32 rfl rfl rfl rfl rfl (fun _ => rfl) wg (fun _ => rfl) ?_ | refine st_w 39 rfl rfl rfl rfl rfl (fun _ => rfl) wg (fun _ => rfl) ?_ | refine st_w 56 rfl rfl rfl rfl rfl (fun _ => rfl) wg (fun _ => rfl) ?_ | refine st_v rfl rfl rfl rfl (fun _ => rfl) rfl (fun _ => rfl) ?_ | refine st_skip rfl rfl rfl ?_ | refine st_b rfl rfl rfl rfl (fun _ => rfl) rfl (fun h1 => ?_) (fun h1 => ?_) | refine st_n rfl rfl rfl rfl (fun _ => rfl) rfl (fun _ => rfl) ?_ | refine st_s rfl rfl rfl rfl (fun _ => rfl) rfl (fun _ => rfl) ?_ | refine c_seq ?_ | refine c_region ?_ | refine c_plain rfl ?_ | refine c_drawn rfl (by kernel_rfl) ?_ | refine st_nil ?_ | refine c_norm ?_ | refine c_cret ?_ | refine c_ret ?_ | refine c_true rfl ?_ | refine c_false rfl ?_ | refine c_skip ?_ | refine c_block ?_ | refine c_bnorm ?_ | refine c_bret ?_ | refine c_bexit rfl ?_ | refine c_bpass rfl ?_ | refine c_exit ?_ | refine c_cexit ?_ | refine c_lret ?_ | refine c_lexit ?_ | refine c_scope ?_ | refine c_label ?_ | refine c_snorm ?_ | refine c_sret ?_ | refine c_sexit ?_ | refine st_call rfl rfl rfl rfl rfl rfl rfl (call_s (fPl twoP) rfl ⟨rfl, rfl⟩ rfl rfl rfl rfl (cb_v rfl (fun _ => rfl) ?_)) | refine st_call rfl rfl rfl rfl rfl rfl rfl (call_v (fSg newS) rfl ⟨rfl, rfl⟩ rfl rfl rfl (cb_v rfl (fun _ => rfl) ?_)) | refine st_call rfl rfl rfl rfl rfl rfl rfl (call_s (fRun exS exR) rfl ⟨[twoP], newS, 7, exS, exR, _, wf_new, fun i j hi hj => ?_, rfl, rfl, .inl ⟨7, ex_may0, by decide, rfl, ex_run.symm, ex_rows.symm⟩⟩ rfl rfl rfl rfl (cb_v rfl (fun _ => rfl) ?_)) | refine st_call rfl rfl rfl rfl rfl rfl rfl (call_v (vB true) rfl ⟨[twoP], exS, _, fun i j hi hj => ?_, rfl, (congrArg vB ex_may).symm⟩ rfl rfl rfl (cb_v rfl (fun _ => rfl) ?_)) | refine st_call rfl rfl rfl rfl rfl rfl rfl (call_s (fInts [2, 0]) rfl ⟨[twoP], exS, _, wf_ex, fun i j hi hj => ?_, rfl, (congrArg fInts ex_lamps).symm⟩ rfl rfl rfl rfl (cb_v rfl (fun _ => rfl) ?_)) | refine st_call rfl rfl rfl rfl rfl rfl rfl (call_v (fStr ⟨#[103, 114]⟩) rfl ⟨[2, 0], rfl, (congrArg fStr ex_gr).symm⟩ rfl rfl rfl (cb_v rfl (fun _ => rfl) ?_)) | refine st_call rfl rfl rfl rfl rfl rfl rfl (call_v (fStr ⟨#[114, 114]⟩) rfl ⟨[0, 0], rfl, (congrArg fStr ex_rr).symm⟩ rfl rfl rfl (cb_v rfl (fun _ => rfl) ?_)) | refine st_pv rfl rfl rfl rfl (fun _ => rfl) (by decide) rfl (fun _ => rfl) ?_ | fail)
  all_goals first
    | exact ⟨rfl, rfl, rfl, trivial⟩
    | exact absurd (by assumption : ((⟨#[103, 114]⟩ : ByteArray).toList == (⟨#[103, 114]⟩ : ByteArray).toList) = false) (by simp)
    | exact absurd (by assumption : ((⟨#[114, 114]⟩ : ByteArray).toList == (⟨#[114, 114]⟩ : ByteArray).toList) = false) (by simp)
    | (have hi' : i < 1 := hi
       have hj' : j < 5 := hj
       obtain rfl : i = 0 := by omega
       rcases lt_five hj' with rfl | rfl | rfl | rfl | rfl <;> rfl)
end Aw
theorem awake_ok : SpecOk Tryd.prog 14 SpAwake := Aw.awake_ok
end Go.Proofs.YtechgjbhgeddjaaDoor.E
