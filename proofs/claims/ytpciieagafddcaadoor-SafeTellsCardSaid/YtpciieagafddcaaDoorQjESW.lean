/- The example of the chapter on what may be asked, walked by the engine (own text). -/
import Derived.Test.YtpciieagafddcaaDoorQjESP
import Derived.Test.YtpciieagafddcaaDoorQjF35
namespace Go.Proofs.YtpciieagafddcaaDoor.E
open Go Go.RowKit Go.Proofs Go.Proofs.YtpciieagafddcaaDoorW.PrintWords Go.Proofs.YtpciieagafddcaaDoorW.PrintLast Go.Proofs.YtpciieagafddcaaDoorW.PrintMore Go.Proofs.YtpciieagafddcaaDoor.F
set_option linter.unusedVariables false
set_option linter.unusedSimpArgs false
set_option maxRecDepth 100000
set_option maxHeartbeats 8000000
attribute [local irreducible] acode callR
namespace Safe
open St Rw
def newS : Sg := ⟨0, 0, 0, 2, 0, 0, 0, -1, -1, false⟩
def SpNew : Spec := .pure fun a r => a = [] ∧ r = fSg newS
theorem new_ok : SpecOk Tryd.prog 43 SpNew := by
  refine spec_of_code TYok ΓOk.nil mixed Tryd.func43 rfl ?_
  rintro args pre r post ⟨⟨rfl, rfl⟩, rfl, rfl⟩
  refine ⟨rfl, ?_⟩
  repeat' (first | refine st_v rfl rfl rfl rfl (fun _ => rfl) rfl (fun _ => rfl) ?_ | refine st_skip rfl rfl rfl ?_ | refine st_b rfl rfl rfl rfl (fun _ => rfl) rfl (fun h1 => ?_) (fun h1 => ?_) | refine st_n rfl rfl rfl rfl (fun _ => rfl) rfl (fun _ => rfl) ?_ | refine st_s rfl rfl rfl rfl (fun _ => rfl) rfl (fun _ => rfl) ?_ | refine c_seq ?_ | refine c_region ?_ | refine c_plain rfl ?_ | refine c_drawn rfl (by kernel_rfl) ?_ | refine st_nil ?_ | refine c_norm ?_ | refine c_cret ?_ | refine c_ret ?_ | refine c_true rfl ?_ | refine c_false rfl ?_ | refine c_skip ?_ | refine c_block ?_ | refine c_bnorm ?_ | refine c_bret ?_ | refine c_bexit rfl ?_ | refine c_bpass rfl ?_ | refine c_exit ?_ | refine c_cexit ?_ | refine c_lret ?_ | refine c_lexit ?_ | refine c_scope ?_ | refine c_label ?_ | refine c_snorm ?_ | refine c_sret ?_ | refine c_sexit ?_ | fail)
  exact ⟨ret_cell rfl rfl rfl rfl rfl rfl rfl, rfl, rfl, trivial⟩
def twoP : S25 := ⟨[2, 1], [⟨1, 5, 9⟩, ⟨2, 7, 8⟩], 3, 2, 4⟩
def SpTwo : Spec := .pure fun a r => a = [] ∧ r = fPl twoP
theorem lt_two {i : Nat} (h : i < 2) : i = 0 ∨ i = 1 := by omega
theorem lt_three {i : Nat} (h : i < 3) : i = 0 ∨ i = 1 ∨ i = 2 := by omega
theorem two_weak {c : Cx} {y : Value} {f g : Nat → Nat → CV} (h : FV.R c (.t (.agg [.sl 2 1 f, .sl 2 3 g, cI 3, cI 2, cI 4])) y) (hf : ∀ i j, i < 2 → j < 1 → f i j = cI (([2, 1] : List Int).getD i 0)) (hg : ∀ i j, i < 2 → j < 3 → g i j = (stgCells (twoP.f1.getD i z87)).getD j (.v undef)) : (fPl twoP).R c y := by
  obtain ⟨us, rfl, h⟩ := h
  match us, h with
  | [u0, u1, u2, u3, u4], ⟨⟨h0, k0⟩, ⟨h1, k1⟩, h2, h3, h4, _⟩ => exact ⟨[u0, u1, u2, u3, u4], rfl, ⟨S_el h0 hf, k0⟩, ⟨S_el h1 hg, k1⟩, h2, h3, h4, trivial⟩
theorem two_ok : SpecOk Tryd.prog 44 SpTwo := by
  refine spec_of_codeW TYok ΓOk.nil mixed Tryd.func44 rfl ?_
  rintro args pre r post ⟨⟨rfl, rfl⟩, rfl, rfl⟩
  refine ⟨rfl, ?_⟩
  repeat' (first | refine st_v rfl rfl rfl rfl (fun _ => rfl) rfl (fun _ => rfl) ?_ | refine st_skip rfl rfl rfl ?_ | refine st_b rfl rfl rfl rfl (fun _ => rfl) rfl (fun h1 => ?_) (fun h1 => ?_) | refine st_n rfl rfl rfl rfl (fun _ => rfl) rfl (fun _ => rfl) ?_ | refine st_s rfl rfl rfl rfl (fun _ => rfl) rfl (fun _ => rfl) ?_ | refine c_seq ?_ | refine c_region ?_ | refine c_plain rfl ?_ | refine c_drawn rfl (by kernel_rfl) ?_ | refine st_nil ?_ | refine c_norm ?_ | refine c_cret ?_ | refine c_ret ?_ | refine c_true rfl ?_ | refine c_false rfl ?_ | refine c_skip ?_ | refine c_block ?_ | refine c_bnorm ?_ | refine c_bret ?_ | refine c_bexit rfl ?_ | refine c_bpass rfl ?_ | refine c_exit ?_ | refine c_cexit ?_ | refine c_lret ?_ | refine c_lexit ?_ | refine c_scope ?_ | refine c_label ?_ | refine c_snorm ?_ | refine c_sret ?_ | refine c_sexit ?_ | fail)
  exact ⟨_, fun c y h => two_weak h (fun i j hi hj => by
    obtain rfl : j = 0 := by omega
    rcases lt_two hi with rfl | rfl <;> rfl) (fun i j hi hj => by
    rcases lt_two hi with rfl | rfl <;> rcases lt_three hj with rfl | rfl | rfl <;> rfl), ret_cell rfl rfl rfl rfl rfl rfl rfl, rfl, rfl, trivial⟩
def fStr (s : ByteArray) : FV := .t (.one (.v (.string s)))
def SpText : Spec := .pure fun a r => ∃ l, a = [fInts l] ∧ r = fStr (lamp_textB.f l)
theorem text_ok : SpecOk Tryd.prog 59 SpText := by
  rintro args pre r post ⟨⟨l, rfl, rfl⟩, rfl, rfl⟩ c ys hgl hy hI hZ hpre hdj
  match ys, hy with
  | [y], ⟨hy, _⟩ =>
    have h1 : (cInts l).S c.w c.I y := hy.1
    obtain ⟨A, n, rfl⟩ := S_slice h1
    have h2 := int_C h1
    exact (lamp_Text.calls A n l _ c.w h2.2 h2.1 rfl).mono fun e w' ⟨he, hb⟩ => by
      subst he
      exact ends_of hI hb ⟨rfl, rfl⟩
def PlE (l : List S25) (el : Nat → Nat → CV) : Prop := ∀ i j, i < l.length → j < 5 → el i j = (plCells (l.getD i z25)).getD j (.v undef)
def AskE (a : List S65) (el : Nat → Nat → CV) : Prop := ∀ i j, i < a.length → j < 2 → el i j = (askCells (a.getD i z65)).getD j (.v undef)
def slF (n sz : Nat) (el : Nat → Nat → CV) : FV := .t (.one (.sl n sz el))
def SpPlayE : List FV → FV → Prop := fun a r => ∃ l s asks el el', PU.Wf s ∧ asks.length ≤ 1000 ∧ PlE l el ∧ AskE asks el' ∧ a = [slF l.length 5 el, fSg s, slF asks.length 2 el'] ∧ r = fRun (PW.playS l asks s) (PW.playR l asks s)
theorem playE_ok : SpecOk Tryd.prog 34 (.pure SpPlayE) := by
  refine SpecOk.pre play_ok ?_
  rintro a r ⟨l, s, asks, el, el', hw, hl, he, he', rfl, rfl⟩
  refine ⟨[fPls l, fSg s, fAsks asks], ⟨l, s, asks, hw, hl, rfl, rfl⟩, fun c ys h => ?_⟩
  match ys, h with
  | [x, y, z], ⟨⟨h1, h2⟩, h3, ⟨h4, h5⟩, _⟩ => exact ⟨⟨S_el h1 he, h2⟩, h3, ⟨S_el h4 he', h5⟩, trivial⟩
def SpAllE : List FV → FV → Prop := fun a r => ∃ l s asks el el', PU.Wf s ∧ asks.length ≤ 1000 ∧ PlE l el ∧ AskE asks el' ∧ a = [slF l.length 5 el, fSg s, slF asks.length 2 el'] ∧ r = fAll (PW.allS l asks s) (PW.allE l asks s)
theorem allE_ok : SpecOk Tryd.prog 32 (.pure SpAllE) := by
  refine SpecOk.pre alld_ok ?_
  rintro a r ⟨l, s, asks, el, el', hw, hl, he, he', rfl, rfl⟩
  refine ⟨[fPls l, fSg s, fAsks asks], ⟨l, s, asks, hw, hl, rfl, rfl⟩, fun c ys h => ?_⟩
  match ys, h with
  | [x, y, z], ⟨⟨h1, h2⟩, h3, ⟨h4, h5⟩, _⟩ => exact ⟨⟨S_el h1 he, h2⟩, h3, ⟨S_el h4 he', h5⟩, trivial⟩
def SpDoE : List FV → FV → Prop := fun a r => ∃ l s c arg el, PU.Wf s ∧ PlE l el ∧ a = [slF l.length 5 el, fSg s, fI c, fI arg] ∧ r = fDo (PW.doB l s c arg)
theorem doE_ok : SpecOk Tryd.prog 30 (.pure SpDoE) := by
  refine SpecOk.pre do_ok ?_
  rintro a r ⟨l, s, c, arg, el, hw, he, rfl, rfl⟩
  refine ⟨[fPls l, fSg s, fI c, fI arg], ⟨l, s, c, arg, hw, rfl, rfl⟩, fun c ys h => ?_⟩
  match ys, h with
  | [x, y, z, u], ⟨⟨h1, h2⟩, h3, h4, h5, _⟩ => exact ⟨⟨S_el h1 he, h2⟩, h3, h4, h5, trivial⟩
def exA : List S65 := [⟨-1, 0⟩, ⟨-1, 0⟩, ⟨1, 4⟩, ⟨-1, 0⟩]
def exB : List S65 := [⟨5, 0⟩, ⟨6, 0⟩]
def exS : Sg := ⟨0, 0, 0, 0, 1, 3, 1, -1, -1, false⟩
theorem ex_play : PW.playS [twoP] exA newS = exS := by kernel_rfl
theorem ex_rows : PW.playR [twoP] exA newS = [[0, 0], [2, 0], [2, 0]] := by kernel_rfl
theorem ex_hold : PW.doB [twoP] exS 1 4 = (exS, 11) := by kernel_rfl
theorem ex_free : PW.doB [twoP] exS 2 0 = ({ exS with hold := 0 }, 0) := by kernel_rfl
theorem ex_all : PW.allE [twoP] exB exS = [0, 11] := by kernel_rfl
theorem ex_text : lamp_textB.f [2, 0] = ⟨#[103, 114]⟩ := by kernel_rfl
theorem wf_new : PU.Wf newS := ⟨by decide, by decide⟩
theorem wf_ex : PU.Wf exS := ⟨by decide, by decide⟩
def SpAwake17 : Spec := .pure fun a r => a = [] ∧ r = vB true
theorem Γw : ΓOk Tryd.prog (look [(44, SpTwo), (43, SpNew), (59, SpText), (34, .pure SpPlayE), (32, .pure SpAllE), (30, .pure SpDoE)]) :=
  (((((ΓOk.nil.cons doE_ok Tryd.func30 (by kernel_rfl)).cons allE_ok Tryd.func32 (by kernel_rfl)).cons playE_ok Tryd.func34 (by kernel_rfl)).cons text_ok Tryd.func59 (by kernel_rfl)).cons new_ok Tryd.func43 (by kernel_rfl)).cons two_ok Tryd.func44 (by kernel_rfl)
theorem lt_four {i : Nat} (h : i < 4) : i = 0 ∨ i = 1 ∨ i = 2 ∨ i = 3 := by omega
theorem lt_five {i : Nat} (h : i < 5) : i = 0 ∨ i = 1 ∨ i = 2 ∨ i = 3 ∨ i = 4 := by omega
theorem awake_ok : SpecOk Tryd.prog 28 SpAwake17 := by
  refine spec_of_code TYok Γw mixed Tryd.func28 rfl ?_
  rintro args pre r post ⟨⟨rfl, rfl⟩, rfl, rfl⟩
  refine ⟨rfl, ?_⟩
  repeat' (first | refine st_v rfl rfl rfl rfl (fun _ => rfl) rfl (fun _ => rfl) ?_ | refine st_skip rfl rfl rfl ?_ | refine st_b rfl rfl rfl rfl (fun _ => rfl) rfl (fun h1 => ?_) (fun h1 => ?_) | refine st_n rfl rfl rfl rfl (fun _ => rfl) rfl (fun _ => rfl) ?_ | refine st_s rfl rfl rfl rfl (fun _ => rfl) rfl (fun _ => rfl) ?_ | refine c_seq ?_ | refine c_region ?_ | refine c_plain rfl ?_ | refine c_drawn rfl (by kernel_rfl) ?_ | refine st_nil ?_ | refine c_norm ?_ | refine c_cret ?_ | refine c_ret ?_ | refine c_true rfl ?_ | refine c_false rfl ?_ | refine c_skip ?_ | refine c_block ?_ | refine c_bnorm ?_ | refine c_bret ?_ | refine c_bexit rfl ?_ | refine c_bpass rfl ?_ | refine c_exit ?_ | refine c_cexit ?_ | refine c_lret ?_ | refine c_lexit ?_ | refine c_scope ?_ | refine c_label ?_ | refine c_snorm ?_ | refine c_sret ?_ | refine c_sexit ?_ | refine st_call rfl rfl rfl rfl rfl rfl rfl (call_s (fPl twoP) rfl ⟨rfl, rfl⟩ rfl rfl rfl rfl (cb_v rfl (fun _ => rfl) ?_)) | refine st_call rfl rfl rfl rfl rfl rfl rfl (call_v (fSg newS) rfl ⟨rfl, rfl⟩ rfl rfl rfl (cb_v rfl (fun _ => rfl) ?_)) | refine st_call rfl rfl rfl rfl rfl rfl rfl (call_s (fRun exS [[0, 0], [2, 0], [2, 0]]) rfl ⟨[twoP], newS, exA, _, _, wf_new, by decide, fun i j hi hj => ?_, fun i j hi hj => ?_, rfl, (congr (congrArg fRun ex_play) ex_rows).symm⟩ rfl rfl rfl rfl (cb_v rfl (fun _ => rfl) ?_)) | refine st_call rfl rfl rfl rfl rfl rfl rfl (call_v (fDo (exS, 11)) rfl ⟨[twoP], exS, 1, 4, _, wf_ex, fun i j hi hj => ?_, rfl, (congrArg fDo ex_hold).symm⟩ rfl rfl rfl (cb_v rfl (fun _ => rfl) ?_)) | refine st_call rfl rfl rfl rfl rfl rfl rfl (call_v (fDo ({ exS with hold := 0 }, 0)) rfl ⟨[twoP], exS, 2, 0, _, wf_ex, fun i j hi hj => ?_, rfl, (congrArg fDo ex_free).symm⟩ rfl rfl rfl (cb_v rfl (fun _ => rfl) ?_)) | refine st_call rfl rfl rfl rfl rfl rfl rfl (call_s (fAll (PW.allS [twoP] exB exS) [0, 11]) rfl ⟨[twoP], exS, exB, _, _, wf_ex, by decide, fun i j hi hj => ?_, fun i j hi hj => ?_, rfl, (congrArg (fAll _) ex_all).symm⟩ rfl rfl rfl rfl (cb_v rfl (fun _ => rfl) ?_)) | refine st_call rfl rfl rfl rfl rfl rfl rfl (call_v (fStr ⟨#[103, 114]⟩) rfl ⟨[2, 0], rfl, (congrArg fStr ex_text).symm⟩ rfl rfl rfl (cb_v rfl (fun _ => rfl) ?_)) | refine st_pv rfl rfl rfl rfl (fun _ => rfl) (by decide) rfl (fun _ => rfl) ?_ | fail)
  all_goals first
    | exact ⟨rfl, rfl, rfl, trivial⟩
    | exact absurd (by assumption : ((⟨#[103, 114]⟩ : ByteArray).toList == (⟨#[103, 114]⟩ : ByteArray).toList) = false) (by simp)
    | (have hi' : i < 1 := hi
       have hj' : j < 5 := hj
       obtain rfl : i = 0 := by omega
       rcases lt_five hj' with rfl | rfl | rfl | rfl | rfl <;> rfl)
    | (have hi' : i < 4 := hi
       have hj' : j < 2 := hj
       rcases lt_four hi' with rfl | rfl | rfl | rfl <;> rcases lt_two hj' with rfl | rfl <;> rfl)
    | (have hi' : i < 2 := hi
       have hj' : j < 2 := hj
       rcases lt_two hi' with rfl | rfl <;> rcases lt_two hj' with rfl | rfl <;> rfl)
end Safe
end Go.Proofs.YtpciieagafddcaaDoor.E
