/- Woven by wip/weave/weave.py of this repo (own tool) out of the translation: the contracts of some functions. Lean checks it. -/
import Derived.Test.YtpciieagafddcaaDoorQhD
import Derived.Test.YtpciieagafddcaaDoorQhF0
import Derived.Test.YtpciieagafddcaaDoorQhF7
import Derived.Lib.Strings
import Derived.Lib.Slices
import Derived.Lib.Walk
import Derived.Lib.Builder
import Derived.Lib.AppendStr
import Derived.Lib.UnsafeStr
import Derived.WalkKit
import Derived.Laws.Externs
import Derived.Laws.IdiomCopy
import Derived.Laws.BitsLemmas
import Derived.Deep.RegionWith
import Derived.StillTailTactics
import Derived.Test.YtpciieagafddcaaDoorQhESP
namespace Go.Proofs.YtpciieagafddcaaDoor.F
open Go.RowKit Go.Proofs.YtpciieagafddcaaDoorW.PrintWords Go.Proofs.YtpciieagafddcaaDoorW.PrintLast Go.Proofs.YtpciieagafddcaaDoorW.PrintMore
attribute [local go_sem] max2_int min2_int max_two min_two max_three min_three max_four min_four   -- for this text's walks alone
set_option linter.unusedVariables false
set_option linter.unusedSimpArgs false
-- IMPORT Derived.Lib.Strings
-- IMPORT Derived.Lib.Slices
-- IMPORT Derived.Lib.Walk
-- IMPORT Derived.Lib.Builder
-- IMPORT Derived.Lib.AppendStr
-- IMPORT Derived.Lib.UnsafeStr
-- IMPORT Derived.WalkKit
-- IMPORT Derived.Laws.Externs
-- IMPORT Derived.Laws.IdiomCopy
-- IMPORT Derived.Laws.BitsLemmas
-- IMPORT Derived.Deep.RegionWith
-- IMPORT Derived.StillTailTactics
attribute [local go_sem] Oper.semAt_some
/-! ### lamp.paper: a strings.Builder in a variable of its own -/
/-! ### the letters of a row -/
end Go.Proofs.YtpciieagafddcaaDoor.F
/- The example of the chapter on what may be asked, walked by the engine (own text). -/
namespace Go.Proofs.YtpciieagafddcaaDoor.E
open Go Go.RowKit Go.Proofs Go.Proofs.YtpciieagafddcaaDoorW.PrintWords Go.Proofs.YtpciieagafddcaaDoorW.PrintLast Go.Proofs.YtpciieagafddcaaDoorW.PrintMore Go.Proofs.YtpciieagafddcaaDoor.F
set_option linter.unusedVariables false
set_option linter.unusedSimpArgs false
set_option maxRecDepth 100000
set_option maxHeartbeats 8000000
attribute [local irreducible] acode callR
namespace Safe
open St Rw
def newS : Sg := ⟨0, 0, 0, 2, 0, 0, 0, -1, -1, false⟩
def SpNew : Spec := .pure fun a r => a = [] ∧ r = fSg newS
theorem new_ok : SpecOk Tryd.prog 43 SpNew := by
  refine spec_of_code TYok ΓOk.nil mixed Tryd.func43 rfl ?_
  rintro args pre r post ⟨⟨rfl, rfl⟩, rfl, rfl⟩
  refine ⟨rfl, ?_⟩
  repeat' (first | refine st_v rfl rfl rfl rfl (fun _ => rfl) rfl (fun _ => rfl) ?_ | refine st_skip rfl rfl rfl ?_ | refine st_b rfl rfl rfl rfl (fun _ => rfl) rfl (fun h1 => ?_) (fun h1 => ?_) | refine st_n rfl rfl rfl rfl (fun _ => rfl) rfl (fun _ => rfl) ?_ | refine st_s rfl rfl rfl rfl (fun _ => rfl) rfl (fun _ => rfl) ?_ | refine c_seq ?_ | refine c_region ?_ | refine c_plain rfl ?_ | refine c_drawn rfl (by kernel_rfl) ?_ | refine st_nil ?_ | refine c_norm ?_ | refine c_cret ?_ | refine c_ret ?_ | refine c_true rfl ?_ | refine c_false rfl ?_ | refine c_skip ?_ | refine c_block ?_ | refine c_bnorm ?_ | refine c_bret ?_ | refine c_bexit rfl ?_ | refine c_bpass rfl ?_ | refine c_exit ?_ | refine c_cexit ?_ | refine c_lret ?_ | refine c_lexit ?_ | refine c_scope ?_ | refine c_label ?_ | refine c_snorm ?_ | refine c_sret ?_ | refine c_sexit ?_ | fail)
  exact ⟨ret_cell rfl rfl rfl rfl rfl rfl rfl, rfl, rfl, trivial⟩
def twoP : S25 := ⟨[2, 1], [⟨1, 5, 9⟩, ⟨2, 7, 8⟩], 3, 2, 4⟩
def SpTwo : Spec := .pure fun a r => a = [] ∧ r = fPl twoP
theorem lt_two {i : Nat} (h : i < 2) : i = 0 ∨ i = 1 := by omega
theorem lt_three {i : Nat} (h : i < 3) : i = 0 ∨ i = 1 ∨ i = 2 := by omega
theorem two_weak {c : Cx} {y : Value} {f g : Nat → Nat → CV} (h : FV.R c (.t (.agg [.sl 2 1 f, .sl 2 3 g, cI 3, cI 2, cI 4])) y) (hf : ∀ i j, i < 2 → j < 1 → f i j = cI (([2, 1] : List Int).getD i 0)) (hg : ∀ i j, i < 2 → j < 3 → g i j = (stgCells (twoP.f1.getD i z87)).getD j (.v undef)) : (fPl twoP).R c y := by
  obtain ⟨us, rfl, h⟩ := h
  match us, h with
  | [u0, u1, u2, u3, u4], ⟨⟨h0, k0⟩, ⟨h1, k1⟩, h2, h3, h4, _⟩ => exact ⟨[u0, u1, u2, u3, u4], rfl, ⟨S_el h0 hf, k0⟩, ⟨S_el h1 hg, k1⟩, h2, h3, h4, trivial⟩
theorem two_ok : SpecOk Tryd.prog 44 SpTwo := by
  refine spec_of_codeW TYok ΓOk.nil mixed Tryd.func44 rfl ?_
  rintro args pre r post ⟨⟨rfl, rfl⟩, rfl, rfl⟩
  refine ⟨rfl, ?_⟩
  repeat' (first | refine st_v rfl rfl rfl rfl (fun _ => rfl) rfl (fun _ => rfl) ?_ | refine st_skip rfl rfl rfl ?_ | refine st_b rfl rfl rfl rfl (fun _ => rfl) rfl (fun h1 => ?_) (fun h1 => ?_) | refine st_n rfl rfl rfl rfl (fun _ => rfl) rfl (fun _ => rfl) ?_ | refine st_s rfl rfl rfl rfl (fun _ => rfl) rfl (fun _ => rfl) ?_ | refine c_seq ?_ | refine c_region ?_ | refine c_plain rfl ?_ | refine c_drawn rfl (by kernel_rfl) ?_ | refine st_nil ?_ | refine c_norm ?_ | refine c_cret ?_ | refine c_ret ?_ | refine c_true rfl ?_ | refine c_false rfl ?_ | refine c_skip ?_ | refine c_block ?_ | refine c_bnorm ?_ | refine c_bret ?_ | refine c_bexit rfl ?_ | refine c_bpass rfl ?_ | refine c_exit ?_ | refine c_cexit ?_ | refine c_lret ?_ | refine c_lexit ?_ | refine c_scope ?_ | refine c_label ?_ | refine c_snorm ?_ | refine c_sret ?_ | refine c_sexit ?_ | fail)
  exact ⟨_, fun c y h => two_weak h (fun i j hi hj => by
    obtain rfl : j = 0 := by omega
    rcases lt_two hi with rfl | rfl <;> rfl) (fun i j hi hj => by
    rcases lt_two hi with rfl | rfl <;> rcases lt_three hj with rfl | rfl | rfl <;> rfl), ret_cell rfl rfl rfl rfl rfl rfl rfl, rfl, rfl, trivial⟩
/-- The calls at plans, and asks, that are told cell by cell. -/
def PlE (l : List S25) (el : Nat → Nat → CV) : Prop := ∀ i j, i < l.length → j < 5 → el i j = (plCells (l.getD i z25)).getD j (.v undef)
def AskE (a : List S65) (el : Nat → Nat → CV) : Prop := ∀ i j, i < a.length → j < 2 → el i j = (askCells (a.getD i z65)).getD j (.v undef)
def slF (n sz : Nat) (el : Nat → Nat → CV) : FV := .t (.one (.sl n sz el))
def SpPlayE : List FV → FV → Prop := fun a r => ∃ l s asks el el', PU.Wf s ∧ asks.length ≤ 1000 ∧ PlE l el ∧ AskE asks el' ∧ a = [slF l.length 5 el, fSg s, slF asks.length 2 el'] ∧ r = fRun (PW.playS l asks s) (PW.playR l asks s)
theorem playE_ok : SpecOk Tryd.prog 34 (.pure SpPlayE) := by
  refine SpecOk.pre play_ok ?_
  rintro a r ⟨l, s, asks, el, el', hw, hl, he, he', rfl, rfl⟩
  refine ⟨[fPls l, fSg s, fAsks asks], ⟨l, s, asks, hw, hl, rfl, rfl⟩, fun c ys h => ?_⟩
  match ys, h with
  | [x, y, z], ⟨⟨h1, h2⟩, h3, ⟨h4, h5⟩, _⟩ => exact ⟨⟨S_el h1 he, h2⟩, h3, ⟨S_el h4 he', h5⟩, trivial⟩
theorem wf_new : PU.Wf newS := ⟨by decide, by decide⟩
theorem lt_five {i : Nat} (h : i < 5) : i = 0 ∨ i = 1 ∨ i = 2 ∨ i = 3 ∨ i = 4 := by omega
end Safe
end Go.Proofs.YtpciieagafddcaaDoor.E
