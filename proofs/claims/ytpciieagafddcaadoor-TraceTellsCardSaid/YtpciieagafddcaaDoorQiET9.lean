/- The example of the chapter on rows of lamps, walked by the engine (own text). -/
import Derived.Test.YtpciieagafddcaaDoorQiET2
import Derived.Test.YtpciieagafddcaaDoorQiET3
import Derived.Test.YtpciieagafddcaaDoorQiET8
import Derived.Test.YtpciieagafddcaaDoorQiF8
namespace Go.Proofs.YtpciieagafddcaaDoor.E
open Go Go.RowKit Go.Proofs Go.Proofs.YtpciieagafddcaaDoorW.PrintWords Go.Proofs.YtpciieagafddcaaDoorW.PrintLast Go.Proofs.YtpciieagafddcaaDoorW.PrintMore Go.Proofs.YtpciieagafddcaaDoor.F
set_option linter.unusedVariables false
set_option linter.unusedSimpArgs false
set_option maxRecDepth 100000
set_option maxHeartbeats 8000000
attribute [local irreducible] acode callR
namespace Tr
open St Rw
open PY (longB)
open PX (fitP clashP cell beg leastF leastB nextB soonB groupB groupsB rowB fromB checkB RowOk onB Betw LeastI ClearIs)
/-! ### rows that are told cell by cell -/
theorem S_elW {w : World} {I : Nat → Prop} {n sz : Nat} {el el' : Nat → Nat → CV} {y : Value} (h : (CV.sl n sz el).S w I y) (he : ∀ i j, i < n → j < sz → ∀ u, (el i j).S w I u → (el' i j).S w I u) : (CV.sl n sz el').S w I y := by
  obtain ⟨A, c, rfl, h1, h2, h3⟩ := h
  refine ⟨A, c, rfl, h1, h2, fun i j hi hj => ?_⟩
  obtain ⟨a, u, h4, h5, h6, h7, h8⟩ := h3 i j hi hj
  exact ⟨a, u, h4, h5, h6, he i j hi hj u h7, h8⟩
/-- z tells at least that it is these rows. -/
def Wk (z : FV) (rows : List (List Int)) : Prop := ∀ (c : Cx) y, z.R c y → (fRows rows).R c y
def SpCheckX : List FV → FV → Prop := fun a r => ∃ p rows z, rows.length ≤ 1000 ∧ Wk z rows ∧ a = [fPl p, z] ∧ r = fFlaw (checkB p rows)
theorem checkX_ok : SpecOk Tryd.prog 21 (.pure SpCheckX) := by
  refine SpecOk.pre check_ok ?_
  rintro a r ⟨p, rows, z, h1, h2, rfl, rfl⟩
  refine ⟨[fPl p, fRows rows], ⟨p, rows, h1, rfl, rfl⟩, fun c ys h => ?_⟩
  match ys, h with
  | [y, u], ⟨h3, h4, _⟩ => exact ⟨h3, h2 c u h4, trivial⟩
def SpLongX : List FV → FV → Prop := fun a r => ∃ rows z g x, rows.length ≤ 1000 ∧ Wk z rows ∧ a = [z, fI g, fI x] ∧ r = fInts (longB rows g x)
theorem longX_ok : SpecOk Tryd.prog 19 (.pure SpLongX) := by
  refine SpecOk.pre long_ok ?_
  rintro a r ⟨rows, z, g, x, h1, h2, rfl, rfl⟩
  refine ⟨[fRows rows, fI g, fI x], ⟨rows, g, x, h1, rfl, rfl⟩, fun c ys h => ?_⟩
  match ys, h with
  | [y, u, v], ⟨h3, h4, h5, _⟩ => exact ⟨h2 c y h3, h4, h5, trivial⟩
def SpClearX : List FV → FV → Prop := fun a r => ∃ p rows z g h x, rows.length ≤ 1000 ∧ ClearIs p rows g h x ∧ Wk z rows ∧ a = [fPl p, z, fI g, fI h] ∧ r = fI x
theorem clearX_ok : SpecOk Tryd.prog 23 (.pure SpClearX) := by
  refine SpecOk.pre clear_ok ?_
  rintro a r ⟨p, rows, z, g, h, x, h1, h2, h3, rfl, rfl⟩
  refine ⟨[fPl p, fRows rows, fI g, fI h], ⟨p, rows, g, h, x, h1, h2, rfl, rfl⟩, fun c ys hh => ?_⟩
  match ys, hh with
  | [y, u, v, w], ⟨h4, h5, h6, h7, _⟩ => exact ⟨h4, h3 c u h5, h6, h7, trivial⟩
/-! ### the example -/
def twoP : S25 := ⟨[2, 1], [⟨1, 5, 9⟩, ⟨2, 7, 8⟩], 3, 2, 4⟩
def SpTwo : Spec := .pure fun a r => a = [] ∧ r = fPl twoP
theorem lt2 {i : Nat} (h : i < 2) : i = 0 ∨ i = 1 := by omega
theorem lt3 {i : Nat} (h : i < 3) : i = 0 ∨ i = 1 ∨ i = 2 := by omega
theorem lt4 {i : Nat} (h : i < 4) : i = 0 ∨ i = 1 ∨ i = 2 ∨ i = 3 := by omega
theorem lt6 {i : Nat} (h : i < 6) : i = 0 ∨ i = 1 ∨ i = 2 ∨ i = 3 ∨ i = 4 ∨ i = 5 := by omega
theorem lt12 {i : Nat} (h : i < 12) : i = 0 ∨ i = 1 ∨ i = 2 ∨ i = 3 ∨ i = 4 ∨ i = 5 ∨ i = 6 ∨ i = 7 ∨ i = 8 ∨ i = 9 ∨ i = 10 ∨ i = 11 := by omega
theorem two_weak {c : Cx} {y : Value} {f g : Nat → Nat → CV} (h : FV.R c (.t (.agg [.sl 2 1 f, .sl 2 3 g, cI 3, cI 2, cI 4])) y) (hf : ∀ i j, i < 2 → j < 1 → f i j = cI (([2, 1] : List Int).getD i 0)) (hg : ∀ i j, i < 2 → j < 3 → g i j = (stgCells (twoP.f1.getD i z87)).getD j (.v undef)) : (fPl twoP).R c y := by
  obtain ⟨us, rfl, h⟩ := h
  match us, h with
  | [u0, u1, u2, u3, u4], ⟨⟨h0, k0⟩, ⟨h1, k1⟩, h2, h3, h4, _⟩ => exact ⟨[u0, u1, u2, u3, u4], rfl, ⟨S_el h0 hf, k0⟩, ⟨S_el h1 hg, k1⟩, h2, h3, h4, trivial⟩
theorem two_ok : SpecOk Tryd.prog 44 SpTwo := by
  refine spec_of_codeW TZok ΓOk.nil mixed Tryd.func44 rfl ?_
  rintro args pre r post ⟨⟨rfl, rfl⟩, rfl, rfl⟩
  refine ⟨rfl, ?_⟩
  repeat' (first | refine st_v rfl rfl rfl rfl (fun _ => rfl) rfl (fun _ => rfl) ?_ | refine st_skip rfl rfl rfl ?_ | refine st_b rfl rfl rfl rfl (fun _ => rfl) rfl (fun h1 => ?_) (fun h1 => ?_) | refine st_n rfl rfl rfl rfl (fun _ => rfl) rfl (fun _ => rfl) ?_ | refine st_s rfl rfl rfl rfl (fun _ => rfl) rfl (fun _ => rfl) ?_ | refine c_seq ?_ | refine c_region ?_ | refine c_plain rfl ?_ | refine c_drawn rfl (by kernel_rfl) ?_ | refine st_nil ?_ | refine c_norm ?_ | refine c_cret ?_ | refine c_ret ?_ | refine c_true rfl ?_ | refine c_false rfl ?_ | refine c_skip ?_ | refine c_block ?_ | refine c_bnorm ?_ | refine c_bret ?_ | refine c_bexit rfl ?_ | refine c_bpass rfl ?_ | refine c_exit ?_ | refine c_cexit ?_ | refine c_lret ?_ | refine c_lexit ?_ | refine c_scope ?_ | refine c_label ?_ | refine c_snorm ?_ | refine c_sret ?_ | refine c_sexit ?_ | fail)
  exact ⟨_, fun c y h => two_weak h (fun i j hi hj => by
    obtain rfl : j = 0 := by omega
    rcases lt2 hi with rfl | rfl <;> rfl) (fun i j hi hj => by
    rcases lt2 hi with rfl | rfl <;> rcases lt3 hj with rfl | rfl | rfl <;> rfl), ret_cell rfl rfl rfl rfl rfl rfl rfl, rfl, rfl, trivial⟩
def rA : List (List Int) := [[0, 0], [2, 0], [2, 0], [2, 0], [2, 0], [1, 0]]
def rB : List (List Int) := [[0, 0], [2, 0], [2, 0], [2, 0], [2, 0], [2, 0], [1, 0], [1, 0], [1, 0], [0, 0], [0, 0], [0, 2]]
def rC : List (List Int) := [[2, 0], [2, 0], [0, 0]]
def rD : List (List Int) := [[1, 0], [0, 0], [0, 0], [0, 2]]
theorem chkA : checkB twoP rA = (4, 5, 0) := by decide +kernel
theorem chkB : checkB twoP rB = (0, 0, 0) := by decide +kernel
theorem lngC : longB rC 0 2 = [2] := by decide +kernel
theorem clrD : ClearIs twoP rD 0 1 2 := by
  unfold ClearIs
  rw [if_pos ⟨by decide +kernel, by decide, by decide, by decide, by decide⟩]
  have e : ∀ i, i < 4 → (onB twoP rD i 0 = decide (i = 0)) ∧ (onB twoP rD i 1 = decide (i = 3)) := by decide +kernel
  refine .inr ⟨⟨0, 3, ⟨by decide, by decide, by decide +kernel, by decide +kernel, fun j h1 h2 => ?_⟩, by decide, rfl⟩, ?_⟩
  · obtain ⟨e1, e2⟩ := e j (by omega)
    exact ⟨e1.trans (decide_eq_false (by omega)), e2.trans (decide_eq_false (by omega))⟩
  · rintro a b ⟨h1, h2, h3, h4, -⟩
    have h2 : b < 4 := h2
    have h3 : onB twoP rD a 0 = true := h3
    have h4 : onB twoP rD b 1 = true := h4
    rw [(e a (by omega)).1] at h3
    rw [(e b h2).2] at h4
    have h3 := of_decide_eq_true h3
    have h4 := of_decide_eq_true h4
    show (2 : Int) ≤ _
    omega
theorem wk_rA {el : Nat → Nat → CV} (he : ∀ i, i < 6 → ∀ (w : World) (I : Nat → Prop) u, (el i 0).S w I u → (cInts (rA.getD i [])).S w I u) : Wk (.t (.one (.sl 6 1 el))) rA := fun c y h => ⟨S_elW (n := 6) h.1 (fun i j hi hj u hu => by
  obtain rfl : j = 0 := by omega
  exact he i hi c.w c.I u hu), h.2⟩
theorem wk_rB {el : Nat → Nat → CV} (he : ∀ i, i < 12 → ∀ (w : World) (I : Nat → Prop) u, (el i 0).S w I u → (cInts (rB.getD i [])).S w I u) : Wk (.t (.one (.sl 12 1 el))) rB := fun c y h => ⟨S_elW (n := 12) h.1 (fun i j hi hj u hu => by
  obtain rfl : j = 0 := by omega
  exact he i hi c.w c.I u hu), h.2⟩
theorem wk_rC {el : Nat → Nat → CV} (he : ∀ i, i < 3 → ∀ (w : World) (I : Nat → Prop) u, (el i 0).S w I u → (cInts (rC.getD i [])).S w I u) : Wk (.t (.one (.sl 3 1 el))) rC := fun c y h => ⟨S_elW (n := 3) h.1 (fun i j hi hj u hu => by
  obtain rfl : j = 0 := by omega
  exact he i hi c.w c.I u hu), h.2⟩
theorem wk_rD {el : Nat → Nat → CV} (he : ∀ i, i < 4 → ∀ (w : World) (I : Nat → Prop) u, (el i 0).S w I u → (cInts (rD.getD i [])).S w I u) : Wk (.t (.one (.sl 4 1 el))) rD := fun c y h => ⟨S_elW (n := 4) h.1 (fun i j hi hj u hu => by
  obtain rfl : j = 0 := by omega
  exact he i hi c.w c.I u hu), h.2⟩
theorem row_wk {w : World} {I : Nat → Prop} {el : Nat → Nat → CV} {a b : Int} {u : Value} (h : (CV.sl 2 1 el).S w I u) (h0 : el 0 0 = cI a) (h1 : el 1 0 = cI b) : (cInts [a, b]).S w I u := S_el (n := 2) h (fun i j hi hj => by
  obtain rfl : j = 0 := by omega
  rcases lt2 hi with rfl | rfl
  · exact h0
  · exact h1)
def SpAwake23 : Spec := .pure fun a r => a = [] ∧ r = vB true
theorem Γaw : ΓOk Tryd.prog (look [(44, SpTwo), (21, .pure SpCheckX), (19, .pure SpLongX), (23, .pure SpClearX)]) :=
  (((ΓOk.nil.cons clearX_ok Tryd.func23 (by kernel_rfl)).cons longX_ok Tryd.func19 (by kernel_rfl)).cons checkX_ok Tryd.func21 (by kernel_rfl)).cons two_ok Tryd.func44 (by kernel_rfl)
theorem awake23_ok : SpecOk Tryd.prog 15 SpAwake23 := by
  refine spec_of_code TZok Γaw mixed Tryd.func15 rfl ?_
  rintro args pre r post ⟨⟨rfl, rfl⟩, rfl, rfl⟩
  refine ⟨rfl, ?_⟩
  repeat' (first | refine st_v rfl rfl rfl rfl (fun _ => rfl) rfl (fun _ => rfl) ?_ | refine st_skip rfl rfl rfl ?_ | refine st_b rfl rfl rfl rfl (fun _ => rfl) rfl (fun h1 => ?_) (fun h1 => ?_) | refine st_n rfl rfl rfl rfl (fun _ => rfl) rfl (fun _ => rfl) ?_ | refine st_s rfl rfl rfl rfl (fun _ => rfl) rfl (fun _ => rfl) ?_ | refine c_seq ?_ | refine c_region ?_ | refine c_plain rfl ?_ | refine c_drawn rfl (by kernel_rfl) ?_ | refine st_nil ?_ | refine c_norm ?_ | refine c_cret ?_ | refine c_ret ?_ | refine c_true rfl ?_ | refine c_false rfl ?_ | refine c_skip ?_ | refine c_block ?_ | refine c_bnorm ?_ | refine c_bret ?_ | refine c_bexit rfl ?_ | refine c_bpass rfl ?_ | refine c_exit ?_ | refine c_cexit ?_ | refine c_lret ?_ | refine c_lexit ?_ | refine c_scope ?_ | refine c_label ?_ | refine c_snorm ?_ | refine c_sret ?_ | refine c_sexit ?_ | refine st_call rfl rfl rfl rfl rfl rfl rfl (call_s (fPl twoP) rfl ⟨rfl, rfl⟩ rfl rfl rfl rfl (cb_v rfl (fun _ => rfl) ?_)) | refine st_call rfl rfl rfl rfl rfl rfl rfl (call_v (fFlaw (4, 5, 0)) rfl ⟨twoP, rA, _, by decide, (wk_rA fun i hi w I u hu => by rcases lt6 hi with rfl | rfl | rfl | rfl | rfl | rfl <;> exact row_wk hu rfl rfl), rfl, (congrArg fFlaw chkA).symm⟩ rfl rfl rfl (cb_v rfl (fun _ => rfl) ?_)) | refine st_call rfl rfl rfl rfl rfl rfl rfl (call_v (fFlaw (0, 0, 0)) rfl ⟨twoP, rB, _, by decide, (wk_rB fun i hi w I u hu => by rcases lt12 hi with rfl | rfl | rfl | rfl | rfl | rfl | rfl | rfl | rfl | rfl | rfl | rfl <;> exact row_wk hu rfl rfl), rfl, (congrArg fFlaw chkB).symm⟩ rfl rfl rfl (cb_v rfl (fun _ => rfl) ?_)) | refine st_call rfl rfl rfl rfl rfl rfl rfl (call_s (fInts [2]) rfl ⟨rC, _, 0, 2, by decide, (wk_rC fun i hi w I u hu => by rcases lt3 hi with rfl | rfl | rfl <;> exact row_wk hu rfl rfl), rfl, (congrArg fInts lngC).symm⟩ rfl rfl rfl rfl (cb_v rfl (fun _ => rfl) ?_)) | refine st_call rfl rfl rfl rfl rfl rfl rfl (call_v (fI 2) rfl ⟨twoP, rD, _, 0, 1, 2, by decide, clrD, (wk_rD fun i hi w I u hu => by rcases lt4 hi with rfl | rfl | rfl | rfl <;> exact row_wk hu rfl rfl), rfl, rfl⟩ rfl rfl rfl (cb_v rfl (fun _ => rfl) ?_)) | fail)
  exact ⟨rfl, rfl, rfl, trivial⟩
end Tr
end Go.Proofs.YtpciieagafddcaaDoor.E
