/- Rows of lamps that are looked at, walked by the engine (own text): Check. -/
import Derived.Test.YtpciieagafddcaaDoorQiET1
namespace Go.Proofs.YtpciieagafddcaaDoor.E
open Go Go.RowKit Go.Proofs Go.Proofs.YtpciieagafddcaaDoorW.PrintWords Go.Proofs.YtpciieagafddcaaDoorW.PrintLast Go.Proofs.YtpciieagafddcaaDoorW.PrintMore Go.Proofs.YtpciieagafddcaaDoor.F
set_option linter.unusedVariables false
set_option linter.unusedSimpArgs false
set_option maxRecDepth 100000
set_option maxHeartbeats 8000000
attribute [local irreducible] acode callR
namespace Tr
open St Rw
open PX (fitP clashP cell beg leastF leastB nextB soonB groupB groupsB rowB fromB checkB RowOk)
def fFlaw (x : Int × Int × Int) : FV := .t (.agg [cI x.1, cI x.2.1, cI x.2.2])
def SpCheck : Spec := .pure fun a r => ∃ p rows, rows.length ≤ 1000 ∧ a = [fPl p, fRows rows] ∧ r = fFlaw (checkB p rows)
theorem ΓC : ΓOk Tryd.prog (look [(25, SpFit), (49, SpLmay), (26, SpClash), (47, SpLook)]) := (((ΓOk.nil.cons look_ok Tryd.func47 (by kernel_rfl)).cons clash_ok Tryd.func26 (by kernel_rfl)).cons lmay_ok Tryd.func49 (by kernel_rfl)).cons fit_ok Tryd.func25 (by kernel_rfl)
theorem row_el {e n sz : Nat} {el el' : Nat → Nat → CV} (h : el = el') : some (some (Blk.row e n sz el)) = some (some (Blk.row e n sz el')) := by rw [h]
section
variable {p : S25} {rows : List (List Int)} {i : Nat}
theorem from_flaw {a b : Int} (hR : fromB p rows (rows.length - i) i = checkB p rows) (hi : i < rows.length) (h : rowB p rows i = (a, b)) (ha : a ≠ 0) : checkB p rows = (a, (i : Int), b) := by
  rw [← hR, show rows.length - i = (rows.length - (i + 1)) + 1 by omega]
  unfold fromB
  rw [h, if_pos ha]
theorem from_next (hR : fromB p rows (rows.length - i) i = checkB p rows) (hi : i < rows.length) (h : RowOk p rows i) : fromB p rows (rows.length - (i + 1)) (i + 1) = checkB p rows := by
  rw [← hR, show rows.length - i = (rows.length - (i + 1)) + 1 by omega]
  conv => rhs; unfold fromB
  rw [if_neg (not_not_intro (PX.row_ok.2 h))]
theorem row_may (h : ¬ (lamp_mayB.f (rows.getD i []) = true ∧ (rows.getD i []).length = p.f0.length)) : rowB p rows i = (1, 0) := by
  unfold rowB
  rw [if_pos h]
theorem row_clash (h : lamp_mayB.f (rows.getD i []) = true ∧ (rows.getD i []).length = p.f0.length) (hc : clashP p (rows.getD i []) = true) : rowB p rows i = (2, 0) := by
  unfold rowB
  rw [if_neg (not_not_intro h), if_pos hc]
theorem row_groups (h : lamp_mayB.f (rows.getD i []) = true ∧ (rows.getD i []).length = p.f0.length) (hc : clashP p (rows.getD i []) = false) (hi : 0 < i) : rowB p rows i = groupsB p rows i p.f0.length 0 := by
  unfold rowB
  rw [if_neg (not_not_intro h), if_neg (by rw [hc]; decide), if_neg (by omega)]
theorem groups_hit {n g : Nat} {c : Int × Int} (hG : groupsB p rows i (n - g) g = c) (hg : g < n) (h1 : cell rows i g ≠ cell rows (i - 1) g) (h2 : groupB p rows i g ≠ 0) : c = (groupB p rows i g, (g : Int)) := by
  rw [← hG, show n - g = (n - (g + 1)) + 1 by omega]
  unfold groupsB
  rw [if_pos ⟨h1, h2⟩]
theorem groups_next {n g : Nat} {c : Int × Int} (hG : groupsB p rows i (n - g) g = c) (hg : g < n) (h : ¬ (cell rows i g ≠ cell rows (i - 1) g ∧ groupB p rows i g ≠ 0)) : groupsB p rows i (n - (g + 1)) (g + 1) = c := by
  rw [← hG, show n - g = (n - (g + 1)) + 1 by omega]
  conv => rhs; unfold groupsB
  rw [if_neg h]
theorem beg_one {g : Nat} (hi : 0 < i) : beg rows i g = if cell rows (i - 1) g = cell rows i g then beg rows (i - 1) g else i := by
  obtain ⟨m, rfl⟩ : ∃ m, i = m + 1 := ⟨i - 1, by omega⟩
  rfl
/-- Within a row. -/
structure InRow (p : S25) (rows : List (List Int)) (i g : Nat) (F : Nat → Int) : Prop where
  le : g ≤ p.f0.length
  old : ∀ a, a < g → F a = (beg rows i a : Int)
  new : ∀ a, g ≤ a → a < p.f0.length → F a = (beg rows (i - 1) a : Int)
  gr : 0 < i → groupsB p rows i (p.f0.length - g) g = groupsB p rows i p.f0.length 0
theorem InRow.next {g : Nat} {F : Nat → Int} (h : InRow p rows i g F) (hg : g < p.f0.length) (hc : i = 0 ∨ cell rows i g = cell rows (i - 1) g) : InRow p rows i (g + 1) F := by
  refine ⟨hg, fun a ha => ?_, fun a h1 h2 => h.new a (by omega) h2, fun hi => groups_next (h.gr hi) hg (fun hx => hx.1 (hc.resolve_left (by omega)))⟩
  by_cases hag : a = g
  · subst hag
    rw [h.new a (Nat.le_refl a) hg]
    by_cases hi : i = 0
    · subst hi; rfl
    · rw [beg_one (i := i) (by omega), if_pos ((hc.resolve_left hi).symm)]
  · exact h.old a (by omega)
theorem InRow.set {g : Nat} {F : Nat → Int} (h : InRow p rows i g F) (hg : g < p.f0.length) (hi : 0 < i) (hc : cell rows i g ≠ cell rows (i - 1) g) (h0 : groupB p rows i g = 0) : InRow p rows i (g + 1) (fun a => if a = g then (i : Int) else F a) := by
  refine ⟨hg, fun a ha => ?_, fun a h1 h2 => ?_, fun hi => groups_next (h.gr hi) hg (fun hx => hx.2 h0)⟩
  · by_cases hag : a = g
    · subst hag
      show (if a = a then (i : Int) else F a) = _
      rw [if_pos rfl, beg_one hi, if_neg (fun hx => hc hx.symm)]
    · show (if a = g then (i : Int) else F a) = _
      rw [if_neg hag]
      exact h.old a (by omega)
  · show (if a = g then (i : Int) else F a) = _
    rw [if_neg (by omega)]
    exact h.new a (by omega) h2
end
theorem check_ok : SpecOk Tryd.prog 21 SpCheck := by
  refine spec_of_code TZok ΓC mixed Tryd.func21 rfl ?_
  rintro args pre r post ⟨⟨p, rows, hrl, rfl, rfl⟩, rfl, rfl⟩
  refine ⟨rfl, ?_⟩
  by_cases hf : fitP p = true
  case neg =>
    have hfit : St.fitB p = false := Bool.eq_false_iff.2 hf
    repeat' (first | refine st_v rfl rfl rfl rfl (fun _ => rfl) rfl (fun _ => rfl) ?_ | refine st_skip rfl rfl rfl ?_ | refine st_b rfl rfl rfl rfl (fun _ => rfl) rfl (fun h1 => ?_) (fun h1 => ?_) | refine st_n rfl rfl rfl rfl (fun _ => rfl) rfl (fun _ => rfl) ?_ | refine st_s rfl rfl rfl rfl (fun _ => rfl) rfl (fun _ => rfl) ?_ | refine c_seq ?_ | refine c_region ?_ | refine c_plain rfl ?_ | refine c_drawn rfl (by kernel_rfl) ?_ | refine st_nil ?_ | refine c_norm ?_ | refine c_cret ?_ | refine c_ret ?_ | refine c_true rfl ?_ | refine c_false rfl ?_ | refine c_skip ?_ | refine c_block ?_ | refine c_bnorm ?_ | refine c_bret ?_ | refine c_bexit rfl ?_ | refine c_bpass rfl ?_ | refine c_exit ?_ | refine c_cexit ?_ | refine c_lret ?_ | refine c_lexit ?_ | refine c_scope ?_ | refine c_label ?_ | refine c_snorm ?_ | refine c_sret ?_ | refine c_sexit ?_ | refine st_call rfl rfl rfl rfl rfl rfl rfl (call_v (vB false) rfl ⟨p, rfl, (congrArg vB hfit).symm⟩ rfl rfl rfl (cb_v rfl (fun _ => rfl) ?_)) | fail)
    exact ⟨ret_cell rfl rfl rfl rfl rfl rfl (congrArg fFlaw (if_neg hf : checkB p rows = (1, 0, 0)).symm), rfl, rfl, trivial⟩
  have hfit : St.fitB p = true := hf
  have hFit := PX.fits_of hf
  have h8 := hFit.may.len8
  have hR0 : fromB p rows (rows.length - 0) 0 = checkB p rows := (if_pos hf : checkB p rows = fromB p rows rows.length 0).symm
  repeat' (first | refine st_v rfl rfl rfl rfl (fun _ => rfl) rfl (fun _ => rfl) ?_ | refine st_skip rfl rfl rfl ?_ | refine st_b rfl rfl rfl rfl (fun _ => rfl) rfl (fun h1 => ?_) (fun h1 => ?_) | refine st_n rfl rfl rfl rfl (fun _ => rfl) rfl (fun _ => rfl) ?_ | refine st_s rfl rfl rfl rfl (fun _ => rfl) rfl (fun _ => rfl) ?_ | refine c_seq ?_ | refine c_region ?_ | refine c_plain rfl ?_ | refine c_drawn rfl (by kernel_rfl) ?_ | refine st_nil ?_ | refine c_norm ?_ | refine c_cret ?_ | refine c_ret ?_ | refine c_true rfl ?_ | refine c_false rfl ?_ | refine c_skip ?_ | refine c_block ?_ | refine c_bnorm ?_ | refine c_bret ?_ | refine c_bexit rfl ?_ | refine c_bpass rfl ?_ | refine c_exit ?_ | refine c_cexit ?_ | refine c_lret ?_ | refine c_lexit ?_ | refine c_scope ?_ | refine c_label ?_ | refine c_snorm ?_ | refine c_sret ?_ | refine c_sexit ?_ | refine st_call rfl rfl rfl rfl rfl rfl rfl (call_v (vB true) rfl ⟨p, rfl, (congrArg vB hfit).symm⟩ rfl rfl rfl (cb_v rfl (fun _ => rfl) ?_)) | refine st_pn rfl rfl rfl rfl (fun _ => rfl) (⟨rfl, Int.natCast_nonneg _, (by show (p.f0.length : Int) * 8 ≤ 140737488355328; omega), (by show (p.f0.length : Int) ≤ 9223372036854775807; omega), by decide⟩) rfl (fun _ => rfl) ?_ | fail)
  refine c_loop (fun x : Nat × (Nat → Int) => x.1 ≤ rows.length ∧ fromB p rows (rows.length - x.1) x.1 = checkB p rows ∧ (∀ j, j < x.1 → RowOk p rows j) ∧ ∀ a, a < p.f0.length → x.2 a = (beg rows (x.1 - 1) a : Int)) (fun x => [(25, fI (x.1 : Int)), (23, fRows rows), (24, fI (rows.length : Int)), (2, pt 0), (3, pt 1), (4, pt 2), (5, pt 3), (6, pt 4), (8, .t (.one (.fn (.func 47) [] [(1, 0), (4, 0), (5, 0), (0, 0)])))]) (fun x => [(0, some (.var 25 (plCells p))), (1, some (.var 26 [cRows rows])), (2, some (.var 33 [cI 0, cI 0, cI 0])), (3, some (.var 33 [cI 0, cI 0, cI 0])), (4, some (.var 22 [.own 6])), (5, some (.var 76 [.fn (.func 46) [] [(4, 0)]])), (6, some (.row 3 p.f0.length 1 (elF x.2)))]) (fun x => rows.length - x.1) [0, 1, 2, 6, 11, 14, 10] (0, fun _ => 0) ⟨Nat.zero_le _, hR0, fun j hj => absurd hj (Nat.not_lt_zero j), fun a ha => rfl⟩ rfl ⟨rfl, rfl, rfl, rfl, rfl, rfl, rfl, rfl, rfl, rfl, rfl, rfl, rfl, rfl, rfl, rfl, rfl, rfl, trivial⟩ ⟨⟨rfl, rfl, rfl⟩, ⟨rfl, rfl, rfl⟩, ⟨rfl, rfl, rfl⟩, ⟨rfl, rfl, rfl⟩, ⟨rfl, rfl, rfl⟩, ⟨rfl, rfl, rfl⟩, ⟨row_el mk_elF, rfl, rfl⟩, trivial⟩ rfl (fun x hx => ?_)
  obtain ⟨i, F⟩ := x
  obtain ⟨hi, hR, hok, hF⟩ := hx
  have hi : i ≤ rows.length := hi
  have hR : fromB p rows (rows.length - i) i = checkB p rows := hR
  have hok : ∀ j, j < i → RowOk p rows j := hok
  have hF : ∀ a, a < p.f0.length → F a = (beg rows (i - 1) a : Int) := hF
  by_cases hil : i < rows.length
  case neg =>
    have wt : vB (decide ((i : Int) < (rows.length : Int))) = vB false := by rw [decide_eq_false (by omega)]
    have hend : checkB p rows = (0, 0, 0) := by
      rw [← hR, show rows.length - i = 0 by omega]; rfl
    repeat' (first | refine st_w 26 rfl rfl rfl rfl rfl (fun _ => rfl) wt (fun _ => rfl) ?_ | refine st_v rfl rfl rfl rfl (fun _ => rfl) rfl (fun _ => rfl) ?_ | refine st_skip rfl rfl rfl ?_ | refine st_b rfl rfl rfl rfl (fun _ => rfl) rfl (fun h1 => ?_) (fun h1 => ?_) | refine st_n rfl rfl rfl rfl (fun _ => rfl) rfl (fun _ => rfl) ?_ | refine st_s rfl rfl rfl rfl (fun _ => rfl) rfl (fun _ => rfl) ?_ | refine c_seq ?_ | refine c_region ?_ | refine c_plain rfl ?_ | refine c_drawn rfl (by kernel_rfl) ?_ | refine st_nil ?_ | refine c_norm ?_ | refine c_cret ?_ | refine c_ret ?_ | refine c_true rfl ?_ | refine c_false rfl ?_ | refine c_skip ?_ | refine c_block ?_ | refine c_bnorm ?_ | refine c_bret ?_ | refine c_bexit rfl ?_ | refine c_bpass rfl ?_ | refine c_exit ?_ | refine c_cexit ?_ | refine c_lret ?_ | refine c_lexit ?_ | refine c_scope ?_ | refine c_label ?_ | refine c_snorm ?_ | refine c_sret ?_ | refine c_sexit ?_ | fail)
    exact ⟨ret_cell rfl rfl rfl rfl rfl rfl (congrArg fFlaw (hend).symm), rfl, rfl, trivial⟩
  have wt : vB (decide ((i : Int) < (rows.length : Int))) = vB true := by rw [decide_eq_true (by omega)]
  repeat' (first | refine st_w 26 rfl rfl rfl rfl rfl (fun _ => rfl) wt (fun _ => rfl) ?_ | refine st_v rfl rfl rfl rfl (fun _ => rfl) rfl (fun _ => rfl) ?_ | refine st_skip rfl rfl rfl ?_ | refine st_b rfl rfl rfl rfl (fun _ => rfl) rfl (fun h1 => ?_) (fun h1 => ?_) | refine st_n rfl rfl rfl rfl (fun _ => rfl) rfl (fun _ => rfl) ?_ | refine st_s rfl rfl rfl rfl (fun _ => rfl) rfl (fun _ => rfl) ?_ | refine c_seq ?_ | refine c_region ?_ | refine c_plain rfl ?_ | refine c_drawn rfl (by kernel_rfl) ?_ | refine st_nil ?_ | refine c_norm ?_ | refine c_cret ?_ | refine c_ret ?_ | refine c_true rfl ?_ | refine c_false rfl ?_ | refine c_skip ?_ | refine c_block ?_ | refine c_bnorm ?_ | refine c_bret ?_ | refine c_bexit rfl ?_ | refine c_bpass rfl ?_ | refine c_exit ?_ | refine c_cexit ?_ | refine c_lret ?_ | refine c_lexit ?_ | refine c_scope ?_ | refine c_label ?_ | refine c_snorm ?_ | refine c_sret ?_ | refine c_sexit ?_ | refine st_call rfl rfl rfl rfl rfl rfl rfl (call_v (vB (lamp_mayB.f (rows.getD i []))) rfl ⟨rows.getD i [], rfl, rfl⟩ rfl rfl rfl (cb_b rfl (fun h1 => ?_) (fun h1 => ?_))) | refine st_call rfl rfl rfl rfl rfl rfl rfl (call_v (vB (clashP p (rows.getD i []))) rfl ⟨p, rows.getD i [], rfl, rfl⟩ rfl rfl rfl (cb_b rfl (fun h1 => ?_) (fun h1 => ?_))) | refine st_pv rfl rfl rfl rfl (fun _ => rfl) (show 0 ≤ (i : Int) ∧ (i : Int) < (rows.length : Int) by omega) rfl (fun _ => rfl) ?_ | fail)
  · have hn : (((rows.getD i []).length : Int) != (p.f0.length : Int)) = true := by assumption
    exact ⟨ret_cell rfl rfl rfl rfl rfl rfl (congrArg fFlaw (from_flaw hR hil (row_may (fun hx => by rw [hx.2] at hn; simp at hn)) (by decide)).symm), rfl, rfl, trivial⟩
  · have hn : (((rows.getD i []).length : Int) != (p.f0.length : Int)) = false := by assumption
    have hl : (rows.getD i []).length = p.f0.length := by have := bne_eq_false_iff_eq.1 hn; omega
    exact ⟨ret_cell rfl rfl rfl rfl rfl rfl (congrArg fFlaw (from_flaw hR hil (row_clash ⟨by assumption, hl⟩ (by assumption)) (by decide)).symm), rfl, rfl, trivial⟩
  · have hn : (((rows.getD i []).length : Int) != (p.f0.length : Int)) = false := by assumption
    have hl : (rows.getD i []).length = p.f0.length := by have := bne_eq_false_iff_eq.1 hn; omega
    have hm : lamp_mayB.f (rows.getD i []) = true := by assumption
    have hc : clashP p (rows.getD i []) = false := by assumption
    clear hn
    refine c_loop (fun x : Nat × (Nat → Int) => InRow p rows i x.1 x.2) (fun x => [(50, fI (x.1 : Int)), (49, fI ((rows.getD i []).length : Int)), (9, fI (i : Int)), (10, fInts (rows.getD i [])), (25, fI (i : Int)), (23, fRows rows), (24, fI (rows.length : Int)), (2, pt 0), (3, pt 1), (4, pt 2), (5, pt 3), (6, pt 4), (8, .t (.one (.fn (.func 47) [] [(1, 0), (4, 0), (5, 0), (0, 0)])))]) (fun x => [(0, some (.var 25 (plCells p))), (1, some (.var 26 [cRows rows])), (2, some (.var 33 [cI 0, cI 0, cI 0])), (3, some (.var 33 [cI 0, cI 0, cI 0])), (4, some (.var 22 [.own 6])), (5, some (.var 76 [.fn (.func 46) [] [(4, 0)]])), (6, some (.row 3 p.f0.length 1 (elF x.2)))]) (fun x => p.f0.length - x.1) [0, 1, 2, 3, 4, 5, 6] (0, F) ⟨Nat.zero_le _, fun a ha => absurd ha (Nat.not_lt_zero a), fun a _ ha => hF a ha, fun _ => rfl⟩ rfl ⟨rfl, rfl, rfl, rfl, rfl, rfl, rfl, rfl, rfl, rfl, rfl, rfl, rfl, rfl, rfl, rfl, rfl, rfl, rfl, rfl, rfl, rfl, rfl, rfl, rfl, rfl, trivial⟩ ⟨⟨rfl, rfl, rfl⟩, ⟨rfl, rfl, rfl⟩, ⟨rfl, rfl, rfl⟩, ⟨rfl, rfl, rfl⟩, ⟨rfl, rfl, rfl⟩, ⟨rfl, rfl, rfl⟩, ⟨rfl, rfl, rfl⟩, trivial⟩ rfl (fun x hx => ?_)
    obtain ⟨g, F⟩ := x
    have hin : InRow p rows i g F := hx
    clear hx
    by_cases hgl : g < p.f0.length
    case neg =>
      have wt2 : vB (decide ((g : Int) < ((rows.getD i []).length : Int))) = vB false := by rw [decide_eq_false (by omega)]
      have hgl : g = p.f0.length := by have := hin.le; omega
      repeat' (first | refine st_w 51 rfl rfl rfl rfl rfl (fun _ => rfl) wt2 (fun _ => rfl) ?_ | refine st_v rfl rfl rfl rfl (fun _ => rfl) rfl (fun _ => rfl) ?_ | refine st_skip rfl rfl rfl ?_ | refine st_b rfl rfl rfl rfl (fun _ => rfl) rfl (fun h1 => ?_) (fun h1 => ?_) | refine st_n rfl rfl rfl rfl (fun _ => rfl) rfl (fun _ => rfl) ?_ | refine st_s rfl rfl rfl rfl (fun _ => rfl) rfl (fun _ => rfl) ?_ | refine c_seq ?_ | refine c_region ?_ | refine c_plain rfl ?_ | refine c_drawn rfl (by kernel_rfl) ?_ | refine st_nil ?_ | refine c_norm ?_ | refine c_cret ?_ | refine c_ret ?_ | refine c_true rfl ?_ | refine c_false rfl ?_ | refine c_skip ?_ | refine c_block ?_ | refine c_bnorm ?_ | refine c_bret ?_ | refine c_bexit rfl ?_ | refine c_bpass rfl ?_ | refine c_exit ?_ | refine c_cexit ?_ | refine c_lret ?_ | refine c_lexit ?_ | refine c_scope ?_ | refine c_label ?_ | refine c_snorm ?_ | refine c_sret ?_ | refine c_sexit ?_ | fail)
      have hrow : RowOk p rows i := ⟨hm, hl, hc, fun hi0 a ha hch => (PX.groups_none p.f0.length 0).1 (by rw [← hin.gr hi0, hgl, Nat.sub_self]; rfl) a (Nat.zero_le a) (by omega) hch⟩
      exact c_lnorm [0, 1, 2, 3, 4, 5, 6] (i + 1, F) ⟨hil, from_next hR hil hrow, fun j hj => if e : j = i then by rw [e]; exact hrow else hok j (by have : j < i + 1 := hj; omega), fun a ha => hin.old a (by omega)⟩ (by show rows.length - (i + 1) < rows.length - i; omega) rfl ⟨tk_eq ((St.wr64 (by omega) (by omega)).trans (by omega : (i : Int) + 1 = ((i + 1 : Nat) : Int))), rfl, rfl, rfl, rfl, rfl, rfl, rfl, rfl, rfl, rfl, rfl, rfl, rfl, rfl, rfl, rfl, rfl, trivial⟩ ⟨⟨rfl, rfl, rfl⟩, ⟨rfl, rfl, rfl⟩, ⟨rfl, rfl, rfl⟩, ⟨rfl, rfl, rfl⟩, ⟨rfl, rfl, rfl⟩, ⟨rfl, rfl, rfl⟩, ⟨rfl, rfl, rfl⟩, trivial⟩ rfl
    have wt2 : vB (decide ((g : Int) < ((rows.getD i []).length : Int))) = vB true := by rw [decide_eq_true (by omega)]
    by_cases hi0 : i = 0
    · have wz : vB ((i : Int) == 0) = vB true := by rw [hi0]; rfl
      repeat' (first | refine st_w 51 rfl rfl rfl rfl rfl (fun _ => rfl) wt2 (fun _ => rfl) ?_ | refine st_w 54 rfl rfl rfl rfl rfl (fun _ => rfl) wz (fun _ => rfl) ?_ | refine st_v rfl rfl rfl rfl (fun _ => rfl) rfl (fun _ => rfl) ?_ | refine st_skip rfl rfl rfl ?_ | refine st_b rfl rfl rfl rfl (fun _ => rfl) rfl (fun h1 => ?_) (fun h1 => ?_) | refine st_n rfl rfl rfl rfl (fun _ => rfl) rfl (fun _ => rfl) ?_ | refine st_s rfl rfl rfl rfl (fun _ => rfl) rfl (fun _ => rfl) ?_ | refine c_seq ?_ | refine c_region ?_ | refine c_plain rfl ?_ | refine c_drawn rfl (by kernel_rfl) ?_ | refine st_nil ?_ | refine c_norm ?_ | refine c_cret ?_ | refine c_ret ?_ | refine c_true rfl ?_ | refine c_false rfl ?_ | refine c_skip ?_ | refine c_block ?_ | refine c_bnorm ?_ | refine c_bret ?_ | refine c_bexit rfl ?_ | refine c_bpass rfl ?_ | refine c_exit ?_ | refine c_cexit ?_ | refine c_lret ?_ | refine c_lexit ?_ | refine c_scope ?_ | refine c_label ?_ | refine c_snorm ?_ | refine c_sret ?_ | refine c_sexit ?_ | fail)
      exact c_lnorm [0, 1, 2, 3, 4, 5, 6] (g + 1, F) (hin.next hgl (.inl hi0)) (by show p.f0.length - (g + 1) < p.f0.length - g; omega) rfl ⟨tk_eq ((St.wr64 (by omega) (by omega)).trans (by omega : (g : Int) + 1 = ((g + 1 : Nat) : Int))), rfl, rfl, rfl, rfl, rfl, rfl, rfl, rfl, rfl, rfl, rfl, rfl, rfl, rfl, rfl, rfl, rfl, rfl, rfl, rfl, rfl, rfl, rfl, rfl, rfl, trivial⟩ ⟨⟨rfl, rfl, rfl⟩, ⟨rfl, rfl, rfl⟩, ⟨rfl, rfl, rfl⟩, ⟨rfl, rfl, rfl⟩, ⟨rfl, rfl, rfl⟩, ⟨rfl, rfl, rfl⟩, ⟨rfl, rfl, rfl⟩, trivial⟩ rfl
    · have wz : vB ((i : Int) == 0) = vB false := by
        congr 1
        exact beq_eq_false_iff_ne.2 (by omega)
      have w1 : vI .i64 (IntKind.i64.wrap ((i : Int) - 1)) = fI ((i - 1 : Nat) : Int) := vI_eq ((St.wr64 (by omega) (by omega)).trans (by omega))
      have hl1 := (hok (i - 1) (by omega)).len
      have hL : LookOk p rows i g F := ⟨hf, hrl, hil, by omega, hgl, fun k hk => if e : k = i then by rw [e]; exact hl else (hok k (by omega)).len, PY.rng_cell (hok (i - 1) (by omega)) hgl, hin.new g (Nat.le_refl g) hgl⟩
      repeat' (first | refine st_w 51 rfl rfl rfl rfl rfl (fun _ => rfl) wt2 (fun _ => rfl) ?_ | refine st_w 54 rfl rfl rfl rfl rfl (fun _ => rfl) wz (fun _ => rfl) ?_ | refine st_w 62 rfl rfl rfl rfl rfl (fun _ => rfl) w1 (fun _ => rfl) ?_ | refine st_v rfl rfl rfl rfl (fun _ => rfl) rfl (fun _ => rfl) ?_ | refine st_skip rfl rfl rfl ?_ | refine st_b rfl rfl rfl rfl (fun _ => rfl) rfl (fun h1 => ?_) (fun h1 => ?_) | refine st_n rfl rfl rfl rfl (fun _ => rfl) rfl (fun _ => rfl) ?_ | refine st_s rfl rfl rfl rfl (fun _ => rfl) rfl (fun _ => rfl) ?_ | refine c_seq ?_ | refine c_region ?_ | refine c_plain rfl ?_ | refine c_drawn rfl (by kernel_rfl) ?_ | refine st_nil ?_ | refine c_norm ?_ | refine c_cret ?_ | refine c_ret ?_ | refine c_true rfl ?_ | refine c_false rfl ?_ | refine c_skip ?_ | refine c_block ?_ | refine c_bnorm ?_ | refine c_bret ?_ | refine c_bexit rfl ?_ | refine c_bpass rfl ?_ | refine c_exit ?_ | refine c_cexit ?_ | refine c_lret ?_ | refine c_lexit ?_ | refine c_scope ?_ | refine c_label ?_ | refine c_snorm ?_ | refine c_sret ?_ | refine c_sexit ?_ | refine st_call rfl rfl rfl rfl rfl rfl rfl (call_ro [1, 4, 5, 0, 6] [fI (i : Int), fI (g : Int), pt 0, pt 1, pt 2, pt 3] (lookPre p rows p.f0.length F) (fI (groupB p rows i g)) ⟨p, rows, i, g, F, hL, rfl, rfl, rfl⟩ rfl rfl ⟨rfl, rfl, rfl, rfl, rfl, trivial⟩ (cb_v rfl (fun _ => rfl) ?_)) | refine st_pv rfl rfl rfl rfl (fun _ => rfl) (show 0 ≤ (g : Int) ∧ (g : Int) < ((rows.getD i []).length : Int) by omega) rfl (fun _ => rfl) ?_ | refine st_pv rfl rfl rfl rfl (fun _ => rfl) (show 0 ≤ ((i - 1 : Nat) : Int) ∧ ((i - 1 : Nat) : Int) < (rows.length : Int) by omega) rfl (fun _ => rfl) ?_ | refine st_pv rfl rfl rfl rfl (fun _ => rfl) (show 0 ≤ (g : Int) ∧ (g : Int) < ((rows.getD (i - 1) []).length : Int) by omega) rfl (fun _ => rfl) ?_ | refine st_pv rfl rfl rfl rfl (fun _ => rfl) (show 0 ≤ (g : Int) ∧ (g : Int) < (p.f0.length : Int) by omega) rfl (fun _ => rfl) ?_ | refine st_ps rfl rfl rfl rfl (fun _ => rfl) (show g < p.f0.length by omega) rfl (fun _ => rfl) ?_ | fail)
      · have he : (cell rows i g == cell rows (i - 1) g) = true := by assumption
        exact c_lnorm [0, 1, 2, 3, 4, 5, 6] (g + 1, F) (hin.next hgl (.inr (by simpa using he))) (by show p.f0.length - (g + 1) < p.f0.length - g; omega) rfl ⟨tk_eq ((St.wr64 (by omega) (by omega)).trans (by omega : (g : Int) + 1 = ((g + 1 : Nat) : Int))), rfl, rfl, rfl, rfl, rfl, rfl, rfl, rfl, rfl, rfl, rfl, rfl, rfl, rfl, rfl, rfl, rfl, rfl, rfl, rfl, rfl, rfl, rfl, rfl, rfl, trivial⟩ ⟨⟨rfl, rfl, rfl⟩, ⟨rfl, rfl, rfl⟩, ⟨rfl, rfl, rfl⟩, ⟨rfl, rfl, rfl⟩, ⟨rfl, rfl, rfl⟩, ⟨rfl, rfl, rfl⟩, ⟨rfl, rfl, rfl⟩, trivial⟩ rfl
      · have he : (cell rows i g == cell rows (i - 1) g) = false := by assumption
        have hg0 : (groupB p rows i g != 0) = true := by assumption
        have hg0 : groupB p rows i g ≠ 0 := by simpa using hg0
        have hh := groups_hit (hin.gr (by omega)) hgl (by simpa using he) hg0
        exact ⟨ret_cell rfl rfl rfl rfl rfl rfl (congrArg fFlaw (from_flaw hR hil ((row_groups ⟨hm, hl⟩ hc (by omega)).trans hh) hg0).symm), rfl, rfl, trivial⟩
      · have he : (cell rows i g == cell rows (i - 1) g) = false := by assumption
        have hg0 : (groupB p rows i g != 0) = false := by assumption
        have hg0 : groupB p rows i g = 0 := by simpa using hg0
        exact c_lnorm [0, 1, 2, 3, 4, 5, 6] (g + 1, fun a => if a = g then (i : Int) else F a) (hin.set hgl (by omega) (by simpa using he) hg0) (by show p.f0.length - (g + 1) < p.f0.length - g; omega) rfl ⟨tk_eq ((St.wr64 (by omega) (by omega)).trans (by omega : (g : Int) + 1 = ((g + 1 : Nat) : Int))), rfl, rfl, rfl, rfl, rfl, rfl, rfl, rfl, rfl, rfl, rfl, rfl, rfl, rfl, rfl, rfl, rfl, rfl, rfl, rfl, rfl, rfl, rfl, rfl, rfl, trivial⟩ ⟨⟨rfl, rfl, rfl⟩, ⟨rfl, rfl, rfl⟩, ⟨rfl, rfl, rfl⟩, ⟨rfl, rfl, rfl⟩, ⟨rfl, rfl, rfl⟩, ⟨rfl, rfl, rfl⟩, ⟨row_el (set_elF F g (i : Int)), rfl, rfl⟩, trivial⟩ rfl
  · exact ⟨ret_cell rfl rfl rfl rfl rfl rfl (congrArg fFlaw (from_flaw hR hil (row_may (fun hx => absurd hx.1 (by rw [show lamp_mayB.f (rows.getD i []) = false by assumption]; decide))) (by decide)).symm), rfl, rfl, trivial⟩
end Tr
end Go.Proofs.YtpciieagafddcaaDoor.E
