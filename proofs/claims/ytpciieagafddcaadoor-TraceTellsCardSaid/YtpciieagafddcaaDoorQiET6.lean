/- The document's layer 23, walked by the engine: what stands between two groups (own text). -/
import Derived.Test.YtpciieagafddcaaDoorQiET3
import Derived.Test.YtpciieagafddcaaDoorQiET4
namespace Go.Proofs.YtpciieagafddcaaDoor.E
open Go Go.RowKit Go.Proofs Go.Proofs.YtpciieagafddcaaDoorW.PrintWords Go.Proofs.YtpciieagafddcaaDoorW.PrintLast Go.Proofs.YtpciieagafddcaaDoorW.PrintMore Go.Proofs.YtpciieagafddcaaDoor.F
set_option linter.unusedVariables false
set_option linter.unusedSimpArgs false
set_option maxRecDepth 100000
set_option maxHeartbeats 8000000
attribute [local irreducible] acode callR
namespace Tr
open St Rw
open PX (Open LastIs SoFar fitP clashP cell beg leastF leastB nextB soonB groupB groupsB rowB fromB checkB RowOk onB Betw LeastI ClearIs)
def SpRon : Spec := .pure fun a r => ∃ p rows, ∃ i g : Nat, i < rows.length ∧ g < p.f0.length ∧ a = [fPl p, fRows rows, fI (i : Int), fI (g : Int)] ∧ r = vB (onB p rows i g)
theorem ron_ok : SpecOk Tryd.prog 53 SpRon := by
  refine spec_of_code TZok ΓOk.nil mixed Tryd.func53 rfl ?_
  rintro args pre r post ⟨⟨p, rows, i, g, hi, hg, rfl, rfl⟩, rfl, rfl⟩
  refine ⟨rfl, ?_⟩
  by_cases hl : (rows.getD i []).length = p.f0.length
  · have wl : vB (((rows.getD i []).length : Int) == (p.f0.length : Int)) = vB true := by rw [← dec_nat, decide_eq_true hl]
    repeat' (first | refine st_w 17 rfl rfl rfl rfl rfl (fun _ => rfl) wl (fun _ => rfl) ?_ | refine st_v rfl rfl rfl rfl (fun _ => rfl) rfl (fun _ => rfl) ?_ | refine st_skip rfl rfl rfl ?_ | refine st_b rfl rfl rfl rfl (fun _ => rfl) rfl (fun h1 => ?_) (fun h1 => ?_) | refine st_n rfl rfl rfl rfl (fun _ => rfl) rfl (fun _ => rfl) ?_ | refine st_s rfl rfl rfl rfl (fun _ => rfl) rfl (fun _ => rfl) ?_ | refine c_seq ?_ | refine c_region ?_ | refine c_plain rfl ?_ | refine c_drawn rfl (by kernel_rfl) ?_ | refine st_nil ?_ | refine c_norm ?_ | refine c_cret ?_ | refine c_ret ?_ | refine c_true rfl ?_ | refine c_false rfl ?_ | refine c_skip ?_ | refine c_block ?_ | refine c_bnorm ?_ | refine c_bret ?_ | refine c_bexit rfl ?_ | refine c_bpass rfl ?_ | refine c_exit ?_ | refine c_cexit ?_ | refine c_lret ?_ | refine c_lexit ?_ | refine c_scope ?_ | refine c_label ?_ | refine c_snorm ?_ | refine c_sret ?_ | refine c_sexit ?_ | refine st_pv rfl rfl rfl rfl (fun _ => rfl) (show 0 ≤ (i : Int) ∧ (i : Int) < (rows.length : Int) by omega) rfl (fun _ => rfl) ?_ | refine st_pv rfl rfl rfl rfl (fun _ => rfl) (show 0 ≤ (g : Int) ∧ (g : Int) < ((rows.getD i []).length : Int) by omega) rfl (fun _ => rfl) ?_ | fail)
    all_goals exact ⟨ret_b (by unfold onB; rw [decide_eq_true hl, Bool.true_and, dec_bne]; exact Eq.symm (by assumption)), rfl, rfl, trivial⟩
  · have wl : vB (((rows.getD i []).length : Int) == (p.f0.length : Int)) = vB false := by rw [← dec_nat, decide_eq_false hl]
    repeat' (first | refine st_w 17 rfl rfl rfl rfl rfl (fun _ => rfl) wl (fun _ => rfl) ?_ | refine st_v rfl rfl rfl rfl (fun _ => rfl) rfl (fun _ => rfl) ?_ | refine st_skip rfl rfl rfl ?_ | refine st_b rfl rfl rfl rfl (fun _ => rfl) rfl (fun h1 => ?_) (fun h1 => ?_) | refine st_n rfl rfl rfl rfl (fun _ => rfl) rfl (fun _ => rfl) ?_ | refine st_s rfl rfl rfl rfl (fun _ => rfl) rfl (fun _ => rfl) ?_ | refine c_seq ?_ | refine c_region ?_ | refine c_plain rfl ?_ | refine c_drawn rfl (by kernel_rfl) ?_ | refine st_nil ?_ | refine c_norm ?_ | refine c_cret ?_ | refine c_ret ?_ | refine c_true rfl ?_ | refine c_false rfl ?_ | refine c_skip ?_ | refine c_block ?_ | refine c_bnorm ?_ | refine c_bret ?_ | refine c_bexit rfl ?_ | refine c_bpass rfl ?_ | refine c_exit ?_ | refine c_cexit ?_ | refine c_lret ?_ | refine c_lexit ?_ | refine c_scope ?_ | refine c_label ?_ | refine c_snorm ?_ | refine c_sret ?_ | refine c_sexit ?_ | refine st_pv rfl rfl rfl rfl (fun _ => rfl) (show 0 ≤ (i : Int) ∧ (i : Int) < (rows.length : Int) by omega) rfl (fun _ => rfl) ?_ | fail)
    exact ⟨ret_b (by unfold onB; rw [decide_eq_false hl]; rfl), rfl, rfl, trivial⟩
theorem Γrcl : ΓOk Tryd.prog (look [(50, SpRfit), (53, SpRon)]) := (ΓOk.nil.cons ron_ok Tryd.func53 (by kernel_rfl)).cons rfit_ok Tryd.func50 (by kernel_rfl)
/-- What begins ahead of a row. -/
abbrev From (p : S25) (rows : List (List Int)) (g h i : Nat) (a b : Nat) : Prop := Betw p rows g h a b ∧ a < i
section
variable {p : S25} {rows : List (List Int)} {g h i k : Nat} {r r' : Int}
theorem fr_none (hr : LeastI (From p rows g h i) r) (hn : ∀ b, ¬ Betw p rows g h i b) : LeastI (From p rows g h (i + 1)) r := hr.congr fun a b => ⟨fun ⟨h1, h2⟩ => ⟨h1, by omega⟩, fun ⟨h1, h2⟩ => ⟨h1, by
  by_cases e : a = i
  · subst e; exact absurd h1 (hn b)
  · omega⟩⟩
def Free (p : S25) (rows : List (List Int)) (g h i k : Nat) : Prop := ∀ j, i < j → j < k → onB p rows j g = false ∧ onB p rows j h = false
theorem fr_one (hik : i < k) (hk : k < rows.length) (hr : LeastI (From p rows g h i) r) (hG : onB p rows i g = true) (hF : Free p rows g h i k) (hH : onB p rows k h = true) (hr' : r' = if r = -1 ∨ (k : Int) - (i : Int) - 1 < r then (k : Int) - (i : Int) - 1 else r) : LeastI (From p rows g h (i + 1)) r' := by
  refine hr.more hik (fun a b => ?_) hr'
  constructor
  · rintro ⟨h1, h2⟩
    by_cases e : a = i
    · subst e
      refine .inr ⟨rfl, ?_⟩
      rcases Nat.lt_trichotomy b k with hb | hb | hb
      · have := (hF b h1.1 hb).2
        rw [h1.2.2.2.1] at this; cases this
      · exact hb
      · have := (h1.2.2.2.2 k hik hb).2
        rw [hH] at this; cases this
    · exact .inl ⟨h1, by omega⟩
  · rintro (⟨h1, h2⟩ | ⟨rfl, rfl⟩)
    · exact ⟨h1, by omega⟩
    · exact ⟨⟨hik, hk, hG, hH, hF⟩, by omega⟩
theorem fr_cut (hik : i < k) (hF : Free p rows g h i k) (hH : onB p rows k h = false) (hG : onB p rows k g = true) (b : Nat) : ¬ Betw p rows g h i b := fun h1 => by
  rcases Nat.lt_trichotomy b k with hb | hb | hb
  · have := (hF b h1.1 hb).2
    rw [h1.2.2.2.1] at this; cases this
  · have := h1.2.2.2.1
    rw [hb, hH] at this; cases this
  · have := (h1.2.2.2.2 k hik hb).1
    rw [hG] at this; cases this
theorem neg_of (hr : LeastI (From p rows g h i) r) : decide (r < 0) = decide (r = -1) := by
  rw [decide_eq_decide]
  rcases hr with ⟨rfl, -⟩ | ⟨⟨a, b, h1, h2, rfl⟩, -⟩
  · exact ⟨fun _ => rfl, fun _ => by decide⟩
  · omega
end
theorem rclear_ok : SpecOk Tryd.prog 24 SpClear := by
  refine spec_of_code TZok Γrcl mixed Tryd.func24 rfl ?_
  rintro args pre r post ⟨⟨p, rows, g, h, x, hrl, hx, rfl, rfl⟩, rfl, rfl⟩
  refine ⟨rfl, ?_⟩
  by_cases hc : fitP p = true ∧ 0 ≤ g ∧ 0 ≤ h ∧ g < (p.f0.length : Int) ∧ h < (p.f0.length : Int)
  case neg =>
    obtain ⟨b, hb⟩ : ∃ b, fitP p = b := ⟨_, rfl⟩
    have hx1 : x = -1 := by unfold ClearIs at hx; rwa [if_neg hc] at hx
    repeat' (first | refine st_v rfl rfl rfl rfl (fun _ => rfl) rfl (fun _ => rfl) ?_ | refine st_skip rfl rfl rfl ?_ | refine st_b rfl rfl rfl rfl (fun _ => rfl) rfl (fun h1 => ?_) (fun h1 => ?_) | refine st_n rfl rfl rfl rfl (fun _ => rfl) rfl (fun _ => rfl) ?_ | refine st_s rfl rfl rfl rfl (fun _ => rfl) rfl (fun _ => rfl) ?_ | refine c_seq ?_ | refine c_region ?_ | refine c_plain rfl ?_ | refine c_drawn rfl (by kernel_rfl) ?_ | refine st_nil ?_ | refine c_norm ?_ | refine c_cret ?_ | refine c_ret ?_ | refine c_true rfl ?_ | refine c_false rfl ?_ | refine c_skip ?_ | refine c_block ?_ | refine c_bnorm ?_ | refine c_bret ?_ | refine c_bexit rfl ?_ | refine c_bpass rfl ?_ | refine c_exit ?_ | refine c_cexit ?_ | refine c_lret ?_ | refine c_lexit ?_ | refine c_scope ?_ | refine c_label ?_ | refine c_snorm ?_ | refine c_sret ?_ | refine c_sexit ?_ | refine st_call rfl rfl rfl rfl rfl rfl rfl (call_v (vB b) rfl ⟨p, rfl, by rw [hb]⟩ rfl rfl rfl (cb_b rfl (fun h1 => ?_) (fun h1 => ?_))) | fail)
    all_goals first
      | exact ⟨tk_eq hx1.symm, rfl, rfl, trivial⟩
      | (refine absurd ⟨hb.trans (by assumption), ?_⟩ hc
         clear hx hc
         simp only [decide_eq_true_eq, decide_eq_false_iff_not] at *
         omega)
  obtain ⟨hf, hg0, hh0, hgn, hhn⟩ := hc
  obtain ⟨g, rfl⟩ := Int.eq_ofNat_of_zero_le hg0
  obtain ⟨h, rfl⟩ := Int.eq_ofNat_of_zero_le hh0
  have hL : LeastI (Betw p rows g h) x := by
    unfold ClearIs at hx
    rwa [if_pos ⟨hf, hg0, hh0, hgn, hhn⟩] at hx
  have v1 : vB (decide ((g : Int) < 0)) = vB false := by rw [decide_eq_false (by omega)]
  have v2 : vB (decide ((h : Int) < 0)) = vB false := by rw [decide_eq_false (by omega)]
  have v3 : vB (decide ((g : Int) ≥ (p.f0.length : Int))) = vB false := by rw [decide_eq_false (by omega)]
  have v4 : vB (decide ((h : Int) ≥ (p.f0.length : Int))) = vB false := by rw [decide_eq_false (by omega)]
  repeat' (first | refine st_w 22 rfl rfl rfl rfl rfl (fun _ => rfl) v1 (fun _ => rfl) ?_ | refine st_w 26 rfl rfl rfl rfl rfl (fun _ => rfl) v2 (fun _ => rfl) ?_ | refine st_w 33 rfl rfl rfl rfl rfl (fun _ => rfl) v3 (fun _ => rfl) ?_ | refine st_w 40 rfl rfl rfl rfl rfl (fun _ => rfl) v4 (fun _ => rfl) ?_ | refine st_v rfl rfl rfl rfl (fun _ => rfl) rfl (fun _ => rfl) ?_ | refine st_skip rfl rfl rfl ?_ | refine st_b rfl rfl rfl rfl (fun _ => rfl) rfl (fun h1 => ?_) (fun h1 => ?_) | refine st_n rfl rfl rfl rfl (fun _ => rfl) rfl (fun _ => rfl) ?_ | refine st_s rfl rfl rfl rfl (fun _ => rfl) rfl (fun _ => rfl) ?_ | refine c_seq ?_ | refine c_region ?_ | refine c_plain rfl ?_ | refine c_drawn rfl (by kernel_rfl) ?_ | refine st_nil ?_ | refine c_norm ?_ | refine c_cret ?_ | refine c_ret ?_ | refine c_true rfl ?_ | refine c_false rfl ?_ | refine c_skip ?_ | refine c_block ?_ | refine c_bnorm ?_ | refine c_bret ?_ | refine c_bexit rfl ?_ | refine c_bpass rfl ?_ | refine c_exit ?_ | refine c_cexit ?_ | refine c_lret ?_ | refine c_lexit ?_ | refine c_scope ?_ | refine c_label ?_ | refine c_snorm ?_ | refine c_sret ?_ | refine c_sexit ?_ | refine st_call rfl rfl rfl rfl rfl rfl rfl (call_v (vB true) rfl ⟨p, rfl, by rw [hf]⟩ rfl rfl rfl (cb_v rfl (fun _ => rfl) ?_)) | fail)
  clear v1 v2 v3 v4
  refine c_loop (fun s : Nat × Int => s.1 ≤ rows.length ∧ LeastI (From p rows g h s.1) s.2) (fun s => [(11, fI (s.1 : Int)), (10, fI s.2), (1, fRows rows), (2, fI (g : Int)), (3, fI (h : Int)), (4, pt 0)]) (fun _ => [(0, some (.var 25 (plCells p)))]) (fun s => rows.length - s.1) [0] (0, -1) ⟨Nat.zero_le _, .inl ⟨rfl, fun a b hx => by have := hx.2; omega⟩⟩ rfl ⟨rfl, rfl, rfl, rfl, rfl, rfl, rfl, rfl, rfl, rfl, rfl, rfl, trivial⟩ ⟨⟨rfl, rfl, rfl⟩, trivial⟩ rfl (fun s hs => ?_)
  obtain ⟨i, out⟩ := s
  obtain ⟨hi, hle⟩ := hs
  have hi : i ≤ rows.length := hi
  have hle : LeastI (From p rows g h i) out := hle
  by_cases hil : i < rows.length
  case neg =>
    obtain rfl : i = rows.length := by omega
    have wt : vB (decide ((rows.length : Int) < (rows.length : Int))) = vB false := by rw [decide_eq_false (by omega)]
    repeat' (first | refine st_w 45 rfl rfl rfl rfl rfl (fun _ => rfl) wt (fun _ => rfl) ?_ | refine st_v rfl rfl rfl rfl (fun _ => rfl) rfl (fun _ => rfl) ?_ | refine st_skip rfl rfl rfl ?_ | refine st_b rfl rfl rfl rfl (fun _ => rfl) rfl (fun h1 => ?_) (fun h1 => ?_) | refine st_n rfl rfl rfl rfl (fun _ => rfl) rfl (fun _ => rfl) ?_ | refine st_s rfl rfl rfl rfl (fun _ => rfl) rfl (fun _ => rfl) ?_ | refine c_seq ?_ | refine c_region ?_ | refine c_plain rfl ?_ | refine c_drawn rfl (by kernel_rfl) ?_ | refine st_nil ?_ | refine c_norm ?_ | refine c_cret ?_ | refine c_ret ?_ | refine c_true rfl ?_ | refine c_false rfl ?_ | refine c_skip ?_ | refine c_block ?_ | refine c_bnorm ?_ | refine c_bret ?_ | refine c_bexit rfl ?_ | refine c_bpass rfl ?_ | refine c_exit ?_ | refine c_cexit ?_ | refine c_lret ?_ | refine c_lexit ?_ | refine c_scope ?_ | refine c_label ?_ | refine c_snorm ?_ | refine c_sret ?_ | refine c_sexit ?_ | fail)
    exact ⟨tk_eq ((LeastI.congr hle (fun a b => ⟨fun hx => hx.1, fun hx => ⟨hx, Nat.lt_trans hx.1 hx.2.1⟩⟩)).eq hL), rfl, rfl, trivial⟩
  have wt : vB (decide ((i : Int) < (rows.length : Int))) = vB true := by rw [decide_eq_true (by omega)]
  have wi : vI .i64 (IntKind.i64.wrap ((i : Int) + 1)) = fI ((i + 1 : Nat) : Int) := vI_eq ((St.wr64 (by omega) (by omega)).trans (by omega))
  cases hG : onB p rows i g with
  | false =>
    repeat' (first | refine st_w 45 rfl rfl rfl rfl rfl (fun _ => rfl) wt (fun _ => rfl) ?_ | refine st_w 54 rfl rfl rfl rfl rfl (fun _ => rfl) wi (fun _ => rfl) ?_ | refine st_v rfl rfl rfl rfl (fun _ => rfl) rfl (fun _ => rfl) ?_ | refine st_skip rfl rfl rfl ?_ | refine st_b rfl rfl rfl rfl (fun _ => rfl) rfl (fun h1 => ?_) (fun h1 => ?_) | refine st_n rfl rfl rfl rfl (fun _ => rfl) rfl (fun _ => rfl) ?_ | refine st_s rfl rfl rfl rfl (fun _ => rfl) rfl (fun _ => rfl) ?_ | refine c_seq ?_ | refine c_region ?_ | refine c_plain rfl ?_ | refine c_drawn rfl (by kernel_rfl) ?_ | refine st_nil ?_ | refine c_norm ?_ | refine c_cret ?_ | refine c_ret ?_ | refine c_true rfl ?_ | refine c_false rfl ?_ | refine c_skip ?_ | refine c_block ?_ | refine c_bnorm ?_ | refine c_bret ?_ | refine c_bexit rfl ?_ | refine c_bpass rfl ?_ | refine c_exit ?_ | refine c_cexit ?_ | refine c_lret ?_ | refine c_lexit ?_ | refine c_scope ?_ | refine c_label ?_ | refine c_snorm ?_ | refine c_sret ?_ | refine c_sexit ?_ | refine st_call rfl rfl rfl rfl rfl rfl rfl (call_v (vB false) rfl ⟨p, rows, i, g, hil, by omega, rfl, by rw [hG]⟩ rfl rfl rfl (cb_v rfl (fun _ => rfl) ?_)) | fail)
    refine c_loop (fun _ : Unit => True) (fun _ => [(13, fI ((i + 1 : Nat) : Int)), (12, vB false), (11, fI (i : Int)), (10, fI out), (1, fRows rows), (2, fI (g : Int)), (3, fI (h : Int)), (4, pt 0)]) (fun _ => [(0, some (.var 25 (plCells p)))]) (fun _ => 0) [0] () trivial rfl ⟨rfl, rfl, rfl, rfl, rfl, rfl, rfl, rfl, rfl, rfl, rfl, rfl, rfl, rfl, rfl, rfl, trivial⟩ ⟨⟨rfl, rfl, rfl⟩, trivial⟩ rfl (fun _ _ => ?_)
    repeat' (first | refine st_w 47 rfl rfl rfl rfl rfl (fun _ => rfl) wi (fun _ => rfl) ?_ | refine st_v rfl rfl rfl rfl (fun _ => rfl) rfl (fun _ => rfl) ?_ | refine st_skip rfl rfl rfl ?_ | refine st_b rfl rfl rfl rfl (fun _ => rfl) rfl (fun h1 => ?_) (fun h1 => ?_) | refine st_n rfl rfl rfl rfl (fun _ => rfl) rfl (fun _ => rfl) ?_ | refine st_s rfl rfl rfl rfl (fun _ => rfl) rfl (fun _ => rfl) ?_ | refine c_seq ?_ | refine c_region ?_ | refine c_plain rfl ?_ | refine c_drawn rfl (by kernel_rfl) ?_ | refine st_nil ?_ | refine c_norm ?_ | refine c_cret ?_ | refine c_ret ?_ | refine c_true rfl ?_ | refine c_false rfl ?_ | refine c_skip ?_ | refine c_block ?_ | refine c_bnorm ?_ | refine c_bret ?_ | refine c_bexit rfl ?_ | refine c_bpass rfl ?_ | refine c_exit ?_ | refine c_cexit ?_ | refine c_lret ?_ | refine c_lexit ?_ | refine c_scope ?_ | refine c_label ?_ | refine c_snorm ?_ | refine c_sret ?_ | refine c_sexit ?_ | fail)
    all_goals exact c_lnorm [0] (i + 1, out) ⟨hil, fr_none hle (fun b hb => by have := hb.2.2.1; rw [hG] at this; cases this)⟩ (by show rows.length - (i + 1) < rows.length - i; omega) rfl ⟨rfl, rfl, rfl, rfl, rfl, rfl, rfl, rfl, rfl, rfl, rfl, rfl, trivial⟩ ⟨⟨rfl, rfl, rfl⟩, trivial⟩ rfl
  | true =>
    repeat' (first | refine st_w 45 rfl rfl rfl rfl rfl (fun _ => rfl) wt (fun _ => rfl) ?_ | refine st_w 54 rfl rfl rfl rfl rfl (fun _ => rfl) wi (fun _ => rfl) ?_ | refine st_v rfl rfl rfl rfl (fun _ => rfl) rfl (fun _ => rfl) ?_ | refine st_skip rfl rfl rfl ?_ | refine st_b rfl rfl rfl rfl (fun _ => rfl) rfl (fun h1 => ?_) (fun h1 => ?_) | refine st_n rfl rfl rfl rfl (fun _ => rfl) rfl (fun _ => rfl) ?_ | refine st_s rfl rfl rfl rfl (fun _ => rfl) rfl (fun _ => rfl) ?_ | refine c_seq ?_ | refine c_region ?_ | refine c_plain rfl ?_ | refine c_drawn rfl (by kernel_rfl) ?_ | refine st_nil ?_ | refine c_norm ?_ | refine c_cret ?_ | refine c_ret ?_ | refine c_true rfl ?_ | refine c_false rfl ?_ | refine c_skip ?_ | refine c_block ?_ | refine c_bnorm ?_ | refine c_bret ?_ | refine c_bexit rfl ?_ | refine c_bpass rfl ?_ | refine c_exit ?_ | refine c_cexit ?_ | refine c_lret ?_ | refine c_lexit ?_ | refine c_scope ?_ | refine c_label ?_ | refine c_snorm ?_ | refine c_sret ?_ | refine c_sexit ?_ | refine st_call rfl rfl rfl rfl rfl rfl rfl (call_v (vB true) rfl ⟨p, rows, i, g, hil, by omega, rfl, by rw [hG]⟩ rfl rfl rfl (cb_v rfl (fun _ => rfl) ?_)) | fail)
    refine c_loop (fun k : Nat => i < k ∧ k ≤ rows.length ∧ Free p rows g h i k) (fun k => [(13, fI (k : Int)), (12, vB true), (11, fI (i : Int)), (10, fI out), (1, fRows rows), (2, fI (g : Int)), (3, fI (h : Int)), (4, pt 0)]) (fun _ => [(0, some (.var 25 (plCells p)))]) (fun k => rows.length - k) [0] (i + 1) ⟨Nat.lt_succ_self i, hil, fun j h1 h2 => by omega⟩ rfl ⟨rfl, rfl, rfl, rfl, rfl, rfl, rfl, rfl, rfl, rfl, rfl, rfl, rfl, rfl, rfl, rfl, trivial⟩ ⟨⟨rfl, rfl, rfl⟩, trivial⟩ rfl (fun k hk => ?_)
    obtain ⟨hik, hk, hFr⟩ := hk
    by_cases hkl : k < rows.length
    case neg =>
      have wt2 : vB (decide ((k : Int) < (rows.length : Int))) = vB false := by rw [decide_eq_false (by omega)]
      repeat' (first | refine st_w 58 rfl rfl rfl rfl rfl (fun _ => rfl) wt2 (fun _ => rfl) ?_ | refine st_w 47 rfl rfl rfl rfl rfl (fun _ => rfl) wi (fun _ => rfl) ?_ | refine st_v rfl rfl rfl rfl (fun _ => rfl) rfl (fun _ => rfl) ?_ | refine st_skip rfl rfl rfl ?_ | refine st_b rfl rfl rfl rfl (fun _ => rfl) rfl (fun h1 => ?_) (fun h1 => ?_) | refine st_n rfl rfl rfl rfl (fun _ => rfl) rfl (fun _ => rfl) ?_ | refine st_s rfl rfl rfl rfl (fun _ => rfl) rfl (fun _ => rfl) ?_ | refine c_seq ?_ | refine c_region ?_ | refine c_plain rfl ?_ | refine c_drawn rfl (by kernel_rfl) ?_ | refine st_nil ?_ | refine c_norm ?_ | refine c_cret ?_ | refine c_ret ?_ | refine c_true rfl ?_ | refine c_false rfl ?_ | refine c_skip ?_ | refine c_block ?_ | refine c_bnorm ?_ | refine c_bret ?_ | refine c_bexit rfl ?_ | refine c_bpass rfl ?_ | refine c_exit ?_ | refine c_cexit ?_ | refine c_lret ?_ | refine c_lexit ?_ | refine c_scope ?_ | refine c_label ?_ | refine c_snorm ?_ | refine c_sret ?_ | refine c_sexit ?_ | fail)
      exact c_lnorm [0] (i + 1, out) ⟨hil, fr_none hle (fun b hb => by have := (hFr b hb.1 (by have := hb.2.1; omega)).2; rw [hb.2.2.2.1] at this; cases this)⟩ (by show rows.length - (i + 1) < rows.length - i; omega) rfl ⟨rfl, rfl, rfl, rfl, rfl, rfl, rfl, rfl, rfl, rfl, rfl, rfl, trivial⟩ ⟨⟨rfl, rfl, rfl⟩, trivial⟩ rfl
    have wt2 : vB (decide ((k : Int) < (rows.length : Int))) = vB true := by rw [decide_eq_true (by omega)]
    have w1 : vI .i64 (IntKind.i64.wrap ((k : Int) - (i : Int))) = fI ((k : Int) - (i : Int)) := vI_eq (St.wr64 (by omega) (by omega))
    have w2 : vI .i64 (IntKind.i64.wrap ((k : Int) - (i : Int) - 1)) = fI ((k : Int) - (i : Int) - 1) := vI_eq (St.wr64 (by omega) (by omega))
    have wo := neg_of hle
    cases hHk : onB p rows k h with
    | false =>
      cases hGk : onB p rows k g with
      | false =>
        repeat' (first | refine st_w 58 rfl rfl rfl rfl rfl (fun _ => rfl) wt2 (fun _ => rfl) ?_ | refine st_w 47 rfl rfl rfl rfl rfl (fun _ => rfl) wi (fun _ => rfl) ?_ | refine st_v rfl rfl rfl rfl (fun _ => rfl) rfl (fun _ => rfl) ?_ | refine st_skip rfl rfl rfl ?_ | refine st_b rfl rfl rfl rfl (fun _ => rfl) rfl (fun h1 => ?_) (fun h1 => ?_) | refine st_n rfl rfl rfl rfl (fun _ => rfl) rfl (fun _ => rfl) ?_ | refine st_s rfl rfl rfl rfl (fun _ => rfl) rfl (fun _ => rfl) ?_ | refine c_seq ?_ | refine c_region ?_ | refine c_plain rfl ?_ | refine c_drawn rfl (by kernel_rfl) ?_ | refine st_nil ?_ | refine c_norm ?_ | refine c_cret ?_ | refine c_ret ?_ | refine c_true rfl ?_ | refine c_false rfl ?_ | refine c_skip ?_ | refine c_block ?_ | refine c_bnorm ?_ | refine c_bret ?_ | refine c_bexit rfl ?_ | refine c_bpass rfl ?_ | refine c_exit ?_ | refine c_cexit ?_ | refine c_lret ?_ | refine c_lexit ?_ | refine c_scope ?_ | refine c_label ?_ | refine c_snorm ?_ | refine c_sret ?_ | refine c_sexit ?_ | refine st_call rfl rfl rfl rfl rfl rfl rfl (call_v (vB false) rfl ⟨p, rows, k, g, hkl, by omega, rfl, by rw [hGk]⟩ rfl rfl rfl (cb_v rfl (fun _ => rfl) ?_)) | refine st_call rfl rfl rfl rfl rfl rfl rfl (call_v (vB false) rfl ⟨p, rows, k, h, hkl, by omega, rfl, by rw [hHk]⟩ rfl rfl rfl (cb_v rfl (fun _ => rfl) ?_)) | fail)
        exact c_lnorm [0] (k + 1) ⟨by omega, hkl, fun j h1 h2 => if e : j = k then by rw [e]; exact ⟨hGk, hHk⟩ else hFr j h1 (by omega)⟩ (by show rows.length - (k + 1) < rows.length - k; omega) rfl ⟨tk_eq ((St.wr64 (by omega) (by omega)).trans (by omega : (k : Int) + 1 = ((k + 1 : Nat) : Int))), rfl, rfl, rfl, rfl, rfl, rfl, rfl, rfl, rfl, rfl, rfl, rfl, rfl, rfl, rfl, trivial⟩ ⟨⟨rfl, rfl, rfl⟩, trivial⟩ rfl
      | true =>
        repeat' (first | refine st_w 58 rfl rfl rfl rfl rfl (fun _ => rfl) wt2 (fun _ => rfl) ?_ | refine st_w 47 rfl rfl rfl rfl rfl (fun _ => rfl) wi (fun _ => rfl) ?_ | refine st_v rfl rfl rfl rfl (fun _ => rfl) rfl (fun _ => rfl) ?_ | refine st_skip rfl rfl rfl ?_ | refine st_b rfl rfl rfl rfl (fun _ => rfl) rfl (fun h1 => ?_) (fun h1 => ?_) | refine st_n rfl rfl rfl rfl (fun _ => rfl) rfl (fun _ => rfl) ?_ | refine st_s rfl rfl rfl rfl (fun _ => rfl) rfl (fun _ => rfl) ?_ | refine c_seq ?_ | refine c_region ?_ | refine c_plain rfl ?_ | refine c_drawn rfl (by kernel_rfl) ?_ | refine st_nil ?_ | refine c_norm ?_ | refine c_cret ?_ | refine c_ret ?_ | refine c_true rfl ?_ | refine c_false rfl ?_ | refine c_skip ?_ | refine c_block ?_ | refine c_bnorm ?_ | refine c_bret ?_ | refine c_bexit rfl ?_ | refine c_bpass rfl ?_ | refine c_exit ?_ | refine c_cexit ?_ | refine c_lret ?_ | refine c_lexit ?_ | refine c_scope ?_ | refine c_label ?_ | refine c_snorm ?_ | refine c_sret ?_ | refine c_sexit ?_ | refine st_call rfl rfl rfl rfl rfl rfl rfl (call_v (vB true) rfl ⟨p, rows, k, g, hkl, by omega, rfl, by rw [hGk]⟩ rfl rfl rfl (cb_v rfl (fun _ => rfl) ?_)) | refine st_call rfl rfl rfl rfl rfl rfl rfl (call_v (vB false) rfl ⟨p, rows, k, h, hkl, by omega, rfl, by rw [hHk]⟩ rfl rfl rfl (cb_v rfl (fun _ => rfl) ?_)) | fail)
        exact c_lnorm [0] (i + 1, out) ⟨hil, fr_none hle (fr_cut hik hFr hHk hGk)⟩ (by show rows.length - (i + 1) < rows.length - i; omega) rfl ⟨rfl, rfl, rfl, rfl, rfl, rfl, rfl, rfl, rfl, rfl, rfl, rfl, trivial⟩ ⟨⟨rfl, rfl, rfl⟩, trivial⟩ rfl
    | true =>
      cases hGk : onB p rows k g with
      | false =>
        repeat' (first | refine st_w 58 rfl rfl rfl rfl rfl (fun _ => rfl) wt2 (fun _ => rfl) ?_ | refine st_w 47 rfl rfl rfl rfl rfl (fun _ => rfl) wi (fun _ => rfl) ?_ | refine st_wb 77 rfl rfl rfl rfl rfl (fun _ => rfl) wo (fun h1 => ?_) (fun h1 => ?_) | refine st_w 81 rfl rfl rfl rfl rfl (fun _ => rfl) w1 (fun _ => rfl) ?_ | refine st_w 82 rfl rfl rfl rfl rfl (fun _ => rfl) w2 (fun _ => rfl) ?_ | refine st_w 89 rfl rfl rfl rfl rfl (fun _ => rfl) w1 (fun _ => rfl) ?_ | refine st_w 90 rfl rfl rfl rfl rfl (fun _ => rfl) w2 (fun _ => rfl) ?_ | refine st_v rfl rfl rfl rfl (fun _ => rfl) rfl (fun _ => rfl) ?_ | refine st_skip rfl rfl rfl ?_ | refine st_b rfl rfl rfl rfl (fun _ => rfl) rfl (fun h1 => ?_) (fun h1 => ?_) | refine st_n rfl rfl rfl rfl (fun _ => rfl) rfl (fun _ => rfl) ?_ | refine st_s rfl rfl rfl rfl (fun _ => rfl) rfl (fun _ => rfl) ?_ | refine c_seq ?_ | refine c_region ?_ | refine c_plain rfl ?_ | refine c_drawn rfl (by kernel_rfl) ?_ | refine st_nil ?_ | refine c_norm ?_ | refine c_cret ?_ | refine c_ret ?_ | refine c_true rfl ?_ | refine c_false rfl ?_ | refine c_skip ?_ | refine c_block ?_ | refine c_bnorm ?_ | refine c_bret ?_ | refine c_bexit rfl ?_ | refine c_bpass rfl ?_ | refine c_exit ?_ | refine c_cexit ?_ | refine c_lret ?_ | refine c_lexit ?_ | refine c_scope ?_ | refine c_label ?_ | refine c_snorm ?_ | refine c_sret ?_ | refine c_sexit ?_ | refine st_call rfl rfl rfl rfl rfl rfl rfl (call_v (vB false) rfl ⟨p, rows, k, g, hkl, by omega, rfl, by rw [hGk]⟩ rfl rfl rfl (cb_v rfl (fun _ => rfl) ?_)) | refine st_call rfl rfl rfl rfl rfl rfl rfl (call_v (vB true) rfl ⟨p, rows, k, h, hkl, by omega, rfl, by rw [hHk]⟩ rfl rfl rfl (cb_v rfl (fun _ => rfl) ?_)) | fail)
        · have hq : decide (out = -1) = true := by assumption
          exact c_lnorm [0] (i + 1, (k : Int) - (i : Int) - 1) ⟨hil, fr_one hik hkl hle hG hFr hHk (if_pos (.inl (of_decide_eq_true hq))).symm⟩ (by show rows.length - (i + 1) < rows.length - i; omega) rfl ⟨rfl, rfl, rfl, rfl, rfl, rfl, rfl, rfl, rfl, rfl, rfl, rfl, trivial⟩ ⟨⟨rfl, rfl, rfl⟩, trivial⟩ rfl
        · have hq : decide ((k : Int) - (i : Int) - 1 < out) = true := by assumption
          exact c_lnorm [0] (i + 1, (k : Int) - (i : Int) - 1) ⟨hil, fr_one hik hkl hle hG hFr hHk (if_pos (.inr (of_decide_eq_true hq))).symm⟩ (by show rows.length - (i + 1) < rows.length - i; omega) rfl ⟨rfl, rfl, rfl, rfl, rfl, rfl, rfl, rfl, rfl, rfl, rfl, rfl, trivial⟩ ⟨⟨rfl, rfl, rfl⟩, trivial⟩ rfl
        · have hq : decide (out = -1) = false := by assumption
          have hq2 : decide ((k : Int) - (i : Int) - 1 < out) = false := by assumption
          exact c_lnorm [0] (i + 1, out) ⟨hil, fr_one hik hkl hle hG hFr hHk (if_neg (fun hx => hx.elim (of_decide_eq_false hq) (of_decide_eq_false hq2))).symm⟩ (by show rows.length - (i + 1) < rows.length - i; omega) rfl ⟨rfl, rfl, rfl, rfl, rfl, rfl, rfl, rfl, rfl, rfl, rfl, rfl, trivial⟩ ⟨⟨rfl, rfl, rfl⟩, trivial⟩ rfl
      | true =>
        repeat' (first | refine st_w 58 rfl rfl rfl rfl rfl (fun _ => rfl) wt2 (fun _ => rfl) ?_ | refine st_w 47 rfl rfl rfl rfl rfl (fun _ => rfl) wi (fun _ => rfl) ?_ | refine st_wb 77 rfl rfl rfl rfl rfl (fun _ => rfl) wo (fun h1 => ?_) (fun h1 => ?_) | refine st_w 81 rfl rfl rfl rfl rfl (fun _ => rfl) w1 (fun _ => rfl) ?_ | refine st_w 82 rfl rfl rfl rfl rfl (fun _ => rfl) w2 (fun _ => rfl) ?_ | refine st_w 89 rfl rfl rfl rfl rfl (fun _ => rfl) w1 (fun _ => rfl) ?_ | refine st_w 90 rfl rfl rfl rfl rfl (fun _ => rfl) w2 (fun _ => rfl) ?_ | refine st_v rfl rfl rfl rfl (fun _ => rfl) rfl (fun _ => rfl) ?_ | refine st_skip rfl rfl rfl ?_ | refine st_b rfl rfl rfl rfl (fun _ => rfl) rfl (fun h1 => ?_) (fun h1 => ?_) | refine st_n rfl rfl rfl rfl (fun _ => rfl) rfl (fun _ => rfl) ?_ | refine st_s rfl rfl rfl rfl (fun _ => rfl) rfl (fun _ => rfl) ?_ | refine c_seq ?_ | refine c_region ?_ | refine c_plain rfl ?_ | refine c_drawn rfl (by kernel_rfl) ?_ | refine st_nil ?_ | refine c_norm ?_ | refine c_cret ?_ | refine c_ret ?_ | refine c_true rfl ?_ | refine c_false rfl ?_ | refine c_skip ?_ | refine c_block ?_ | refine c_bnorm ?_ | refine c_bret ?_ | refine c_bexit rfl ?_ | refine c_bpass rfl ?_ | refine c_exit ?_ | refine c_cexit ?_ | refine c_lret ?_ | refine c_lexit ?_ | refine c_scope ?_ | refine c_label ?_ | refine c_snorm ?_ | refine c_sret ?_ | refine c_sexit ?_ | refine st_call rfl rfl rfl rfl rfl rfl rfl (call_v (vB true) rfl ⟨p, rows, k, g, hkl, by omega, rfl, by rw [hGk]⟩ rfl rfl rfl (cb_v rfl (fun _ => rfl) ?_)) | refine st_call rfl rfl rfl rfl rfl rfl rfl (call_v (vB true) rfl ⟨p, rows, k, h, hkl, by omega, rfl, by rw [hHk]⟩ rfl rfl rfl (cb_v rfl (fun _ => rfl) ?_)) | fail)
        · have hq : decide (out = -1) = true := by assumption
          exact c_lnorm [0] (i + 1, (k : Int) - (i : Int) - 1) ⟨hil, fr_one hik hkl hle hG hFr hHk (if_pos (.inl (of_decide_eq_true hq))).symm⟩ (by show rows.length - (i + 1) < rows.length - i; omega) rfl ⟨rfl, rfl, rfl, rfl, rfl, rfl, rfl, rfl, rfl, rfl, rfl, rfl, trivial⟩ ⟨⟨rfl, rfl, rfl⟩, trivial⟩ rfl
        · have hq : decide ((k : Int) - (i : Int) - 1 < out) = true := by assumption
          exact c_lnorm [0] (i + 1, (k : Int) - (i : Int) - 1) ⟨hil, fr_one hik hkl hle hG hFr hHk (if_pos (.inr (of_decide_eq_true hq))).symm⟩ (by show rows.length - (i + 1) < rows.length - i; omega) rfl ⟨rfl, rfl, rfl, rfl, rfl, rfl, rfl, rfl, rfl, rfl, rfl, rfl, trivial⟩ ⟨⟨rfl, rfl, rfl⟩, trivial⟩ rfl
        · have hq : decide (out = -1) = false := by assumption
          have hq2 : decide ((k : Int) - (i : Int) - 1 < out) = false := by assumption
          exact c_lnorm [0] (i + 1, out) ⟨hil, fr_one hik hkl hle hG hFr hHk (if_neg (fun hx => hx.elim (of_decide_eq_false hq) (of_decide_eq_false hq2))).symm⟩ (by show rows.length - (i + 1) < rows.length - i; omega) rfl ⟨rfl, rfl, rfl, rfl, rfl, rfl, rfl, rfl, rfl, rfl, rfl, rfl, trivial⟩ ⟨⟨rfl, rfl, rfl⟩, trivial⟩ rfl
end Tr
end Go.Proofs.YtpciieagafddcaaDoor.E
