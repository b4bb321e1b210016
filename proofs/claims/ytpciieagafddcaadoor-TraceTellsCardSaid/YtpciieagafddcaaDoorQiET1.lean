/- Rows of lamps that are looked at, walked by the engine (own text): the first flaw. -/
import Derived.Test.YtpciieagafddcaaDoorQiEC
import Derived.Test.YtpciieagafddcaaDoorQiPY
import Derived.Test.YtpciieagafddcaaDoorQiF7
import Derived.Test.YtpciieagafddcaaDoorQiF8
namespace Go.Proofs.YtpciieagafddcaaDoor.E
open Go Go.RowKit Go.Proofs Go.Proofs.YtpciieagafddcaaDoorW.PrintWords Go.Proofs.YtpciieagafddcaaDoorW.PrintLast Go.Proofs.YtpciieagafddcaaDoorW.PrintMore Go.Proofs.YtpciieagafddcaaDoor.F
set_option linter.unusedVariables false
set_option linter.unusedSimpArgs false
set_option maxRecDepth 100000
set_option maxHeartbeats 8000000
attribute [local irreducible] acode callR
namespace Tr
open St Rw
open PX (fitP clashP cell beg leastF leastB nextB soonB groupB groupsB rowB fromB checkB RowOk)
def fInts (v : List Int) : FV := .t (.one (cInts v))
theorem row_bit : ∀ x : Nat, x < 256 → ∀ i : Nat, i < 8 → ((IntKind.i64.wrap ((BitVec.ofInt 64 ((x : Int).fdiv (2 ^ (min i 64))) &&& BitVec.ofInt 64 1).toNat : Int)) == 1) = x.testBit i := by decide +kernel
theorem pl_bit {x : Int} {i : Nat} (h0 : 0 ≤ x) (h1 : x < 256) (hi : i < 8) : ((IntKind.i64.wrap ((BitVec.ofInt 64 (x.fdiv (2 ^ (min i 64))) &&& BitVec.ofInt 64 1).toNat : Int)) == 1) = x.toNat.testBit i := by
  obtain ⟨n, rfl⟩ := Int.eq_ofNat_of_zero_le h0
  exact row_bit n (by omega) i hi
def SpLmay : Spec := .pure fun a r => ∃ l, a = [fInts l] ∧ r = vB (lamp_mayB.f l)
theorem lmay_ok : SpecOk Tryd.prog 49 SpLmay := by
  rintro args pre r post ⟨⟨l, rfl, rfl⟩, rfl, rfl⟩ c ys hgl hy hI hZ hpre hdj
  match ys, hy with
  | [y], ⟨hy, _⟩ =>
    have h1 : (cInts l).S c.w c.I y := hy.1
    obtain ⟨A, n, rfl⟩ := S_slice h1
    have h2 := int_C h1
    exact (lamp_May.calls A n l _ c.w h2.2 h2.1 rfl).mono fun e w' ⟨he, hb⟩ => by
      subst he
      exact ends_of hI hb ⟨rfl, rfl⟩
def SpClash : Spec := .pure fun a r => ∃ p l, a = [fPl p, fInts l] ∧ r = vB (clashP p l)
theorem clash_ok : SpecOk Tryd.prog 26 SpClash := by
  rintro args pre r post ⟨⟨p, l, rfl, rfl⟩, rfl, rfl⟩ c ys hgl hy hI hZ hpre hdj
  match ys, hy with
  | [y, z], ⟨hy, hz, _⟩ =>
    obtain ⟨A0, c0, A1, c1, rfl, h0, h1, h2, h3⟩ := pl_val hy
    have h4 : (cInts l).S c.w c.I z := hz.1
    obtain ⟨A, n, rfl⟩ := S_slice h4
    have h5 := int_C h4
    obtain ⟨k, hk⟩ := (PL.clash_ev p.f0 p.f1 p.f2 p.f3 p.f4 l (Kd.C_max h3)).rounds
    exact (lamp_Clash.calls k A0 c0 p.f0 A1 c1 p.f1 p.f2 p.f3 p.f4 A n l _ c.w h1 h0 h3 h2 h5.2 h5.1 (glob_of hgl) hk).mono fun e w' ⟨he, hb⟩ => by
      subst he
      exact ends_of hI hb ⟨rfl, rfl⟩
/-! ### how long a group has green at least -/
def SpLeast : Spec := .pure fun a r => ∃ (p : S25) (g : Nat), fitP p = true ∧ g < p.f0.length ∧ a = [fPl p, fI (g : Int)] ∧ r = fI (leastB p g)
theorem take_fold {α β : Type} {f : β → α → β} {b : β} {l : List α} {i : Nat} {z : α} (h : i < l.length) : (l.take (i + 1)).foldl f b = f ((l.take i).foldl f b) (l.getD i z) := by
  rw [List.take_succ_eq_append_getElem h, List.foldl_append, List.getD_eq_getElem?_getD, List.getElem?_eq_getElem h]
  rfl
theorem stage_rng {p : S25} (hF : PQ.Fits p.f0 p.f1 p.f2 p.f3 p.f4) {i : Nat} (hi : i < p.f1.length) : 0 ≤ (p.f1.getD i z87).f0 ∧ (p.f1.getD i z87).f0 < 256 := by
  obtain ⟨G, hG, hG2, -⟩ := PL.stage_set hF hi
  rw [PP.rd_stage _ hi] at hG
  rw [List.getD_eq_getElem?_getD, List.getElem?_eq_getElem hi]
  have := hF.may.p8
  show 0 ≤ (p.f1[i]).f0 ∧ (p.f1[i]).f0 < 256
  rw [hG]
  omega
theorem least_ok : SpecOk Tryd.prog 27 SpLeast := by
  refine spec_of_code TZok Γn mixed Tryd.func27 rfl ?_
  rintro args pre r post ⟨⟨p, g, hf, hg, rfl, rfl⟩, rfl, rfl⟩
  refine ⟨rfl, ?_⟩
  have hF := PX.fits_of hf
  have hfit : St.fitB p = true := hf
  have h8 := hF.may.len8
  have h6 := hF.few
  have hin : Ph.inB (g : Int) 0 (IntKind.i64.wrap ((p.f0.length : Int) - 1)) = true := by
    rw [St.wr64 (by omega) (by omega)]
    unfold Ph.inB
    rw [decide_eq_true (by omega), decide_eq_true (by omega)]
    rfl
  repeat' (first | refine st_v rfl rfl rfl rfl (fun _ => rfl) rfl (fun _ => rfl) ?_ | refine st_skip rfl rfl rfl ?_ | refine st_b rfl rfl rfl rfl (fun _ => rfl) rfl (fun h1 => ?_) (fun h1 => ?_) | refine st_n rfl rfl rfl rfl (fun _ => rfl) rfl (fun _ => rfl) ?_ | refine st_s rfl rfl rfl rfl (fun _ => rfl) rfl (fun _ => rfl) ?_ | refine c_seq ?_ | refine c_region ?_ | refine c_plain rfl ?_ | refine c_drawn rfl (by kernel_rfl) ?_ | refine st_nil ?_ | refine c_norm ?_ | refine c_cret ?_ | refine c_ret ?_ | refine c_true rfl ?_ | refine c_false rfl ?_ | refine c_skip ?_ | refine c_block ?_ | refine c_bnorm ?_ | refine c_bret ?_ | refine c_bexit rfl ?_ | refine c_bpass rfl ?_ | refine c_exit ?_ | refine c_cexit ?_ | refine c_lret ?_ | refine c_lexit ?_ | refine c_scope ?_ | refine c_label ?_ | refine c_snorm ?_ | refine c_sret ?_ | refine c_sexit ?_ | refine st_call rfl rfl rfl rfl rfl rfl rfl (call_v (vB true) rfl ⟨p, rfl, (congrArg vB hfit).symm⟩ rfl rfl rfl (cb_v rfl (fun _ => rfl) ?_)) | refine st_call rfl rfl rfl rfl rfl rfl rfl (call_v (vB true) rfl ⟨(g : Int), 0, _, rfl, (congrArg vB hin).symm⟩ rfl rfl rfl (cb_v rfl (fun _ => rfl) ?_)) | fail)
  refine c_loop (fun i : Nat => i ≤ p.f1.length) (fun i => [(23, fI (i : Int)), (5, fI ((p.f1.take i).foldl (leastF g) 200)), (1, fI (g : Int)), (21, .t (.one (cStgs p.f1))), (22, fI (p.f1.length : Int))]) (fun _ => []) (fun i => p.f1.length - i) [] 0 (Nat.zero_le _) rfl ⟨rfl, rfl, rfl, rfl, rfl, rfl, rfl, rfl, rfl, rfl, trivial⟩ trivial rfl (fun i hi => ?_)
  repeat' (first | refine st_v rfl rfl rfl rfl (fun _ => rfl) rfl (fun _ => rfl) ?_ | refine st_skip rfl rfl rfl ?_ | refine st_b rfl rfl rfl rfl (fun _ => rfl) rfl (fun h1 => ?_) (fun h1 => ?_) | refine st_n rfl rfl rfl rfl (fun _ => rfl) rfl (fun _ => rfl) ?_ | refine st_s rfl rfl rfl rfl (fun _ => rfl) rfl (fun _ => rfl) ?_ | refine c_seq ?_ | refine c_region ?_ | refine c_plain rfl ?_ | refine c_drawn rfl (by kernel_rfl) ?_ | refine st_nil ?_ | refine c_norm ?_ | refine c_cret ?_ | refine c_ret ?_ | refine c_true rfl ?_ | refine c_false rfl ?_ | refine c_skip ?_ | refine c_block ?_ | refine c_bnorm ?_ | refine c_bret ?_ | refine c_bexit rfl ?_ | refine c_bpass rfl ?_ | refine c_exit ?_ | refine c_cexit ?_ | refine c_lret ?_ | refine c_lexit ?_ | refine c_scope ?_ | refine c_label ?_ | refine c_snorm ?_ | refine c_sret ?_ | refine c_sexit ?_ | refine st_pv rfl rfl rfl rfl (fun _ => rfl) (by simp only [decide_eq_true_eq, decide_eq_false_iff_not, ge_iff_le, Int.not_lt, Int.not_le, Int.toNat_natCast] at *; omega) rfl (fun _ => rfl) ?_ | fail)
  · have hi' : i < p.f1.length := by simp only [decide_eq_true_eq] at *; omega
    have hr := stage_rng hF hi'
    have hb : (p.f1.getD i z87).f0.toNat.testBit g = true := (pl_bit hr.1 hr.2 (show g < 8 by omega)).symm.trans (by assumption)
    exact c_lnorm [] (i + 1) hi' (by show p.f1.length - (i + 1) < p.f1.length - i; omega) rfl ⟨fI_eq ((St.wr64 (by omega) (by omega)).trans (by omega : (i : Int) + 1 = ((i + 1 : Nat) : Int))), rfl, fI_eq ((take_fold (f := leastF g) (b := 200) (z := z87) hi').trans (if_pos hb)).symm, rfl, rfl, rfl, rfl, rfl, rfl, rfl, trivial⟩ trivial rfl
  · have hi' : i < p.f1.length := by simp only [decide_eq_true_eq] at *; omega
    have hr := stage_rng hF hi'
    have hb : (p.f1.getD i z87).f0.toNat.testBit g = false := (pl_bit hr.1 hr.2 (show g < 8 by omega)).symm.trans (by assumption)
    exact c_lnorm [] (i + 1) hi' (by show p.f1.length - (i + 1) < p.f1.length - i; omega) rfl ⟨fI_eq ((St.wr64 (by omega) (by omega)).trans (by omega : (i : Int) + 1 = ((i + 1 : Nat) : Int))), rfl, fI_eq ((take_fold (f := leastF g) (b := 200) (z := z87) hi').trans (if_neg (by rw [hb]; decide))).symm, rfl, rfl, rfl, rfl, rfl, rfl, rfl, trivial⟩ trivial rfl
  · obtain rfl : i = p.f1.length := by simp only [decide_eq_false_iff_not] at *; omega
    exact ⟨fI_eq (by rw [List.take_length]; rfl), rfl, rfl, trivial⟩
/-! ### a value, in other words -/
section
variable {T : TT} {Γ : Nat → Option Spec} {ops : Array Oper} {nid i : Nat} {o : Oper} {l : List Oper} {fr : List (Nat × FV)} {hp : HP} {n0 N m : Nat} {acc : List Rec} {k : List Rec → AS → Prop}
theorem st_w (d : Nat) {xs : List FV} {fv fv' : FV} (hdst : o.dst = some d) (hd : dstOk o.dst N = true) (hg : gst ops fr o = some true) (hp0 : isPlain o = true) (hx : evs fr o.op.operands.toList = some xs) (he : ∀ K : FV → HP → Prop, Ex T o xs hp (nid + i) K = K fv []) (hw : fv = fv') (hb : ∀ K : FV → Prop, boolF fv' K = K fv') (h : next T Γ ops nid l (i + 1) ((d, fv') :: fr) hp n0 N m (recOf ops o fv' [] (addO (need o.op xs) []) :: acc) k) : next T Γ ops nid (o :: l) i fr hp n0 N m acc k := by
  subst hw
  exact st_v hd hg hp0 hx he hdst hb h
theorem st_wb (d : Nat) {xs : List FV} {b b' : Bool} (hdst : o.dst = some d) (hd : dstOk o.dst N = true) (hg : gst ops fr o = some true) (hp0 : isPlain o = true) (hx : evs fr o.op.operands.toList = some xs) (he : ∀ K : FV → HP → Prop, Ex T o xs hp (nid + i) K = K (vB b) []) (hw : b = b') (ht : b' = true → next T Γ ops nid l (i + 1) ((d, vB true) :: fr) hp n0 N m (recOf ops o (vB true) [] (addO (need o.op xs) []) :: acc) k) (hf : b' = false → next T Γ ops nid l (i + 1) ((d, vB false) :: fr) hp n0 N m (recOf ops o (vB false) [] (addO (need o.op xs) []) :: acc) k) : next T Γ ops nid (o :: l) i fr hp n0 N m acc k := by
  subst hw
  exact st_b hd hg hp0 hx he hdst ht hf
end
theorem vI_eq {a b : Int} (h : a = b) : vI .i64 a = fI b := by subst h; rfl
theorem tk_eq {a b : Int} (h : a = b) : some (fI a) = some (fI b) := by rw [h]
/-! ### what may come behind what; how long a run is -/
def SpTmay : Spec := .pure fun a r => ∃ was is : Int, (0 ≤ was ∧ was < 3) ∧ a = [fI was, fI is] ∧ r = vB (decide (nextB was = is))
theorem dec_beq {a b : Int} : decide (a = b) = (a == b) := by
  by_cases h : a = b
  · subst h; simp
  · simp [h]
theorem tmay_ok : SpecOk Tryd.prog 48 SpTmay := by
  refine spec_of_code TZok ΓOk.nil mixed Tryd.func48 rfl ?_
  rintro args pre r post ⟨⟨was, is, hw, rfl, rfl⟩, rfl, rfl⟩
  refine ⟨rfl, ?_⟩
  rcases (by omega : was = 0 ∨ was = 1 ∨ was = 2) with rfl | rfl | rfl
  · repeat' (first | refine st_v rfl rfl rfl rfl (fun _ => rfl) rfl (fun _ => rfl) ?_ | refine st_skip rfl rfl rfl ?_ | refine st_b rfl rfl rfl rfl (fun _ => rfl) rfl (fun h1 => ?_) (fun h1 => ?_) | refine st_n rfl rfl rfl rfl (fun _ => rfl) rfl (fun _ => rfl) ?_ | refine st_s rfl rfl rfl rfl (fun _ => rfl) rfl (fun _ => rfl) ?_ | refine c_seq ?_ | refine c_region ?_ | refine c_plain rfl ?_ | refine c_drawn rfl (by kernel_rfl) ?_ | refine st_nil ?_ | refine c_norm ?_ | refine c_cret ?_ | refine c_ret ?_ | refine c_true rfl ?_ | refine c_false rfl ?_ | refine c_skip ?_ | refine c_block ?_ | refine c_bnorm ?_ | refine c_bret ?_ | refine c_bexit rfl ?_ | refine c_bpass rfl ?_ | refine c_exit ?_ | refine c_cexit ?_ | refine c_lret ?_ | refine c_lexit ?_ | refine c_scope ?_ | refine c_label ?_ | refine c_snorm ?_ | refine c_sret ?_ | refine c_sexit ?_ | refine st_e rfl rfl rfl rfl (fun _ => rfl) 0 rfl (by decide) rfl (fun _ => rfl) ?_ | fail)
    all_goals exact ⟨ret_b (by rw [dec_beq]; exact Eq.symm (by assumption)), rfl, rfl, trivial⟩
  · repeat' (first | refine st_v rfl rfl rfl rfl (fun _ => rfl) rfl (fun _ => rfl) ?_ | refine st_skip rfl rfl rfl ?_ | refine st_b rfl rfl rfl rfl (fun _ => rfl) rfl (fun h1 => ?_) (fun h1 => ?_) | refine st_n rfl rfl rfl rfl (fun _ => rfl) rfl (fun _ => rfl) ?_ | refine st_s rfl rfl rfl rfl (fun _ => rfl) rfl (fun _ => rfl) ?_ | refine c_seq ?_ | refine c_region ?_ | refine c_plain rfl ?_ | refine c_drawn rfl (by kernel_rfl) ?_ | refine st_nil ?_ | refine c_norm ?_ | refine c_cret ?_ | refine c_ret ?_ | refine c_true rfl ?_ | refine c_false rfl ?_ | refine c_skip ?_ | refine c_block ?_ | refine c_bnorm ?_ | refine c_bret ?_ | refine c_bexit rfl ?_ | refine c_bpass rfl ?_ | refine c_exit ?_ | refine c_cexit ?_ | refine c_lret ?_ | refine c_lexit ?_ | refine c_scope ?_ | refine c_label ?_ | refine c_snorm ?_ | refine c_sret ?_ | refine c_sexit ?_ | refine st_e rfl rfl rfl rfl (fun _ => rfl) 1 rfl (by decide) rfl (fun _ => rfl) ?_ | fail)
    all_goals exact ⟨ret_b (by rw [dec_beq]; exact Eq.symm (by assumption)), rfl, rfl, trivial⟩
  · repeat' (first | refine st_v rfl rfl rfl rfl (fun _ => rfl) rfl (fun _ => rfl) ?_ | refine st_skip rfl rfl rfl ?_ | refine st_b rfl rfl rfl rfl (fun _ => rfl) rfl (fun h1 => ?_) (fun h1 => ?_) | refine st_n rfl rfl rfl rfl (fun _ => rfl) rfl (fun _ => rfl) ?_ | refine st_s rfl rfl rfl rfl (fun _ => rfl) rfl (fun _ => rfl) ?_ | refine c_seq ?_ | refine c_region ?_ | refine c_plain rfl ?_ | refine c_drawn rfl (by kernel_rfl) ?_ | refine st_nil ?_ | refine c_norm ?_ | refine c_cret ?_ | refine c_ret ?_ | refine c_true rfl ?_ | refine c_false rfl ?_ | refine c_skip ?_ | refine c_block ?_ | refine c_bnorm ?_ | refine c_bret ?_ | refine c_bexit rfl ?_ | refine c_bpass rfl ?_ | refine c_exit ?_ | refine c_cexit ?_ | refine c_lret ?_ | refine c_lexit ?_ | refine c_scope ?_ | refine c_label ?_ | refine c_snorm ?_ | refine c_sret ?_ | refine c_sexit ?_ | refine st_e rfl rfl rfl rfl (fun _ => rfl) 2 rfl (by decide) rfl (fun _ => rfl) ?_ | fail)
    all_goals exact ⟨ret_b (by rw [dec_beq]; exact Eq.symm (by assumption)), rfl, rfl, trivial⟩
/-- A row of numbers that is one's own. -/
def elF (F : Nat → Int) (a : Nat) : Nat → CV
  | 0 => cI (F a)
  | _ + 1 => .v undef
theorem set_elF (F : Nat → Int) (g : Nat) (x : Int) : setEl (elF F) g 0 (cI x) = elF (fun a => if a = g then x else F a) := by
  funext a c
  cases c with
  | zero =>
    by_cases h : a = g
    · exact (if_pos ⟨h, rfl⟩).trans (show cI x = cI (if a = g then x else F a) by rw [if_pos h])
    · exact (if_neg (fun hx => h hx.1)).trans (show cI (F a) = cI (if a = g then x else F a) by rw [if_neg h])
  | succ c => exact if_neg (fun hx => by cases hx.2)
theorem mk_elF : (fun (_ : Nat) (j : Nat) => CV.v (([.int .i64 0] : List Value).getD j undef)) = elF fun _ => 0 := by
  funext a c
  cases c <;> rfl
def pt (i : Nat) : FV := .t (.one (.ptr i 0))
def SpAhead : Spec := .ro fun a p r => ∃ (n g : Nat) (i v : Int) (F : Nat → Int), g < n ∧ IntKind.i64.wrap (i - F g) = v ∧ a = [fI (g : Int), fI i, pt 0] ∧ p = [.var 22 [.own 1], .row 3 n 1 (elF F)] ∧ r = fI v
theorem ahead_ok : SpecOk Tryd.prog 46 SpAhead := by
  refine spec_of_code TZok ΓOk.nil mixed Tryd.func46 rfl ?_
  rintro args pre r post ⟨⟨n, g, i, v, F, hg, hv, rfl, rfl, rfl⟩, rfl⟩
  refine ⟨rfl, ?_⟩
  repeat' (first | refine st_v rfl rfl rfl rfl (fun _ => rfl) rfl (fun _ => rfl) ?_ | refine st_skip rfl rfl rfl ?_ | refine st_b rfl rfl rfl rfl (fun _ => rfl) rfl (fun h1 => ?_) (fun h1 => ?_) | refine st_n rfl rfl rfl rfl (fun _ => rfl) rfl (fun _ => rfl) ?_ | refine st_s rfl rfl rfl rfl (fun _ => rfl) rfl (fun _ => rfl) ?_ | refine c_seq ?_ | refine c_region ?_ | refine c_plain rfl ?_ | refine c_drawn rfl (by kernel_rfl) ?_ | refine st_nil ?_ | refine c_norm ?_ | refine c_cret ?_ | refine c_ret ?_ | refine c_true rfl ?_ | refine c_false rfl ?_ | refine c_skip ?_ | refine c_block ?_ | refine c_bnorm ?_ | refine c_bret ?_ | refine c_bexit rfl ?_ | refine c_bpass rfl ?_ | refine c_exit ?_ | refine c_cexit ?_ | refine c_lret ?_ | refine c_lexit ?_ | refine c_scope ?_ | refine c_label ?_ | refine c_snorm ?_ | refine c_sret ?_ | refine c_sexit ?_ | refine st_pv rfl rfl rfl rfl (fun _ => rfl) (by show 0 ≤ (g : Int) ∧ (g : Int) < (n : Int); omega) rfl (fun _ => rfl) ?_ | refine st_pv rfl rfl rfl rfl (fun _ => rfl) (show g < n from hg) rfl (fun _ => rfl) ?_ | fail)
  exact ⟨tk_eq hv, rfl, rfl, rfl, rfl, rfl, rfl, trivial⟩
/-! ### a group that shows something else -/
section
variable {p : S25} {rows : List (List Int)} {i g : Nat}
theorem g3 (h : nextB (cell rows (i - 1) g) ≠ cell rows i g) : groupB p rows i g = 3 := by
  unfold groupB
  rw [if_pos h]
theorem g4 (h : nextB (cell rows (i - 1) g) = cell rows i g) (h4 : cell rows (i - 1) g = 2 ∧ 0 < beg rows (i - 1) g ∧ (i : Int) - (beg rows (i - 1) g : Int) < leastB p g) : groupB p rows i g = 4 := by
  unfold groupB
  rw [if_neg (not_not_intro h), if_pos h4]
theorem g5 (h : nextB (cell rows (i - 1) g) = cell rows i g) (h5 : cell rows (i - 1) g = 1 ∧ 0 < beg rows (i - 1) g ∧ (i : Int) - (beg rows (i - 1) g : Int) ≠ p.f2) : groupB p rows i g = 5 := by
  unfold groupB
  rw [if_neg (not_not_intro h), if_neg (fun hx => by have := hx.1; have := h5.1; omega), if_pos h5]
theorem g6 (h : nextB (cell rows (i - 1) g) = cell rows i g) (h4 : ¬ (cell rows (i - 1) g = 2 ∧ 0 < beg rows (i - 1) g ∧ (i : Int) - (beg rows (i - 1) g : Int) < leastB p g)) (h5 : ¬ (cell rows (i - 1) g = 1 ∧ 0 < beg rows (i - 1) g ∧ (i : Int) - (beg rows (i - 1) g : Int) ≠ p.f2)) (h2 : cell rows i g = 2) (hs : soonB p rows i g = true) : groupB p rows i g = 6 := by
  unfold groupB
  rw [if_neg (not_not_intro h), if_neg h4, if_neg h5, if_pos ⟨h2, hs⟩]
theorem g0 (h : nextB (cell rows (i - 1) g) = cell rows i g) (h4 : ¬ (cell rows (i - 1) g = 2 ∧ 0 < beg rows (i - 1) g ∧ (i : Int) - (beg rows (i - 1) g : Int) < leastB p g)) (h5 : ¬ (cell rows (i - 1) g = 1 ∧ 0 < beg rows (i - 1) g ∧ (i : Int) - (beg rows (i - 1) g : Int) ≠ p.f2)) (h6 : ¬ (cell rows i g = 2 ∧ soonB p rows i g = true)) : groupB p rows i g = 0 := by
  unfold groupB
  rw [if_neg (not_not_intro h), if_neg h4, if_neg h5, if_neg h6]
end
def lookPre (p : S25) (rows : List (List Int)) (n : Nat) (F : Nat → Int) : List Blk := [.var 26 [cRows rows], .var 22 [.own 4], .var 76 [.fn (.func 46) [] [(1, 0)]], .var 25 (plCells p), .row 3 n 1 (elF F)]
structure LookOk (p : S25) (rows : List (List Int)) (i g : Nat) (F : Nat → Int) : Prop where
  fit : fitP p = true
  few : rows.length ≤ 1000
  lt : i < rows.length
  pos : 0 < i
  gl : g < p.f0.length
  len : ∀ k, k ≤ i → (rows.getD k []).length = p.f0.length
  was : 0 ≤ cell rows (i - 1) g ∧ cell rows (i - 1) g < 3
  from_ : F g = (beg rows (i - 1) g : Int)
def SpLook : Spec := .ro fun a q r => ∃ p rows i g F, LookOk p rows i g F ∧ a = [fI (i : Int), fI (g : Int), pt 0, pt 1, pt 2, pt 3] ∧ q = lookPre p rows p.f0.length F ∧ r = fI (groupB p rows i g)
theorem Γk : ΓOk Tryd.prog (look [(48, SpTmay), (46, SpAhead), (27, SpLeast)]) := ((ΓOk.nil.cons least_ok Tryd.func27 (by kernel_rfl)).cons ahead_ok Tryd.func46 (by kernel_rfl)).cons tmay_ok Tryd.func48 (by kernel_rfl)
theorem look_ok : SpecOk Tryd.prog 47 SpLook := by
  refine spec_of_code TZok Γk mixed Tryd.func47 rfl ?_
  rintro args pre r post ⟨⟨p, rows, i, g, F, hL, rfl, rfl, rfl⟩, rfl⟩
  refine ⟨rfl, ?_⟩
  obtain ⟨hf, hrl, hi, hi0, hg, hlen, hwas, hF⟩ := hL
  have hFit := PX.fits_of hf
  have h8 := hFit.may.len8
  have hred := hFit.red
  have hl0 := hlen i (Nat.le_refl i)
  have hl1 := hlen (i - 1) (by omega)
  have hbl := PX.beg_le rows (i - 1) g
  have w1 : vI .i64 (IntKind.i64.wrap ((i : Int) - 1)) = fI ((i - 1 : Nat) : Int) := vI_eq ((St.wr64 (by omega) (by omega)).trans (by omega))
  have w2 : vI .i64 (IntKind.i64.wrap ((i : Int) - p.f3)) = fI ((i : Int) - p.f3) := vI_eq (St.wr64 (by omega) (by omega))
  have w3 : vI .i64 (if (i : Int) - p.f3 > 0 then (i : Int) - p.f3 else 0) = fI ((i - p.f3.toNat : Nat) : Int) := vI_eq (by split <;> omega)
  have w4 : IntKind.i64.wrap ((i : Int) - F g) = (i : Int) - (beg rows (i - 1) g : Int) := by rw [hF]; exact St.wr64 (by omega) (by omega)
  have w5 : decide (F g > 0) = decide (0 < beg rows (i - 1) g) := by rw [hF, decide_eq_decide]; omega
  by_cases hmay : nextB (cell rows (i - 1) g) = cell rows i g
  · rcases (by omega : cell rows (i - 1) g = 0 ∨ cell rows (i - 1) g = 1 ∨ cell rows (i - 1) g = 2) with hc | hc | hc
    · have wa : fI (cell rows (i - 1) g) = fI 0 := by rw [hc]
      have hd : cell rows i g = 2 := by rw [← hmay, hc]; decide
      have wb : fI (cell rows i g) = fI 2 := by rw [hd]
      repeat' (first | refine st_w 16 rfl rfl rfl rfl rfl (fun _ => rfl) w1 (fun _ => rfl) ?_ | refine st_w 21 rfl rfl rfl rfl rfl (fun _ => rfl) wa (fun _ => rfl) ?_ | refine st_w 28 rfl rfl rfl rfl rfl (fun _ => rfl) wb (fun _ => rfl) ?_ | refine st_w 78 rfl rfl rfl rfl rfl (fun _ => rfl) w2 (fun _ => rfl) ?_ | refine st_w 79 rfl rfl rfl rfl rfl (fun _ => rfl) w3 (fun _ => rfl) ?_ | refine st_v rfl rfl rfl rfl (fun _ => rfl) rfl (fun _ => rfl) ?_ | refine st_skip rfl rfl rfl ?_ | refine st_b rfl rfl rfl rfl (fun _ => rfl) rfl (fun h1 => ?_) (fun h1 => ?_) | refine st_n rfl rfl rfl rfl (fun _ => rfl) rfl (fun _ => rfl) ?_ | refine st_s rfl rfl rfl rfl (fun _ => rfl) rfl (fun _ => rfl) ?_ | refine c_seq ?_ | refine c_region ?_ | refine c_plain rfl ?_ | refine c_drawn rfl (by kernel_rfl) ?_ | refine st_nil ?_ | refine c_norm ?_ | refine c_cret ?_ | refine c_ret ?_ | refine c_true rfl ?_ | refine c_false rfl ?_ | refine c_skip ?_ | refine c_block ?_ | refine c_bnorm ?_ | refine c_bret ?_ | refine c_bexit rfl ?_ | refine c_bpass rfl ?_ | refine c_exit ?_ | refine c_cexit ?_ | refine c_lret ?_ | refine c_lexit ?_ | refine c_scope ?_ | refine c_label ?_ | refine c_snorm ?_ | refine c_sret ?_ | refine c_sexit ?_ | refine st_call rfl rfl rfl rfl rfl rfl rfl (call_v (vB true) rfl ⟨0, 2, by decide, rfl, congrArg vB (by decide)⟩ rfl rfl rfl (cb_v rfl (fun _ => rfl) ?_)) | refine st_call rfl rfl rfl rfl rfl rfl rfl (call_ro [1, 4] [fI (g : Int), fI (i : Int), pt 0] [.var 22 [.own 1], .row 3 p.f0.length 1 (elF F)] (fI ((i : Int) - (beg rows (i - 1) g : Int))) ⟨p.f0.length, g, (i : Int), _, F, hg, w4, rfl, rfl, rfl⟩ rfl rfl ⟨rfl, rfl, trivial⟩ (cb_v rfl (fun _ => rfl) ?_)) | refine st_call rfl rfl rfl rfl rfl rfl rfl (call_v (fI (leastB p g)) rfl ⟨p, g, hf, hg, rfl, rfl⟩ rfl rfl rfl (cb_v rfl (fun _ => rfl) ?_)) | refine st_pv rfl rfl rfl rfl (fun _ => rfl) (show 0 ≤ ((i - 1 : Nat) : Int) ∧ ((i - 1 : Nat) : Int) < (rows.length : Int) by omega) rfl (fun _ => rfl) ?_ | refine st_pv rfl rfl rfl rfl (fun _ => rfl) (show 0 ≤ (i : Int) ∧ (i : Int) < (rows.length : Int) by omega) rfl (fun _ => rfl) ?_ | refine st_pv rfl rfl rfl rfl (fun _ => rfl) (show 0 ≤ (g : Int) ∧ (g : Int) < ((rows.getD (i - 1) []).length : Int) by omega) rfl (fun _ => rfl) ?_ | refine st_pv rfl rfl rfl rfl (fun _ => rfl) (show 0 ≤ (g : Int) ∧ (g : Int) < ((rows.getD i []).length : Int) by omega) rfl (fun _ => rfl) ?_ | refine st_pv rfl rfl rfl rfl (fun _ => rfl) (show 0 ≤ (g : Int) ∧ (g : Int) < (p.f0.length : Int) by omega) rfl (fun _ => rfl) ?_ | refine st_pv rfl rfl rfl rfl (fun _ => rfl) (show g < p.f0.length by omega) rfl (fun _ => rfl) ?_ | fail)
      refine c_loop (fun k : Nat => i - p.f3.toNat ≤ k ∧ k ≤ i ∧ ∀ a b : Nat, a < k → (i : Int) ≤ (a : Int) + p.f3 → b < p.f0.length → (PM.row p.f0 g).testBit b = true → cell rows a b = 0) (fun k => [(11, fI (k : Int)), (0, fI (i : Int)), (1, fI (g : Int)), (2, pt 0), (5, pt 3)]) (fun _ => enumH 0 (lookPre p rows p.f0.length F)) (fun k => i - k) [0, 1, 2, 3, 4] (i - p.f3.toNat) ⟨Nat.le_refl _, Nat.sub_le _ _, fun a b h1 h2 => by omega⟩ rfl ⟨rfl, rfl, rfl, rfl, rfl, rfl, rfl, rfl, rfl, rfl, trivial⟩ ⟨⟨rfl, rfl, rfl⟩, ⟨rfl, rfl, rfl⟩, ⟨rfl, rfl, rfl⟩, ⟨rfl, rfl, rfl⟩, ⟨rfl, rfl, rfl⟩, trivial⟩ rfl (fun k hk => ?_)
      obtain ⟨hk0, hk1, hno⟩ := hk
      have hh4 : ¬ (cell rows (i - 1) g = 2 ∧ 0 < beg rows (i - 1) g ∧ (i : Int) - (beg rows (i - 1) g : Int) < leastB p g) := fun hx => by omega
      have hh5 : ¬ (cell rows (i - 1) g = 1 ∧ 0 < beg rows (i - 1) g ∧ (i : Int) - (beg rows (i - 1) g : Int) ≠ p.f2) := fun hx => by omega
      by_cases hki : k < i
      · have wt : vB (decide ((k : Int) < (i : Int))) = vB true := by rw [decide_eq_true (by omega)]
        have hlk := hlen k (by omega)
        repeat' (first | refine st_w 82 rfl rfl rfl rfl rfl (fun _ => rfl) wt (fun _ => rfl) ?_ | refine st_v rfl rfl rfl rfl (fun _ => rfl) rfl (fun _ => rfl) ?_ | refine st_skip rfl rfl rfl ?_ | refine st_b rfl rfl rfl rfl (fun _ => rfl) rfl (fun h1 => ?_) (fun h1 => ?_) | refine st_n rfl rfl rfl rfl (fun _ => rfl) rfl (fun _ => rfl) ?_ | refine st_s rfl rfl rfl rfl (fun _ => rfl) rfl (fun _ => rfl) ?_ | refine c_seq ?_ | refine c_region ?_ | refine c_plain rfl ?_ | refine c_drawn rfl (by kernel_rfl) ?_ | refine st_nil ?_ | refine c_norm ?_ | refine c_cret ?_ | refine c_ret ?_ | refine c_true rfl ?_ | refine c_false rfl ?_ | refine c_skip ?_ | refine c_block ?_ | refine c_bnorm ?_ | refine c_bret ?_ | refine c_bexit rfl ?_ | refine c_bpass rfl ?_ | refine c_exit ?_ | refine c_cexit ?_ | refine c_lret ?_ | refine c_lexit ?_ | refine c_scope ?_ | refine c_label ?_ | refine c_snorm ?_ | refine c_sret ?_ | refine c_sexit ?_ | refine st_pv rfl rfl rfl rfl (fun _ => rfl) (show 0 ≤ (k : Int) ∧ (k : Int) < (rows.length : Int) by omega) rfl (fun _ => rfl) ?_ | fail)
        refine c_loop (fun h : Nat => h ≤ p.f0.length ∧ ∀ b : Nat, b < h → (PM.row p.f0 g).testBit b = true → cell rows k b = 0) (fun h => [(90, fI (h : Int)), (88, fInts (rows.getD k [])), (89, fI ((rows.getD k []).length : Int)), (11, fI (k : Int)), (0, fI (i : Int)), (1, fI (g : Int)), (2, pt 0), (5, pt 3)]) (fun _ => enumH 0 (lookPre p rows p.f0.length F)) (fun h => p.f0.length - h) [0, 1, 2, 3, 4] 0 ⟨Nat.zero_le _, fun b h1 => by omega⟩ rfl ⟨rfl, rfl, rfl, rfl, rfl, rfl, rfl, rfl, rfl, rfl, rfl, rfl, rfl, rfl, rfl, rfl, trivial⟩ ⟨⟨rfl, rfl, rfl⟩, ⟨rfl, rfl, rfl⟩, ⟨rfl, rfl, rfl⟩, ⟨rfl, rfl, rfl⟩, ⟨rfl, rfl, rfl⟩, trivial⟩ rfl (fun h hh => ?_)
        obtain ⟨hh0, hnb⟩ := hh
        by_cases hhl : h < p.f0.length
        · have wt2 : vB (decide ((h : Int) < ((rows.getD k []).length : Int))) = vB true := by rw [decide_eq_true (by omega)]
          have hrg := hFit.may.rng g hg
          have hp8 := hFit.may.p8
          have wbit : (IntKind.i64.wrap ((BitVec.ofInt 64 ((p.f0.getD g 0).fdiv (2 ^ (min h 64))) &&& BitVec.ofInt 64 1).toNat : Int) == 1) = (PM.row p.f0 g).testBit h := pl_bit hrg.1 (by omega) (by omega)
          repeat' (first | refine st_w 91 rfl rfl rfl rfl rfl (fun _ => rfl) wt2 (fun _ => rfl) ?_ | refine st_wb 103 rfl rfl rfl rfl rfl (fun _ => rfl) wbit (fun h1 => ?_) (fun h1 => ?_) | refine st_v rfl rfl rfl rfl (fun _ => rfl) rfl (fun _ => rfl) ?_ | refine st_skip rfl rfl rfl ?_ | refine st_b rfl rfl rfl rfl (fun _ => rfl) rfl (fun h1 => ?_) (fun h1 => ?_) | refine st_n rfl rfl rfl rfl (fun _ => rfl) rfl (fun _ => rfl) ?_ | refine st_s rfl rfl rfl rfl (fun _ => rfl) rfl (fun _ => rfl) ?_ | refine c_seq ?_ | refine c_region ?_ | refine c_plain rfl ?_ | refine c_drawn rfl (by kernel_rfl) ?_ | refine st_nil ?_ | refine c_norm ?_ | refine c_cret ?_ | refine c_ret ?_ | refine c_true rfl ?_ | refine c_false rfl ?_ | refine c_skip ?_ | refine c_block ?_ | refine c_bnorm ?_ | refine c_bret ?_ | refine c_bexit rfl ?_ | refine c_bpass rfl ?_ | refine c_exit ?_ | refine c_cexit ?_ | refine c_lret ?_ | refine c_lexit ?_ | refine c_scope ?_ | refine c_label ?_ | refine c_snorm ?_ | refine c_sret ?_ | refine c_sexit ?_ | refine st_pv rfl rfl rfl rfl (fun _ => rfl) (show 0 ≤ (h : Int) ∧ (h : Int) < ((rows.getD k []).length : Int) by omega) rfl (fun _ => rfl) ?_ | refine st_pv rfl rfl rfl rfl (fun _ => rfl) (show 0 ≤ (g : Int) ∧ (g : Int) < (p.f0.length : Int) by omega) rfl (fun _ => rfl) ?_ | refine st_pv rfl rfl rfl rfl (fun _ => rfl) (show 0 ≤ (h : Int) by omega) rfl (fun _ => rfl) ?_ | fail)
          · have hx : (cell rows k h != 0) = true := by assumption
            exact ⟨tk_eq (g6 hmay hh4 hh5 hd (PX.soon_iff.2 ⟨k, h, hki, by omega, hhl, by assumption, by simpa using hx⟩)).symm, rfl, rfl, rfl, rfl, rfl, rfl, rfl, rfl, rfl, rfl, rfl, rfl, trivial⟩
          · have hx : (cell rows k h != 0) = false := by assumption
            exact c_lnorm [0, 1, 2, 3, 4] (h + 1) ⟨hhl, fun b hb hbt => if e : b = h then by rw [e]; simpa using hx else hnb b (by omega) hbt⟩ (by show p.f0.length - (h + 1) < p.f0.length - h; omega) rfl ⟨fI_eq ((St.wr64 (by omega) (by omega)).trans (by omega : (h : Int) + 1 = ((h + 1 : Nat) : Int))), rfl, rfl, rfl, rfl, rfl, rfl, rfl, rfl, rfl, rfl, rfl, rfl, rfl, rfl, rfl, trivial⟩ ⟨⟨rfl, rfl, rfl⟩, ⟨rfl, rfl, rfl⟩, ⟨rfl, rfl, rfl⟩, ⟨rfl, rfl, rfl⟩, ⟨rfl, rfl, rfl⟩, trivial⟩ rfl
          · have hx : (PM.row p.f0 g).testBit h = false := by assumption
            exact c_lnorm [0, 1, 2, 3, 4] (h + 1) ⟨hhl, fun b hb hbt => if e : b = h then by rw [e, hx] at hbt; cases hbt else hnb b (by omega) hbt⟩ (by show p.f0.length - (h + 1) < p.f0.length - h; omega) rfl ⟨fI_eq ((St.wr64 (by omega) (by omega)).trans (by omega : (h : Int) + 1 = ((h + 1 : Nat) : Int))), rfl, rfl, rfl, rfl, rfl, rfl, rfl, rfl, rfl, rfl, rfl, rfl, rfl, rfl, rfl, trivial⟩ ⟨⟨rfl, rfl, rfl⟩, ⟨rfl, rfl, rfl⟩, ⟨rfl, rfl, rfl⟩, ⟨rfl, rfl, rfl⟩, ⟨rfl, rfl, rfl⟩, trivial⟩ rfl
        · have wt2 : vB (decide ((h : Int) < ((rows.getD k []).length : Int))) = vB false := by rw [decide_eq_false (by omega)]
          repeat' (first | refine st_w 91 rfl rfl rfl rfl rfl (fun _ => rfl) wt2 (fun _ => rfl) ?_ | refine st_v rfl rfl rfl rfl (fun _ => rfl) rfl (fun _ => rfl) ?_ | refine st_skip rfl rfl rfl ?_ | refine st_b rfl rfl rfl rfl (fun _ => rfl) rfl (fun h1 => ?_) (fun h1 => ?_) | refine st_n rfl rfl rfl rfl (fun _ => rfl) rfl (fun _ => rfl) ?_ | refine st_s rfl rfl rfl rfl (fun _ => rfl) rfl (fun _ => rfl) ?_ | refine c_seq ?_ | refine c_region ?_ | refine c_plain rfl ?_ | refine c_drawn rfl (by kernel_rfl) ?_ | refine st_nil ?_ | refine c_norm ?_ | refine c_cret ?_ | refine c_ret ?_ | refine c_true rfl ?_ | refine c_false rfl ?_ | refine c_skip ?_ | refine c_block ?_ | refine c_bnorm ?_ | refine c_bret ?_ | refine c_bexit rfl ?_ | refine c_bpass rfl ?_ | refine c_exit ?_ | refine c_cexit ?_ | refine c_lret ?_ | refine c_lexit ?_ | refine c_scope ?_ | refine c_label ?_ | refine c_snorm ?_ | refine c_sret ?_ | refine c_sexit ?_ | fail)
          exact c_lnorm [0, 1, 2, 3, 4] (k + 1) ⟨by omega, hki, fun a b ha h1 h2 h3 => if e : a = k then by rw [e]; exact hnb b (by omega) h3 else hno a b (by omega) h1 h2 h3⟩ (by show i - (k + 1) < i - k; omega) rfl ⟨fI_eq ((St.wr64 (by omega) (by omega)).trans (by omega : (k : Int) + 1 = ((k + 1 : Nat) : Int))), rfl, rfl, rfl, rfl, rfl, rfl, rfl, rfl, rfl, trivial⟩ ⟨⟨rfl, rfl, rfl⟩, ⟨rfl, rfl, rfl⟩, ⟨rfl, rfl, rfl⟩, ⟨rfl, rfl, rfl⟩, ⟨rfl, rfl, rfl⟩, trivial⟩ rfl
      · have wt : vB (decide ((k : Int) < (i : Int))) = vB false := by rw [decide_eq_false (by omega)]
        repeat' (first | refine st_w 82 rfl rfl rfl rfl rfl (fun _ => rfl) wt (fun _ => rfl) ?_ | refine st_v rfl rfl rfl rfl (fun _ => rfl) rfl (fun _ => rfl) ?_ | refine st_skip rfl rfl rfl ?_ | refine st_b rfl rfl rfl rfl (fun _ => rfl) rfl (fun h1 => ?_) (fun h1 => ?_) | refine st_n rfl rfl rfl rfl (fun _ => rfl) rfl (fun _ => rfl) ?_ | refine st_s rfl rfl rfl rfl (fun _ => rfl) rfl (fun _ => rfl) ?_ | refine c_seq ?_ | refine c_region ?_ | refine c_plain rfl ?_ | refine c_drawn rfl (by kernel_rfl) ?_ | refine st_nil ?_ | refine c_norm ?_ | refine c_cret ?_ | refine c_ret ?_ | refine c_true rfl ?_ | refine c_false rfl ?_ | refine c_skip ?_ | refine c_block ?_ | refine c_bnorm ?_ | refine c_bret ?_ | refine c_bexit rfl ?_ | refine c_bpass rfl ?_ | refine c_exit ?_ | refine c_cexit ?_ | refine c_lret ?_ | refine c_lexit ?_ | refine c_scope ?_ | refine c_label ?_ | refine c_snorm ?_ | refine c_sret ?_ | refine c_sexit ?_ | fail)
        exact ⟨tk_eq (g0 hmay hh4 hh5 (fun hx => by rw [PX.soon_no (fun a b h1 h2 h3 h4 => hno a b (by omega) h2 h3 h4)] at hx; cases hx.2)).symm, rfl, rfl, rfl, rfl, rfl, rfl, rfl, rfl, rfl, rfl, rfl, rfl, trivial⟩
    · have wa : fI (cell rows (i - 1) g) = fI 1 := by rw [hc]
      have hd : cell rows i g = 0 := by rw [← hmay, hc]; decide
      have wb : fI (cell rows i g) = fI 0 := by rw [hd]
      repeat' (first | refine st_w 16 rfl rfl rfl rfl rfl (fun _ => rfl) w1 (fun _ => rfl) ?_ | refine st_w 21 rfl rfl rfl rfl rfl (fun _ => rfl) wa (fun _ => rfl) ?_ | refine st_w 28 rfl rfl rfl rfl rfl (fun _ => rfl) wb (fun _ => rfl) ?_ | refine st_wb 62 rfl rfl rfl rfl rfl (fun _ => rfl) w5 (fun h1 => ?_) (fun h1 => ?_) | refine st_v rfl rfl rfl rfl (fun _ => rfl) rfl (fun _ => rfl) ?_ | refine st_skip rfl rfl rfl ?_ | refine st_b rfl rfl rfl rfl (fun _ => rfl) rfl (fun h1 => ?_) (fun h1 => ?_) | refine st_n rfl rfl rfl rfl (fun _ => rfl) rfl (fun _ => rfl) ?_ | refine st_s rfl rfl rfl rfl (fun _ => rfl) rfl (fun _ => rfl) ?_ | refine c_seq ?_ | refine c_region ?_ | refine c_plain rfl ?_ | refine c_drawn rfl (by kernel_rfl) ?_ | refine st_nil ?_ | refine c_norm ?_ | refine c_cret ?_ | refine c_ret ?_ | refine c_true rfl ?_ | refine c_false rfl ?_ | refine c_skip ?_ | refine c_block ?_ | refine c_bnorm ?_ | refine c_bret ?_ | refine c_bexit rfl ?_ | refine c_bpass rfl ?_ | refine c_exit ?_ | refine c_cexit ?_ | refine c_lret ?_ | refine c_lexit ?_ | refine c_scope ?_ | refine c_label ?_ | refine c_snorm ?_ | refine c_sret ?_ | refine c_sexit ?_ | refine st_call rfl rfl rfl rfl rfl rfl rfl (call_v (vB true) rfl ⟨1, 0, by decide, rfl, congrArg vB (by decide)⟩ rfl rfl rfl (cb_v rfl (fun _ => rfl) ?_)) | refine st_call rfl rfl rfl rfl rfl rfl rfl (call_ro [1, 4] [fI (g : Int), fI (i : Int), pt 0] [.var 22 [.own 1], .row 3 p.f0.length 1 (elF F)] (fI ((i : Int) - (beg rows (i - 1) g : Int))) ⟨p.f0.length, g, (i : Int), _, F, hg, w4, rfl, rfl, rfl⟩ rfl rfl ⟨rfl, rfl, trivial⟩ (cb_v rfl (fun _ => rfl) ?_)) | refine st_call rfl rfl rfl rfl rfl rfl rfl (call_v (fI (leastB p g)) rfl ⟨p, g, hf, hg, rfl, rfl⟩ rfl rfl rfl (cb_v rfl (fun _ => rfl) ?_)) | refine st_pv rfl rfl rfl rfl (fun _ => rfl) (show 0 ≤ ((i - 1 : Nat) : Int) ∧ ((i - 1 : Nat) : Int) < (rows.length : Int) by omega) rfl (fun _ => rfl) ?_ | refine st_pv rfl rfl rfl rfl (fun _ => rfl) (show 0 ≤ (i : Int) ∧ (i : Int) < (rows.length : Int) by omega) rfl (fun _ => rfl) ?_ | refine st_pv rfl rfl rfl rfl (fun _ => rfl) (show 0 ≤ (g : Int) ∧ (g : Int) < ((rows.getD (i - 1) []).length : Int) by omega) rfl (fun _ => rfl) ?_ | refine st_pv rfl rfl rfl rfl (fun _ => rfl) (show 0 ≤ (g : Int) ∧ (g : Int) < ((rows.getD i []).length : Int) by omega) rfl (fun _ => rfl) ?_ | refine st_pv rfl rfl rfl rfl (fun _ => rfl) (show 0 ≤ (g : Int) ∧ (g : Int) < (p.f0.length : Int) by omega) rfl (fun _ => rfl) ?_ | refine st_pv rfl rfl rfl rfl (fun _ => rfl) (show g < p.f0.length by omega) rfl (fun _ => rfl) ?_ | fail)
      · have hb0 : decide (0 < beg rows (i - 1) g) = true := by assumption
        have hn : ((i : Int) - (beg rows (i - 1) g : Int) != p.f2) = true := by assumption
        exact ⟨tk_eq (g5 hmay ⟨hc, of_decide_eq_true hb0, by simpa using hn⟩).symm, rfl, rfl, rfl, rfl, rfl, rfl, rfl, rfl, rfl, rfl, rfl, rfl, trivial⟩
      · have hn : ((i : Int) - (beg rows (i - 1) g : Int) != p.f2) = false := by assumption
        exact ⟨tk_eq (g0 hmay (fun hx => by omega) (fun hx => hx.2.2 (by simpa using hn)) (fun hx => by omega)).symm, rfl, rfl, rfl, rfl, rfl, rfl, rfl, rfl, rfl, rfl, rfl, rfl, trivial⟩
      · have hb0 : decide (0 < beg rows (i - 1) g) = false := by assumption
        exact ⟨tk_eq (g0 hmay (fun hx => by omega) (fun hx => of_decide_eq_false hb0 hx.2.1) (fun hx => by omega)).symm, rfl, rfl, rfl, rfl, rfl, rfl, rfl, rfl, rfl, rfl, rfl, rfl, trivial⟩
    · have wa : fI (cell rows (i - 1) g) = fI 2 := by rw [hc]
      have hd : cell rows i g = 1 := by rw [← hmay, hc]; decide
      have wb : fI (cell rows i g) = fI 1 := by rw [hd]
      repeat' (first | refine st_w 16 rfl rfl rfl rfl rfl (fun _ => rfl) w1 (fun _ => rfl) ?_ | refine st_w 21 rfl rfl rfl rfl rfl (fun _ => rfl) wa (fun _ => rfl) ?_ | refine st_w 28 rfl rfl rfl rfl rfl (fun _ => rfl) wb (fun _ => rfl) ?_ | refine st_wb 42 rfl rfl rfl rfl rfl (fun _ => rfl) w5 (fun h1 => ?_) (fun h1 => ?_) | refine st_v rfl rfl rfl rfl (fun _ => rfl) rfl (fun _ => rfl) ?_ | refine st_skip rfl rfl rfl ?_ | refine st_b rfl rfl rfl rfl (fun _ => rfl) rfl (fun h1 => ?_) (fun h1 => ?_) | refine st_n rfl rfl rfl rfl (fun _ => rfl) rfl (fun _ => rfl) ?_ | refine st_s rfl rfl rfl rfl (fun _ => rfl) rfl (fun _ => rfl) ?_ | refine c_seq ?_ | refine c_region ?_ | refine c_plain rfl ?_ | refine c_drawn rfl (by kernel_rfl) ?_ | refine st_nil ?_ | refine c_norm ?_ | refine c_cret ?_ | refine c_ret ?_ | refine c_true rfl ?_ | refine c_false rfl ?_ | refine c_skip ?_ | refine c_block ?_ | refine c_bnorm ?_ | refine c_bret ?_ | refine c_bexit rfl ?_ | refine c_bpass rfl ?_ | refine c_exit ?_ | refine c_cexit ?_ | refine c_lret ?_ | refine c_lexit ?_ | refine c_scope ?_ | refine c_label ?_ | refine c_snorm ?_ | refine c_sret ?_ | refine c_sexit ?_ | refine st_call rfl rfl rfl rfl rfl rfl rfl (call_v (vB true) rfl ⟨2, 1, by decide, rfl, congrArg vB (by decide)⟩ rfl rfl rfl (cb_v rfl (fun _ => rfl) ?_)) | refine st_call rfl rfl rfl rfl rfl rfl rfl (call_ro [1, 4] [fI (g : Int), fI (i : Int), pt 0] [.var 22 [.own 1], .row 3 p.f0.length 1 (elF F)] (fI ((i : Int) - (beg rows (i - 1) g : Int))) ⟨p.f0.length, g, (i : Int), _, F, hg, w4, rfl, rfl, rfl⟩ rfl rfl ⟨rfl, rfl, trivial⟩ (cb_v rfl (fun _ => rfl) ?_)) | refine st_call rfl rfl rfl rfl rfl rfl rfl (call_v (fI (leastB p g)) rfl ⟨p, g, hf, hg, rfl, rfl⟩ rfl rfl rfl (cb_v rfl (fun _ => rfl) ?_)) | refine st_pv rfl rfl rfl rfl (fun _ => rfl) (show 0 ≤ ((i - 1 : Nat) : Int) ∧ ((i - 1 : Nat) : Int) < (rows.length : Int) by omega) rfl (fun _ => rfl) ?_ | refine st_pv rfl rfl rfl rfl (fun _ => rfl) (show 0 ≤ (i : Int) ∧ (i : Int) < (rows.length : Int) by omega) rfl (fun _ => rfl) ?_ | refine st_pv rfl rfl rfl rfl (fun _ => rfl) (show 0 ≤ (g : Int) ∧ (g : Int) < ((rows.getD (i - 1) []).length : Int) by omega) rfl (fun _ => rfl) ?_ | refine st_pv rfl rfl rfl rfl (fun _ => rfl) (show 0 ≤ (g : Int) ∧ (g : Int) < ((rows.getD i []).length : Int) by omega) rfl (fun _ => rfl) ?_ | refine st_pv rfl rfl rfl rfl (fun _ => rfl) (show 0 ≤ (g : Int) ∧ (g : Int) < (p.f0.length : Int) by omega) rfl (fun _ => rfl) ?_ | refine st_pv rfl rfl rfl rfl (fun _ => rfl) (show g < p.f0.length by omega) rfl (fun _ => rfl) ?_ | fail)
      · have hb0 : decide (0 < beg rows (i - 1) g) = true := by assumption
        have hn : decide ((i : Int) - (beg rows (i - 1) g : Int) < leastB p g) = true := by assumption
        exact ⟨tk_eq (g4 hmay ⟨hc, of_decide_eq_true hb0, of_decide_eq_true hn⟩).symm, rfl, rfl, rfl, rfl, rfl, rfl, rfl, rfl, rfl, rfl, rfl, rfl, trivial⟩
      · have hn : decide ((i : Int) - (beg rows (i - 1) g : Int) < leastB p g) = false := by assumption
        exact ⟨tk_eq (g0 hmay (fun hx => of_decide_eq_false hn hx.2.2) (fun hx => by omega) (fun hx => by omega)).symm, rfl, rfl, rfl, rfl, rfl, rfl, rfl, rfl, rfl, rfl, rfl, rfl, trivial⟩
      · have hb0 : decide (0 < beg rows (i - 1) g) = false := by assumption
        exact ⟨tk_eq (g0 hmay (fun hx => of_decide_eq_false hb0 hx.2.1) (fun hx => by omega) (fun hx => by omega)).symm, rfl, rfl, rfl, rfl, rfl, rfl, rfl, rfl, rfl, rfl, rfl, rfl, trivial⟩
  · repeat' (first | refine st_w 16 rfl rfl rfl rfl rfl (fun _ => rfl) w1 (fun _ => rfl) ?_ | refine st_v rfl rfl rfl rfl (fun _ => rfl) rfl (fun _ => rfl) ?_ | refine st_skip rfl rfl rfl ?_ | refine st_b rfl rfl rfl rfl (fun _ => rfl) rfl (fun h1 => ?_) (fun h1 => ?_) | refine st_n rfl rfl rfl rfl (fun _ => rfl) rfl (fun _ => rfl) ?_ | refine st_s rfl rfl rfl rfl (fun _ => rfl) rfl (fun _ => rfl) ?_ | refine c_seq ?_ | refine c_region ?_ | refine c_plain rfl ?_ | refine c_drawn rfl (by kernel_rfl) ?_ | refine st_nil ?_ | refine c_norm ?_ | refine c_cret ?_ | refine c_ret ?_ | refine c_true rfl ?_ | refine c_false rfl ?_ | refine c_skip ?_ | refine c_block ?_ | refine c_bnorm ?_ | refine c_bret ?_ | refine c_bexit rfl ?_ | refine c_bpass rfl ?_ | refine c_exit ?_ | refine c_cexit ?_ | refine c_lret ?_ | refine c_lexit ?_ | refine c_scope ?_ | refine c_label ?_ | refine c_snorm ?_ | refine c_sret ?_ | refine c_sexit ?_ | refine st_call rfl rfl rfl rfl rfl rfl rfl (call_v (vB false) rfl ⟨cell rows (i - 1) g, cell rows i g, hwas, rfl, by rw [decide_eq_false hmay]⟩ rfl rfl rfl (cb_v rfl (fun _ => rfl) ?_)) | refine st_pv rfl rfl rfl rfl (fun _ => rfl) (show 0 ≤ ((i - 1 : Nat) : Int) ∧ ((i - 1 : Nat) : Int) < (rows.length : Int) by omega) rfl (fun _ => rfl) ?_ | refine st_pv rfl rfl rfl rfl (fun _ => rfl) (show 0 ≤ (i : Int) ∧ (i : Int) < (rows.length : Int) by omega) rfl (fun _ => rfl) ?_ | refine st_pv rfl rfl rfl rfl (fun _ => rfl) (show 0 ≤ (g : Int) ∧ (g : Int) < ((rows.getD (i - 1) []).length : Int) by omega) rfl (fun _ => rfl) ?_ | refine st_pv rfl rfl rfl rfl (fun _ => rfl) (show 0 ≤ (g : Int) ∧ (g : Int) < ((rows.getD i []).length : Int) by omega) rfl (fun _ => rfl) ?_ | refine st_pv rfl rfl rfl rfl (fun _ => rfl) (show 0 ≤ (g : Int) ∧ (g : Int) < (p.f0.length : Int) by omega) rfl (fun _ => rfl) ?_ | refine st_pv rfl rfl rfl rfl (fun _ => rfl) (show g < p.f0.length by omega) rfl (fun _ => rfl) ?_ | fail)
    exact ⟨tk_eq (g3 hmay).symm, rfl, rfl, rfl, rfl, rfl, rfl, rfl, rfl, rfl, rfl, rfl, rfl, trivial⟩
end Tr
end Go.Proofs.YtpciieagafddcaaDoor.E
