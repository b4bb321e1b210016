/- The document's layer 23, walked by the engine: a row's flaw (own text). -/
import Derived.Test.YtpciieagafddcaaDoorQiET2
import Derived.Test.YtpciieagafddcaaDoorQiRL
import Derived.Test.YtpciieagafddcaaDoorQiF14
import Derived.Test.YtpciieagafddcaaDoorQiF13
import Derived.Test.YtpciieagafddcaaDoorQiF15
import Derived.Test.YtpciieagafddcaaDoorQiF16
import Derived.Test.YtpciieagafddcaaDoorQiF11
namespace Go.Proofs.YtpciieagafddcaaDoor.E
open Go Go.RowKit Go.Proofs Go.Proofs.YtpciieagafddcaaDoorW.PrintWords Go.Proofs.YtpciieagafddcaaDoorW.PrintLast Go.Proofs.YtpciieagafddcaaDoorW.PrintMore Go.Proofs.YtpciieagafddcaaDoor.F
set_option linter.unusedVariables false
set_option linter.unusedSimpArgs false
set_option maxRecDepth 100000
set_option maxHeartbeats 8000000
attribute [local irreducible] acode callR
namespace Tr
open St Rw
open PX (fitP clashP cell beg leastF leastB nextB soonB groupB groupsB rowB fromB checkB RowOk onB Betw LeastI ClearIs)
def SpRfit : Spec := .pure fun a r => ∃ p, a = [fPl p] ∧ r = vB (fitP p)
theorem rfit_ok : SpecOk Tryd.prog 50 SpRfit := by
  rintro args pre r post ⟨⟨p, rfl, rfl⟩, rfl, rfl⟩ c ys hgl hy hI hZ hpre hdj
  match ys, hy with
  | [y], ⟨hy, _⟩ =>
    obtain ⟨A0, c0, A1, c1, rfl, h0, h1, h2, h3⟩ := pl_val hy
    obtain ⟨k, hk⟩ := (RF.rfit_ev p.f0 p.f1 p.f2 p.f3 p.f4).rounds
    exact (pelicanref14_Fit.calls k A0 c0 p.f0 A1 c1 p.f1 p.f2 p.f3 p.f4 _ c.w h1 h0 h3 h2 hk).mono fun e w' ⟨he, hb⟩ => by
      subst he
      exact ends_of hI hb ⟨rfl, rfl⟩
def SpRmay : Spec := .pure fun a r => ∃ l, l.length ≤ 1000 ∧ a = [fInts l] ∧ r = vB (lamp_mayB.f l)
theorem rmay_ok : SpecOk Tryd.prog 88 SpRmay := by
  rintro args pre r post ⟨⟨l, hl, rfl, rfl⟩, rfl, rfl⟩ c ys hgl hy hI hZ hpre hdj
  match ys, hy with
  | [y], ⟨hy, _⟩ =>
    have h1 : (cInts l).S c.w c.I y := hy.1
    obtain ⟨A, n, rfl⟩ := S_slice h1
    have h2 := int_C h1
    obtain ⟨k, hk⟩ := (RL.may15_ev l hl).rounds
    exact (pelicanref15_May.calls k A n l _ c.w h2.2 h2.1 hk).mono fun e w' ⟨he, hb⟩ => by
      subst he
      exact ends_of hI hb.below ⟨rfl, rfl⟩
def SpRclash : Spec := .pure fun a r => ∃ p l, l.length ≤ 1000 ∧ a = [fPl p, fInts l] ∧ r = vB (clashP p l)
theorem rclash_ok : SpecOk Tryd.prog 89 SpRclash := by
  rintro args pre r post ⟨⟨p, l, hl, rfl, rfl⟩, rfl, rfl⟩ c ys hgl hy hI hZ hpre hdj
  match ys, hy with
  | [y, z], ⟨hy, hz, _⟩ =>
    obtain ⟨A0, c0, A1, c1, rfl, h0, h1, h2, h3⟩ := pl_val hy
    have h4 : (cInts l).S c.w c.I z := hz.1
    obtain ⟨A, n, rfl⟩ := S_slice h4
    have h5 := int_C h4
    obtain ⟨k, hk⟩ := (RL.clash15_ev p.f0 p.f1 p.f2 p.f3 p.f4 l hl).rounds
    exact (pelicanref15_Clash.calls k A0 c0 p.f0 A1 c1 p.f1 p.f2 p.f3 p.f4 A n l _ c.w h1 h0 h3 h2 h5.2 h5.1 hk).mono fun e w' ⟨he, hb⟩ => by
      subst he
      exact ends_of hI hb ⟨rfl, rfl⟩
def SpRin : Spec := .pure fun a r => ∃ (x : Int) (i : Nat), (0 ≤ x ∧ x < 1048576) ∧ i < 12 ∧ a = [fI x, fI (i : Int)] ∧ r = vB (x.toNat.testBit i)
theorem rin_ok : SpecOk Tryd.prog 111 SpRin := by
  rintro args pre r post ⟨⟨x, i, hx, hi, rfl, rfl⟩, rfl, rfl⟩ c ys hgl hy hI hZ hpre hdj
  obtain ⟨n, rfl⟩ := Int.eq_ofNat_of_zero_le hx.1
  match ys, hy with
  | [y, z], ⟨hy, hz, _⟩ =>
    have hy : y = .int .i64 (n : Int) := hy.1
    have hz : z = .int .i64 (i : Int) := hz.1
    subst hy hz
    obtain ⟨k, hk⟩ := (RF.in_ev (x := n) (i := i) (by omega) hi).rounds
    exact (pelicanref13_In.calls k _ _ _ c.w hk).mono fun e w' ⟨he, hb⟩ => by
      subst he
      exact ends_of hI hb.below ⟨rfl, rfl⟩
/-! ### how long a group has green at least -/
def SpRhas : Spec := .pure fun a r => ∃ (p : S25) (k g : Nat), fitP p = true ∧ k < p.f1.length ∧ g < 12 ∧ a = [fPl p, fI (k : Int), fI (g : Int)] ∧ r = vB ((p.f1.getD k z87).f0.toNat.testBit g)
theorem rhas_ok : SpecOk Tryd.prog 87 SpRhas := by
  rintro args pre r post ⟨⟨p, k, g, hf, hk, hg, rfl, rfl⟩, rfl, rfl⟩ c ys hgl hy hI hZ hpre hdj
  match ys, hy with
  | [y, z, u], ⟨hy, hz, hu, _⟩ =>
    obtain ⟨A0, c0, A1, c1, rfl, h0, h1, h2, h3⟩ := pl_val hy
    have hz : z = .int .i64 (k : Int) := hz.1
    have hu : u = .int .i64 (g : Int) := hu.1
    subst hz hu
    have hr := stage_rng (PX.fits_of hf) hk
    have he : p.f1.getD k z87 = p.f1[k] := by rw [List.getD_eq_getElem?_getD, List.getElem?_eq_getElem hk]; rfl
    rw [he] at hr ⊢
    obtain ⟨n, hn⟩ := (RF.has_ev p.f0 p.f1 p.f2 p.f3 p.f4 hk ⟨hr.1, by omega⟩ hg).rounds
    exact (pelicanref14_Has.calls n A0 c0 p.f0 A1 c1 p.f1 p.f2 p.f3 p.f4 _ _ _ c.w h1 h0 h3 h2 hn).mono fun e w' ⟨he, hb⟩ => by
      subst he
      exact ends_of hI (by first | exact hb | exact hb.below) ⟨rfl, rfl⟩
def rleastF (g : Nat) (b : Int) (s : S87) : Int := if s.f0.toNat.testBit g = true then (if b = 0 then s.f1 else if s.f1 < b then s.f1 else b) else b
theorem rleast_pos (g : Nat) : ∀ (ss : List S87) (b : Int), (∀ s ∈ ss, 1 ≤ s.f1 ∧ s.f1 ≤ 200) → 1 ≤ b → ss.foldl (rleastF g) b = ss.foldl (leastF g) b
  | [], b, _, _ => rfl
  | s :: ss, b, hs, hb => by
    have h1 := hs s (by simp)
    have e : rleastF g b s = leastF g b s ∧ 1 ≤ leastF g b s := by
      unfold rleastF leastF mn
      split
      · rw [if_neg (by omega)]
        refine ⟨rfl, ?_⟩
        split <;> omega
      · exact ⟨rfl, hb⟩
    rw [List.foldl_cons, List.foldl_cons, e.1]
    exact rleast_pos g ss _ (fun t ht => hs t (by simp [ht])) e.2
theorem rleast_zero (g : Nat) : ∀ ss : List S87, (∀ s ∈ ss, 1 ≤ s.f1 ∧ s.f1 ≤ 200) → (∃ s ∈ ss, s.f0.toNat.testBit g = true) → ss.foldl (rleastF g) 0 = ss.foldl (leastF g) 200
  | [], _, ⟨s, hs, _⟩ => by cases hs
  | s :: ss, hs, hex => by
    have h1 := hs s (by simp)
    rw [List.foldl_cons, List.foldl_cons]
    cases hb : s.f0.toNat.testBit g with
    | true =>
      have e1 : rleastF g 0 s = s.f1 := by unfold rleastF; rw [if_pos hb, if_pos rfl]
      have e2 : leastF g 200 s = s.f1 := by unfold leastF mn; rw [if_pos hb]; split <;> omega
      rw [e1, e2]
      exact rleast_pos g ss _ (fun t ht => hs t (by simp [ht])) h1.1
    | false =>
      have e1 : rleastF g 0 s = 0 := by unfold rleastF; rw [if_neg (by rw [hb]; decide)]
      have e2 : leastF g 200 s = 200 := by unfold leastF; rw [if_neg (by rw [hb]; decide)]
      rw [e1, e2]
      refine rleast_zero g ss (fun t ht => hs t (by simp [ht])) ?_
      obtain ⟨t, ht, htb⟩ := hex
      rcases List.mem_cons.1 ht with rfl | ht
      · rw [hb] at htb; cases htb
      · exact ⟨t, ht, htb⟩
theorem rleast_eq {p : S25} (hf : fitP p = true) {g : Nat} (hg : g < p.f0.length) : p.f1.foldl (rleastF g) 0 = leastB p g := by
  have hF := PX.fits_of hf
  refine rleast_zero g p.f1 (fun s hs => (hF.stage s hs).2.2.1) ?_
  have hst : p.f1.all (plan_stageB.f p.f0) = true := by
    rw [List.all_eq_true]
    intro s hs
    rw [PP.stage_eq]
    have := hF.stage s hs
    simp [this]
  exact (RF.had_iff hF.may hst).1 hF.had g hg
theorem Γrl : ΓOk Tryd.prog (look [(50, SpRfit), (87, SpRhas)]) := (ΓOk.nil.cons rhas_ok Tryd.func87 (by kernel_rfl)).cons rfit_ok Tryd.func50 (by kernel_rfl)
theorem rleast_ok : SpecOk Tryd.prog 114 SpLeast := by
  refine spec_of_code TZok Γrl mixed Tryd.func114 rfl ?_
  rintro args pre r post ⟨⟨p, g, hf, hg, rfl, rfl⟩, rfl, rfl⟩
  refine ⟨rfl, ?_⟩
  have hF := PX.fits_of hf
  have h8 := hF.may.len8
  have h6 := hF.few
  have v1 : vB (decide ((g : Int) < 0)) = vB false := by rw [decide_eq_false (by omega)]
  have v2 : vB (decide ((g : Int) ≥ (p.f0.length : Int))) = vB false := by rw [decide_eq_false (by omega)]
  repeat' (first | refine st_w 15 rfl rfl rfl rfl rfl (fun _ => rfl) v1 (fun _ => rfl) ?_ | refine st_w 22 rfl rfl rfl rfl rfl (fun _ => rfl) v2 (fun _ => rfl) ?_ | refine st_v rfl rfl rfl rfl (fun _ => rfl) rfl (fun _ => rfl) ?_ | refine st_skip rfl rfl rfl ?_ | refine st_b rfl rfl rfl rfl (fun _ => rfl) rfl (fun h1 => ?_) (fun h1 => ?_) | refine st_n rfl rfl rfl rfl (fun _ => rfl) rfl (fun _ => rfl) ?_ | refine st_s rfl rfl rfl rfl (fun _ => rfl) rfl (fun _ => rfl) ?_ | refine c_seq ?_ | refine c_region ?_ | refine c_plain rfl ?_ | refine c_drawn rfl (by kernel_rfl) ?_ | refine st_nil ?_ | refine c_norm ?_ | refine c_cret ?_ | refine c_ret ?_ | refine c_true rfl ?_ | refine c_false rfl ?_ | refine c_skip ?_ | refine c_block ?_ | refine c_bnorm ?_ | refine c_bret ?_ | refine c_bexit rfl ?_ | refine c_bpass rfl ?_ | refine c_exit ?_ | refine c_cexit ?_ | refine c_lret ?_ | refine c_lexit ?_ | refine c_scope ?_ | refine c_label ?_ | refine c_snorm ?_ | refine c_sret ?_ | refine c_sexit ?_ | refine st_call rfl rfl rfl rfl rfl rfl rfl (call_v (vB true) rfl ⟨p, rfl, by rw [hf]⟩ rfl rfl rfl (cb_v rfl (fun _ => rfl) ?_)) | fail)
  refine c_loop (fun i : Nat => i ≤ p.f1.length) (fun i => [(7, fI (i : Int)), (6, fI ((p.f1.take i).foldl (rleastF g) 0)), (1, fI (g : Int)), (2, pt 0)]) (fun _ => [(0, some (.var 25 (plCells p)))]) (fun i => p.f1.length - i) [0] 0 (Nat.zero_le _) rfl ⟨rfl, rfl, rfl, rfl, rfl, rfl, rfl, rfl, trivial⟩ ⟨⟨rfl, rfl, rfl⟩, trivial⟩ rfl (fun i hi => ?_)
  by_cases hil : i < p.f1.length
  case neg =>
    obtain rfl : i = p.f1.length := by omega
    have wt : vB (decide ((p.f1.length : Int) < (p.f1.length : Int))) = vB false := by rw [decide_eq_false (by omega)]
    repeat' (first | refine st_w 28 rfl rfl rfl rfl rfl (fun _ => rfl) wt (fun _ => rfl) ?_ | refine st_v rfl rfl rfl rfl (fun _ => rfl) rfl (fun _ => rfl) ?_ | refine st_skip rfl rfl rfl ?_ | refine st_b rfl rfl rfl rfl (fun _ => rfl) rfl (fun h1 => ?_) (fun h1 => ?_) | refine st_n rfl rfl rfl rfl (fun _ => rfl) rfl (fun _ => rfl) ?_ | refine st_s rfl rfl rfl rfl (fun _ => rfl) rfl (fun _ => rfl) ?_ | refine c_seq ?_ | refine c_region ?_ | refine c_plain rfl ?_ | refine c_drawn rfl (by kernel_rfl) ?_ | refine st_nil ?_ | refine c_norm ?_ | refine c_cret ?_ | refine c_ret ?_ | refine c_true rfl ?_ | refine c_false rfl ?_ | refine c_skip ?_ | refine c_block ?_ | refine c_bnorm ?_ | refine c_bret ?_ | refine c_bexit rfl ?_ | refine c_bpass rfl ?_ | refine c_exit ?_ | refine c_cexit ?_ | refine c_lret ?_ | refine c_lexit ?_ | refine c_scope ?_ | refine c_label ?_ | refine c_snorm ?_ | refine c_sret ?_ | refine c_sexit ?_ | fail)
    exact ⟨tk_eq (by rw [List.take_length]; exact rleast_eq hf hg), rfl, rfl, trivial⟩
  have wt : vB (decide ((i : Int) < (p.f1.length : Int))) = vB true := by rw [decide_eq_true (by omega)]
  have ht := take_fold (f := rleastF g) (b := (0 : Int)) (z := z87) hil
  have he : rleastF g ((p.f1.take i).foldl (rleastF g) 0) (p.f1.getD i z87) = if (p.f1.getD i z87).f0.toNat.testBit g = true then (if (p.f1.take i).foldl (rleastF g) 0 = 0 then (p.f1.getD i z87).f1 else if (p.f1.getD i z87).f1 < (p.f1.take i).foldl (rleastF g) 0 then (p.f1.getD i z87).f1 else (p.f1.take i).foldl (rleastF g) 0) else (p.f1.take i).foldl (rleastF g) 0 := rfl
  rw [he] at ht
  clear he
  cases hb : (p.f1.getD i z87).f0.toNat.testBit g with
  | false =>
    repeat' (first | refine st_w 28 rfl rfl rfl rfl rfl (fun _ => rfl) wt (fun _ => rfl) ?_ | refine st_v rfl rfl rfl rfl (fun _ => rfl) rfl (fun _ => rfl) ?_ | refine st_skip rfl rfl rfl ?_ | refine st_b rfl rfl rfl rfl (fun _ => rfl) rfl (fun h1 => ?_) (fun h1 => ?_) | refine st_n rfl rfl rfl rfl (fun _ => rfl) rfl (fun _ => rfl) ?_ | refine st_s rfl rfl rfl rfl (fun _ => rfl) rfl (fun _ => rfl) ?_ | refine c_seq ?_ | refine c_region ?_ | refine c_plain rfl ?_ | refine c_drawn rfl (by kernel_rfl) ?_ | refine st_nil ?_ | refine c_norm ?_ | refine c_cret ?_ | refine c_ret ?_ | refine c_true rfl ?_ | refine c_false rfl ?_ | refine c_skip ?_ | refine c_block ?_ | refine c_bnorm ?_ | refine c_bret ?_ | refine c_bexit rfl ?_ | refine c_bpass rfl ?_ | refine c_exit ?_ | refine c_cexit ?_ | refine c_lret ?_ | refine c_lexit ?_ | refine c_scope ?_ | refine c_label ?_ | refine c_snorm ?_ | refine c_sret ?_ | refine c_sexit ?_ | refine st_call rfl rfl rfl rfl rfl rfl rfl (call_v (vB false) rfl ⟨p, i, g, hf, hil, by omega, rfl, by rw [hb]⟩ rfl rfl rfl (cb_v rfl (fun _ => rfl) ?_)) | fail)
    exact c_lnorm [0] (i + 1) hil (by show p.f1.length - (i + 1) < p.f1.length - i; omega) rfl ⟨tk_eq ((St.wr64 (by omega) (by omega)).trans (by omega : (i : Int) + 1 = ((i + 1 : Nat) : Int))), rfl, tk_eq (Eq.symm (ht.trans (if_neg (by rw [hb]; decide)))), rfl, rfl, rfl, rfl, rfl, trivial⟩ ⟨⟨rfl, rfl, rfl⟩, trivial⟩ rfl
  | true =>
    rw [if_pos hb] at ht
    repeat' (first | refine st_w 28 rfl rfl rfl rfl rfl (fun _ => rfl) wt (fun _ => rfl) ?_ | refine st_v rfl rfl rfl rfl (fun _ => rfl) rfl (fun _ => rfl) ?_ | refine st_skip rfl rfl rfl ?_ | refine st_b rfl rfl rfl rfl (fun _ => rfl) rfl (fun h1 => ?_) (fun h1 => ?_) | refine st_n rfl rfl rfl rfl (fun _ => rfl) rfl (fun _ => rfl) ?_ | refine st_s rfl rfl rfl rfl (fun _ => rfl) rfl (fun _ => rfl) ?_ | refine c_seq ?_ | refine c_region ?_ | refine c_plain rfl ?_ | refine c_drawn rfl (by kernel_rfl) ?_ | refine st_nil ?_ | refine c_norm ?_ | refine c_cret ?_ | refine c_ret ?_ | refine c_true rfl ?_ | refine c_false rfl ?_ | refine c_skip ?_ | refine c_block ?_ | refine c_bnorm ?_ | refine c_bret ?_ | refine c_bexit rfl ?_ | refine c_bpass rfl ?_ | refine c_exit ?_ | refine c_cexit ?_ | refine c_lret ?_ | refine c_lexit ?_ | refine c_scope ?_ | refine c_label ?_ | refine c_snorm ?_ | refine c_sret ?_ | refine c_sexit ?_ | refine st_call rfl rfl rfl rfl rfl rfl rfl (call_v (vB true) rfl ⟨p, i, g, hf, hil, by omega, rfl, by rw [hb]⟩ rfl rfl rfl (cb_v rfl (fun _ => rfl) ?_)) | refine st_pv rfl rfl rfl rfl (fun _ => rfl) (show 0 ≤ (i : Int) ∧ (i : Int) < (p.f1.length : Int) by omega) rfl (fun _ => rfl) ?_ | fail)
    · have hq : ((p.f1.take i).foldl (rleastF g) 0 == 0) = true := by assumption
      exact c_lnorm [0] (i + 1) hil (by show p.f1.length - (i + 1) < p.f1.length - i; omega) rfl ⟨tk_eq ((St.wr64 (by omega) (by omega)).trans (by omega : (i : Int) + 1 = ((i + 1 : Nat) : Int))), rfl, tk_eq (Eq.symm (ht.trans (if_pos (by simpa using hq)))), rfl, rfl, rfl, rfl, rfl, trivial⟩ ⟨⟨rfl, rfl, rfl⟩, trivial⟩ rfl
    · have hq : ((p.f1.take i).foldl (rleastF g) 0 == 0) = false := by assumption
      have hq2 : decide ((p.f1.getD i z87).f1 < (p.f1.take i).foldl (rleastF g) 0) = true := by assumption
      exact c_lnorm [0] (i + 1) hil (by show p.f1.length - (i + 1) < p.f1.length - i; omega) rfl ⟨tk_eq ((St.wr64 (by omega) (by omega)).trans (by omega : (i : Int) + 1 = ((i + 1 : Nat) : Int))), rfl, tk_eq (Eq.symm (ht.trans ((if_neg (by simpa using hq)).trans (if_pos (of_decide_eq_true hq2))))), rfl, rfl, rfl, rfl, rfl, trivial⟩ ⟨⟨rfl, rfl, rfl⟩, trivial⟩ rfl
    · have hq : ((p.f1.take i).foldl (rleastF g) 0 == 0) = false := by assumption
      have hq2 : decide ((p.f1.getD i z87).f1 < (p.f1.take i).foldl (rleastF g) 0) = false := by assumption
      exact c_lnorm [0] (i + 1) hil (by show p.f1.length - (i + 1) < p.f1.length - i; omega) rfl ⟨tk_eq ((St.wr64 (by omega) (by omega)).trans (by omega : (i : Int) + 1 = ((i + 1 : Nat) : Int))), rfl, tk_eq (Eq.symm (ht.trans ((if_neg (by simpa using hq)).trans (if_neg (of_decide_eq_false hq2))))), rfl, rfl, rfl, rfl, rfl, trivial⟩ ⟨⟨rfl, rfl, rfl⟩, trivial⟩ rfl
/-! ### where a run begins; a group that conflicts -/
def SpBeg : Spec := .pure fun a r => ∃ rows, ∃ i g : Nat, i < rows.length ∧ rows.length ≤ 1000 ∧ (∀ k, k ≤ i → g < (rows.getD k []).length) ∧ a = [fRows rows, fI (i : Int), fI (g : Int)] ∧ r = fI (beg rows i g : Int)
theorem rbeg_ok : SpecOk Tryd.prog 113 SpBeg := by
  refine spec_of_code TZok ΓOk.nil mixed Tryd.func113 rfl ?_
  rintro args pre r post ⟨⟨rows, i, g, hi, hrl, hg, rfl, rfl⟩, rfl, rfl⟩
  refine ⟨rfl, ?_⟩
  repeat' (first | refine st_v rfl rfl rfl rfl (fun _ => rfl) rfl (fun _ => rfl) ?_ | refine st_skip rfl rfl rfl ?_ | refine st_b rfl rfl rfl rfl (fun _ => rfl) rfl (fun h1 => ?_) (fun h1 => ?_) | refine st_n rfl rfl rfl rfl (fun _ => rfl) rfl (fun _ => rfl) ?_ | refine st_s rfl rfl rfl rfl (fun _ => rfl) rfl (fun _ => rfl) ?_ | refine c_seq ?_ | refine c_region ?_ | refine c_plain rfl ?_ | refine c_drawn rfl (by kernel_rfl) ?_ | refine st_nil ?_ | refine c_norm ?_ | refine c_cret ?_ | refine c_ret ?_ | refine c_true rfl ?_ | refine c_false rfl ?_ | refine c_skip ?_ | refine c_block ?_ | refine c_bnorm ?_ | refine c_bret ?_ | refine c_bexit rfl ?_ | refine c_bpass rfl ?_ | refine c_exit ?_ | refine c_cexit ?_ | refine c_lret ?_ | refine c_lexit ?_ | refine c_scope ?_ | refine c_label ?_ | refine c_snorm ?_ | refine c_sret ?_ | refine c_sexit ?_ | fail)
  refine c_loop (fun j : Nat => j ≤ i ∧ beg rows j g = beg rows i g) (fun j => [(1, fI (j : Int)), (0, fRows rows), (2, fI (g : Int))]) (fun _ => []) (fun j => j) [] i ⟨Nat.le_refl i, rfl⟩ rfl ⟨rfl, rfl, rfl, rfl, rfl, rfl, trivial⟩ trivial rfl (fun j hj => ?_)
  obtain ⟨hj, hb⟩ := hj
  by_cases hj0 : j = 0
  · have wt : vB (decide ((j : Int) > 0)) = vB false := by rw [decide_eq_false (by omega)]
    repeat' (first | refine st_w 8 rfl rfl rfl rfl rfl (fun _ => rfl) wt (fun _ => rfl) ?_ | refine st_v rfl rfl rfl rfl (fun _ => rfl) rfl (fun _ => rfl) ?_ | refine st_skip rfl rfl rfl ?_ | refine st_b rfl rfl rfl rfl (fun _ => rfl) rfl (fun h1 => ?_) (fun h1 => ?_) | refine st_n rfl rfl rfl rfl (fun _ => rfl) rfl (fun _ => rfl) ?_ | refine st_s rfl rfl rfl rfl (fun _ => rfl) rfl (fun _ => rfl) ?_ | refine c_seq ?_ | refine c_region ?_ | refine c_plain rfl ?_ | refine c_drawn rfl (by kernel_rfl) ?_ | refine st_nil ?_ | refine c_norm ?_ | refine c_cret ?_ | refine c_ret ?_ | refine c_true rfl ?_ | refine c_false rfl ?_ | refine c_skip ?_ | refine c_block ?_ | refine c_bnorm ?_ | refine c_bret ?_ | refine c_bexit rfl ?_ | refine c_bpass rfl ?_ | refine c_exit ?_ | refine c_cexit ?_ | refine c_lret ?_ | refine c_lexit ?_ | refine c_scope ?_ | refine c_label ?_ | refine c_snorm ?_ | refine c_sret ?_ | refine c_sexit ?_ | fail)
    exact ⟨tk_eq (by rw [← hb, hj0]; rfl), rfl, rfl, trivial⟩
  have wt : vB (decide ((j : Int) > 0)) = vB true := by rw [decide_eq_true (by omega)]
  have w1 : vI .i64 (IntKind.i64.wrap ((j : Int) - 1)) = fI ((j - 1 : Nat) : Int) := vI_eq ((St.wr64 (by omega) (by omega)).trans (by omega))
  have g0 := hg j hj
  have g1 := hg (j - 1) (by omega)
  repeat' (first | refine st_w 8 rfl rfl rfl rfl rfl (fun _ => rfl) wt (fun _ => rfl) ?_ | refine st_w 12 rfl rfl rfl rfl rfl (fun _ => rfl) w1 (fun _ => rfl) ?_ | refine st_w 28 rfl rfl rfl rfl rfl (fun _ => rfl) w1 (fun _ => rfl) ?_ | refine st_v rfl rfl rfl rfl (fun _ => rfl) rfl (fun _ => rfl) ?_ | refine st_skip rfl rfl rfl ?_ | refine st_b rfl rfl rfl rfl (fun _ => rfl) rfl (fun h1 => ?_) (fun h1 => ?_) | refine st_n rfl rfl rfl rfl (fun _ => rfl) rfl (fun _ => rfl) ?_ | refine st_s rfl rfl rfl rfl (fun _ => rfl) rfl (fun _ => rfl) ?_ | refine c_seq ?_ | refine c_region ?_ | refine c_plain rfl ?_ | refine c_drawn rfl (by kernel_rfl) ?_ | refine st_nil ?_ | refine c_norm ?_ | refine c_cret ?_ | refine c_ret ?_ | refine c_true rfl ?_ | refine c_false rfl ?_ | refine c_skip ?_ | refine c_block ?_ | refine c_bnorm ?_ | refine c_bret ?_ | refine c_bexit rfl ?_ | refine c_bpass rfl ?_ | refine c_exit ?_ | refine c_cexit ?_ | refine c_lret ?_ | refine c_lexit ?_ | refine c_scope ?_ | refine c_label ?_ | refine c_snorm ?_ | refine c_sret ?_ | refine c_sexit ?_ | refine st_pv rfl rfl rfl rfl (fun _ => rfl) (show 0 ≤ ((j - 1 : Nat) : Int) ∧ ((j - 1 : Nat) : Int) < (rows.length : Int) by omega) rfl (fun _ => rfl) ?_ | refine st_pv rfl rfl rfl rfl (fun _ => rfl) (show 0 ≤ (j : Int) ∧ (j : Int) < (rows.length : Int) by omega) rfl (fun _ => rfl) ?_ | refine st_pv rfl rfl rfl rfl (fun _ => rfl) (show 0 ≤ (g : Int) ∧ (g : Int) < ((rows.getD (j - 1) []).length : Int) by omega) rfl (fun _ => rfl) ?_ | refine st_pv rfl rfl rfl rfl (fun _ => rfl) (show 0 ≤ (g : Int) ∧ (g : Int) < ((rows.getD j []).length : Int) by omega) rfl (fun _ => rfl) ?_ | fail)
  · have he : (cell rows (j - 1) g == cell rows j g) = true := by assumption
    exact c_lnorm [] (j - 1) ⟨by omega, by rw [← hb, beg_one (i := j) (by omega), if_pos (by simpa using he)]⟩ (by show j - 1 < j; omega) rfl ⟨rfl, rfl, rfl, rfl, rfl, rfl, trivial⟩ trivial rfl
  · have he : (cell rows (j - 1) g == cell rows j g) = false := by assumption
    exact ⟨tk_eq (by rw [← hb, beg_one (i := j) (by omega), if_neg (by simpa using he)]), rfl, rfl, trivial⟩
def SpSoon : Spec := .pure fun a r => ∃ p rows, ∃ i g : Nat, fitP p = true ∧ i < rows.length ∧ rows.length ≤ 1000 ∧ g < p.f0.length ∧ (∀ k, k ≤ i → (rows.getD k []).length = p.f0.length) ∧ a = [fPl p, fRows rows, fI (i : Int), fI (g : Int)] ∧ r = vB (soonB p rows i g)
theorem Γso : ΓOk Tryd.prog (look [(111, SpRin)]) := ΓOk.nil.cons rin_ok Tryd.func111 (by kernel_rfl)
theorem rsoon_ok : SpecOk Tryd.prog 115 SpSoon := by
  refine spec_of_code TZok Γso mixed Tryd.func115 rfl ?_
  rintro args pre r post ⟨⟨p, rows, i, g, hf, hi, hrl, hg, hlen, rfl, rfl⟩, rfl, rfl⟩
  refine ⟨rfl, ?_⟩
  have hFit := PX.fits_of hf
  have h8 := hFit.may.len8
  have hp8 := hFit.may.p8
  have hred := hFit.red
  have hrg := hFit.may.rng g hg
  have w1 : vI .i64 (IntKind.i64.wrap ((i : Int) - p.f3)) = fI ((i : Int) - p.f3) := vI_eq (St.wr64 (by omega) (by omega))
  repeat' (first | refine st_w 15 rfl rfl rfl rfl rfl (fun _ => rfl) w1 (fun _ => rfl) ?_ | refine st_v rfl rfl rfl rfl (fun _ => rfl) rfl (fun _ => rfl) ?_ | refine st_skip rfl rfl rfl ?_ | refine st_b rfl rfl rfl rfl (fun _ => rfl) rfl (fun h1 => ?_) (fun h1 => ?_) | refine st_n rfl rfl rfl rfl (fun _ => rfl) rfl (fun _ => rfl) ?_ | refine st_s rfl rfl rfl rfl (fun _ => rfl) rfl (fun _ => rfl) ?_ | refine c_seq ?_ | refine c_region ?_ | refine c_plain rfl ?_ | refine c_drawn rfl (by kernel_rfl) ?_ | refine st_nil ?_ | refine c_norm ?_ | refine c_cret ?_ | refine c_ret ?_ | refine c_true rfl ?_ | refine c_false rfl ?_ | refine c_skip ?_ | refine c_block ?_ | refine c_bnorm ?_ | refine c_bret ?_ | refine c_bexit rfl ?_ | refine c_bpass rfl ?_ | refine c_exit ?_ | refine c_cexit ?_ | refine c_lret ?_ | refine c_lexit ?_ | refine c_scope ?_ | refine c_label ?_ | refine c_snorm ?_ | refine c_sret ?_ | refine c_sexit ?_ | fail)
  refine c_loop (fun k : Int => (i : Int) - p.f3 ≤ k ∧ k ≤ (i : Int) ∧ ∀ a b : Nat, (a : Int) < k → (i : Int) ≤ (a : Int) + p.f3 → b < p.f0.length → (PM.row p.f0 g).testBit b = true → cell rows a b = 0) (fun k => [(9, fI k), (1, fRows rows), (2, fI (i : Int)), (3, fI (g : Int)), (4, pt 0)]) (fun _ => [(0, some (.var 25 (plCells p)))]) (fun k => ((i : Int) - k).toNat) [0] ((i : Int) - p.f3) ⟨Int.le_refl _, by omega, fun a b h1 h2 => by omega⟩ rfl ⟨rfl, rfl, rfl, rfl, rfl, rfl, rfl, rfl, rfl, rfl, trivial⟩ ⟨⟨rfl, rfl, rfl⟩, trivial⟩ rfl (fun k hk => ?_)
  obtain ⟨hk0, hk1, hno⟩ := hk
  by_cases hki : k < (i : Int)
  case neg =>
    have wt : vB (decide (k < (i : Int))) = vB false := by rw [decide_eq_false hki]
    repeat' (first | refine st_w 18 rfl rfl rfl rfl rfl (fun _ => rfl) wt (fun _ => rfl) ?_ | refine st_v rfl rfl rfl rfl (fun _ => rfl) rfl (fun _ => rfl) ?_ | refine st_skip rfl rfl rfl ?_ | refine st_b rfl rfl rfl rfl (fun _ => rfl) rfl (fun h1 => ?_) (fun h1 => ?_) | refine st_n rfl rfl rfl rfl (fun _ => rfl) rfl (fun _ => rfl) ?_ | refine st_s rfl rfl rfl rfl (fun _ => rfl) rfl (fun _ => rfl) ?_ | refine c_seq ?_ | refine c_region ?_ | refine c_plain rfl ?_ | refine c_drawn rfl (by kernel_rfl) ?_ | refine st_nil ?_ | refine c_norm ?_ | refine c_cret ?_ | refine c_ret ?_ | refine c_true rfl ?_ | refine c_false rfl ?_ | refine c_skip ?_ | refine c_block ?_ | refine c_bnorm ?_ | refine c_bret ?_ | refine c_bexit rfl ?_ | refine c_bpass rfl ?_ | refine c_exit ?_ | refine c_cexit ?_ | refine c_lret ?_ | refine c_lexit ?_ | refine c_scope ?_ | refine c_label ?_ | refine c_snorm ?_ | refine c_sret ?_ | refine c_sexit ?_ | fail)
    exact ⟨ret_b (PX.soon_no fun a b h1 h2 h3 h4 => hno a b (by omega) h2 h3 h4).symm, rfl, rfl, trivial⟩
  have wt : vB (decide (k < (i : Int))) = vB true := by rw [decide_eq_true hki]
  have wk : vI .i64 (IntKind.i64.wrap (k + 1)) = fI (k + 1) := vI_eq (St.wr64 (by omega) (by omega))
  repeat' (first | refine st_w 18 rfl rfl rfl rfl rfl (fun _ => rfl) wt (fun _ => rfl) ?_ | refine st_v rfl rfl rfl rfl (fun _ => rfl) rfl (fun _ => rfl) ?_ | refine st_skip rfl rfl rfl ?_ | refine st_b rfl rfl rfl rfl (fun _ => rfl) rfl (fun h1 => ?_) (fun h1 => ?_) | refine st_n rfl rfl rfl rfl (fun _ => rfl) rfl (fun _ => rfl) ?_ | refine st_s rfl rfl rfl rfl (fun _ => rfl) rfl (fun _ => rfl) ?_ | refine c_seq ?_ | refine c_region ?_ | refine c_plain rfl ?_ | refine c_drawn rfl (by kernel_rfl) ?_ | refine st_nil ?_ | refine c_norm ?_ | refine c_cret ?_ | refine c_ret ?_ | refine c_true rfl ?_ | refine c_false rfl ?_ | refine c_skip ?_ | refine c_block ?_ | refine c_bnorm ?_ | refine c_bret ?_ | refine c_bexit rfl ?_ | refine c_bpass rfl ?_ | refine c_exit ?_ | refine c_cexit ?_ | refine c_lret ?_ | refine c_lexit ?_ | refine c_scope ?_ | refine c_label ?_ | refine c_snorm ?_ | refine c_sret ?_ | refine c_sexit ?_ | fail)
  by_cases hk : 0 ≤ k
  case neg =>
    have wz : vB (decide (k ≥ 0)) = vB false := by rw [decide_eq_false hk]
    refine c_loop (fun _ : Unit => True) (fun _ => [(10, fI 0), (9, fI k), (1, fRows rows), (2, fI (i : Int)), (3, fI (g : Int)), (4, pt 0)]) (fun _ => [(0, some (.var 25 (plCells p)))]) (fun _ => 0) [0] () trivial rfl ⟨rfl, rfl, rfl, rfl, rfl, rfl, rfl, rfl, rfl, rfl, rfl, rfl, trivial⟩ ⟨⟨rfl, rfl, rfl⟩, trivial⟩ rfl (fun _ _ => ?_)
    repeat' (first | refine st_w 28 rfl rfl rfl rfl rfl (fun _ => rfl) wz (fun _ => rfl) ?_ | refine st_w 20 rfl rfl rfl rfl rfl (fun _ => rfl) wk (fun _ => rfl) ?_ | refine st_v rfl rfl rfl rfl (fun _ => rfl) rfl (fun _ => rfl) ?_ | refine st_skip rfl rfl rfl ?_ | refine st_b rfl rfl rfl rfl (fun _ => rfl) rfl (fun h1 => ?_) (fun h1 => ?_) | refine st_n rfl rfl rfl rfl (fun _ => rfl) rfl (fun _ => rfl) ?_ | refine st_s rfl rfl rfl rfl (fun _ => rfl) rfl (fun _ => rfl) ?_ | refine c_seq ?_ | refine c_region ?_ | refine c_plain rfl ?_ | refine c_drawn rfl (by kernel_rfl) ?_ | refine st_nil ?_ | refine c_norm ?_ | refine c_cret ?_ | refine c_ret ?_ | refine c_true rfl ?_ | refine c_false rfl ?_ | refine c_skip ?_ | refine c_block ?_ | refine c_bnorm ?_ | refine c_bret ?_ | refine c_bexit rfl ?_ | refine c_bpass rfl ?_ | refine c_exit ?_ | refine c_cexit ?_ | refine c_lret ?_ | refine c_lexit ?_ | refine c_scope ?_ | refine c_label ?_ | refine c_snorm ?_ | refine c_sret ?_ | refine c_sexit ?_ | fail)
    all_goals exact c_lnorm [0] (k + 1) ⟨by omega, by omega, fun a b h1 h2 => by omega⟩ (by show ((i : Int) - (k + 1)).toNat < ((i : Int) - k).toNat; omega) rfl ⟨rfl, rfl, rfl, rfl, rfl, rfl, rfl, rfl, rfl, rfl, trivial⟩ ⟨⟨rfl, rfl, rfl⟩, trivial⟩ rfl
  obtain ⟨k, rfl⟩ := Int.eq_ofNat_of_zero_le hk
  have wz : vB (decide ((k : Int) ≥ 0)) = vB true := by rw [decide_eq_true hk]
  have hlk := hlen k (by omega)
  refine c_loop (fun h : Nat => h ≤ p.f0.length ∧ ∀ b : Nat, b < h → (PM.row p.f0 g).testBit b = true → cell rows k b = 0) (fun h => [(10, fI (h : Int)), (9, fI (k : Int)), (1, fRows rows), (2, fI (i : Int)), (3, fI (g : Int)), (4, pt 0)]) (fun _ => [(0, some (.var 25 (plCells p)))]) (fun h => p.f0.length - h) [0] 0 ⟨Nat.zero_le _, fun b h1 => by omega⟩ rfl ⟨rfl, rfl, rfl, rfl, rfl, rfl, rfl, rfl, rfl, rfl, rfl, rfl, trivial⟩ ⟨⟨rfl, rfl, rfl⟩, trivial⟩ rfl (fun h hh => ?_)
  obtain ⟨hh0, hnb⟩ := hh
  by_cases hhl : h < p.f0.length
  case neg =>
    have wt2 : vB (decide ((h : Int) < (p.f0.length : Int))) = vB false := by rw [decide_eq_false (by omega)]
    repeat' (first | refine st_w 25 rfl rfl rfl rfl rfl (fun _ => rfl) wt2 (fun _ => rfl) ?_ | refine st_w 20 rfl rfl rfl rfl rfl (fun _ => rfl) wk (fun _ => rfl) ?_ | refine st_v rfl rfl rfl rfl (fun _ => rfl) rfl (fun _ => rfl) ?_ | refine st_skip rfl rfl rfl ?_ | refine st_b rfl rfl rfl rfl (fun _ => rfl) rfl (fun h1 => ?_) (fun h1 => ?_) | refine st_n rfl rfl rfl rfl (fun _ => rfl) rfl (fun _ => rfl) ?_ | refine st_s rfl rfl rfl rfl (fun _ => rfl) rfl (fun _ => rfl) ?_ | refine c_seq ?_ | refine c_region ?_ | refine c_plain rfl ?_ | refine c_drawn rfl (by kernel_rfl) ?_ | refine st_nil ?_ | refine c_norm ?_ | refine c_cret ?_ | refine c_ret ?_ | refine c_true rfl ?_ | refine c_false rfl ?_ | refine c_skip ?_ | refine c_block ?_ | refine c_bnorm ?_ | refine c_bret ?_ | refine c_bexit rfl ?_ | refine c_bpass rfl ?_ | refine c_exit ?_ | refine c_cexit ?_ | refine c_lret ?_ | refine c_lexit ?_ | refine c_scope ?_ | refine c_label ?_ | refine c_snorm ?_ | refine c_sret ?_ | refine c_sexit ?_ | fail)
    exact c_lnorm [0] ((k : Int) + 1) ⟨by omega, by omega, fun a b ha h1 h2 h3 => if e : a = k then by rw [e]; exact hnb b (by omega) h3 else hno a b (by omega) h1 h2 h3⟩ (by show ((i : Int) - ((k : Int) + 1)).toNat < ((i : Int) - (k : Int)).toNat; omega) rfl ⟨rfl, rfl, rfl, rfl, rfl, rfl, rfl, rfl, rfl, rfl, trivial⟩ ⟨⟨rfl, rfl, rfl⟩, trivial⟩ rfl
  have wt2 : vB (decide ((h : Int) < (p.f0.length : Int))) = vB true := by rw [decide_eq_true (by omega)]
  cases hbit : (PM.row p.f0 g).testBit h with
  | false =>
    repeat' (first | refine st_w 25 rfl rfl rfl rfl rfl (fun _ => rfl) wt2 (fun _ => rfl) ?_ | refine st_w 28 rfl rfl rfl rfl rfl (fun _ => rfl) wz (fun _ => rfl) ?_ | refine st_v rfl rfl rfl rfl (fun _ => rfl) rfl (fun _ => rfl) ?_ | refine st_skip rfl rfl rfl ?_ | refine st_b rfl rfl rfl rfl (fun _ => rfl) rfl (fun h1 => ?_) (fun h1 => ?_) | refine st_n rfl rfl rfl rfl (fun _ => rfl) rfl (fun _ => rfl) ?_ | refine st_s rfl rfl rfl rfl (fun _ => rfl) rfl (fun _ => rfl) ?_ | refine c_seq ?_ | refine c_region ?_ | refine c_plain rfl ?_ | refine c_drawn rfl (by kernel_rfl) ?_ | refine st_nil ?_ | refine c_norm ?_ | refine c_cret ?_ | refine c_ret ?_ | refine c_true rfl ?_ | refine c_false rfl ?_ | refine c_skip ?_ | refine c_block ?_ | refine c_bnorm ?_ | refine c_bret ?_ | refine c_bexit rfl ?_ | refine c_bpass rfl ?_ | refine c_exit ?_ | refine c_cexit ?_ | refine c_lret ?_ | refine c_lexit ?_ | refine c_scope ?_ | refine c_label ?_ | refine c_snorm ?_ | refine c_sret ?_ | refine c_sexit ?_ | refine st_call rfl rfl rfl rfl rfl rfl rfl (call_v (vB false) rfl ⟨p.f0.getD g 0, h, ⟨hrg.1, by omega⟩, by omega, rfl, congrArg vB hbit.symm⟩ rfl rfl rfl (cb_v rfl (fun _ => rfl) ?_)) | refine st_pv rfl rfl rfl rfl (fun _ => rfl) (show 0 ≤ (g : Int) ∧ (g : Int) < (p.f0.length : Int) by omega) rfl (fun _ => rfl) ?_ | refine st_pv rfl rfl rfl rfl (fun _ => rfl) (show 0 ≤ (k : Int) ∧ (k : Int) < (rows.length : Int) by omega) rfl (fun _ => rfl) ?_ | refine st_pv rfl rfl rfl rfl (fun _ => rfl) (show 0 ≤ (h : Int) ∧ (h : Int) < ((rows.getD k []).length : Int) by omega) rfl (fun _ => rfl) ?_ | fail)
    exact c_lnorm [0] (h + 1) ⟨hhl, fun b hb hbt => if e : b = h then by rw [e, hbit] at hbt; cases hbt else hnb b (by omega) hbt⟩ (by show p.f0.length - (h + 1) < p.f0.length - h; omega) rfl ⟨tk_eq ((St.wr64 (by omega) (by omega)).trans (by omega : (h : Int) + 1 = ((h + 1 : Nat) : Int))), rfl, rfl, rfl, rfl, rfl, rfl, rfl, rfl, rfl, rfl, rfl, trivial⟩ ⟨⟨rfl, rfl, rfl⟩, trivial⟩ rfl
  | true =>
    repeat' (first | refine st_w 25 rfl rfl rfl rfl rfl (fun _ => rfl) wt2 (fun _ => rfl) ?_ | refine st_w 28 rfl rfl rfl rfl rfl (fun _ => rfl) wz (fun _ => rfl) ?_ | refine st_v rfl rfl rfl rfl (fun _ => rfl) rfl (fun _ => rfl) ?_ | refine st_skip rfl rfl rfl ?_ | refine st_b rfl rfl rfl rfl (fun _ => rfl) rfl (fun h1 => ?_) (fun h1 => ?_) | refine st_n rfl rfl rfl rfl (fun _ => rfl) rfl (fun _ => rfl) ?_ | refine st_s rfl rfl rfl rfl (fun _ => rfl) rfl (fun _ => rfl) ?_ | refine c_seq ?_ | refine c_region ?_ | refine c_plain rfl ?_ | refine c_drawn rfl (by kernel_rfl) ?_ | refine st_nil ?_ | refine c_norm ?_ | refine c_cret ?_ | refine c_ret ?_ | refine c_true rfl ?_ | refine c_false rfl ?_ | refine c_skip ?_ | refine c_block ?_ | refine c_bnorm ?_ | refine c_bret ?_ | refine c_bexit rfl ?_ | refine c_bpass rfl ?_ | refine c_exit ?_ | refine c_cexit ?_ | refine c_lret ?_ | refine c_lexit ?_ | refine c_scope ?_ | refine c_label ?_ | refine c_snorm ?_ | refine c_sret ?_ | refine c_sexit ?_ | refine st_call rfl rfl rfl rfl rfl rfl rfl (call_v (vB true) rfl ⟨p.f0.getD g 0, h, ⟨hrg.1, by omega⟩, by omega, rfl, congrArg vB hbit.symm⟩ rfl rfl rfl (cb_v rfl (fun _ => rfl) ?_)) | refine st_pv rfl rfl rfl rfl (fun _ => rfl) (show 0 ≤ (g : Int) ∧ (g : Int) < (p.f0.length : Int) by omega) rfl (fun _ => rfl) ?_ | refine st_pv rfl rfl rfl rfl (fun _ => rfl) (show 0 ≤ (k : Int) ∧ (k : Int) < (rows.length : Int) by omega) rfl (fun _ => rfl) ?_ | refine st_pv rfl rfl rfl rfl (fun _ => rfl) (show 0 ≤ (h : Int) ∧ (h : Int) < ((rows.getD k []).length : Int) by omega) rfl (fun _ => rfl) ?_ | fail)
    · have hx : (cell rows k h != 0) = true := by assumption
      exact ⟨ret_b (PX.soon_iff.2 ⟨k, h, by omega, by omega, hhl, hbit, by simpa using hx⟩).symm, rfl, rfl, trivial⟩
    · have hx : (cell rows k h != 0) = false := by assumption
      exact c_lnorm [0] (h + 1) ⟨hhl, fun b hb hbt => if e : b = h then by rw [e]; simpa using hx else hnb b (by omega) hbt⟩ (by show p.f0.length - (h + 1) < p.f0.length - h; omega) rfl ⟨tk_eq ((St.wr64 (by omega) (by omega)).trans (by omega : (h : Int) + 1 = ((h + 1 : Nat) : Int))), rfl, rfl, rfl, rfl, rfl, rfl, rfl, rfl, rfl, rfl, rfl, trivial⟩ ⟨⟨rfl, rfl, rfl⟩, trivial⟩ rfl
end Tr
end Go.Proofs.YtpciieagafddcaaDoor.E
