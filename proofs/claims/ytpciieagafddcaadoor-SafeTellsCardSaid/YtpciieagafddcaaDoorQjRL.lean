/- The document's answers for layer 15, by definition, are what the program's functions compute (own text). -/
import Derived.Test.YtpciieagafddcaaDoorQjRF
import Derived.Test.YtpciieagafddcaaDoorQjPQ
import Derived.Test.YtpciieagafddcaaDoorQjER
import Derived.Test.YtpciieagafddcaaDoorQjE17
import Derived.Test.YtpciieagafddcaaDoorQjELM
import Derived.Test.YtpciieagafddcaaDoorQjF47
namespace Go.Proofs.YtpciieagafddcaaDoor.RL
open Go.RowKit Go.Proofs.YtpciieagafddcaaDoorW.PrintWords Go.Proofs.YtpciieagafddcaaDoorW.PrintLast Go.Proofs.YtpciieagafddcaaDoorW.PrintMore Go.Proofs.YtpciieagafddcaaDoor.F Go.Proofs.YtpciieagafddcaaDoor.PG Go.Proofs.YtpciieagafddcaaDoor.PM Go.Proofs.YtpciieagafddcaaDoor.PP Go.Proofs.YtpciieagafddcaaDoor.PQ Go.Proofs.YtpciieagafddcaaDoor.PL Go.Proofs.YtpciieagafddcaaDoor.RF
theorem rshow_loop (m : List Int) {ss : List S87} (am red hold : Int) (h8 : m.length ≤ 8) {a : Nat} (ha : a < ss.length) {G : Nat} (hG : ss[a].f0 = (G : Int)) (hG' : G < 256) {ph : Int} (hp : 0 ≤ ph ∧ ph < 3) : ∀ d k : Nat, k + d = m.length →
    Ev (fun n => pelicanref15_Show.l0 n (a : Int) ph (lamp_showL.f k (G : Int) (lamp_on.f ph)) (k : Int) m ss am red hold) (lamp_showL.f m.length (G : Int) (lamp_on.f ph)) := by
  intro d
  induction d with
  | zero =>
    intro k hk
    obtain rfl : k = m.length := by omega
    refine Ev.step (f := fun _ => some (lamp_showL.f m.length (G : Int) (lamp_on.f ph))) (fun n => ?_) (Ev.now _)
    simp only [pelicanref15_Show.l0]
    rw [if_neg (by omega)]
  | succ d ih =>
    intro k hk
    have hlt : k < m.length := by omega
    have e1 : ((k : Int) + 1) = ((k + 1 : Nat) : Int) := by omega
    have hw : wrap64 ((k : Int) + 1) = ((k + 1 : Nat) : Int) := by rw [wr (by omega) (by omega), e1]
    have hsn : lamp_showL.f (k + 1) (G : Int) (lamp_on.f ph) = lamp_showL.f k (G : Int) (lamp_on.f ph) ++ [if G.testBit k then lamp_on.f ph else 0] := by
      unfold lamp_showL.f
      rw [List.range_succ, List.map_append]
      rfl
    have ihk := ih (k + 1) (by omega)
    rw [hsn] at ihk
    have hhas := has_ev m ss am red hold ha (g := k) (by rw [hG]; omega) (by omega)
    rw [hG, Int.toNat_natCast] at hhas
    have p3 : (lamp_showL.f k (G : Int) (lamp_on.f ph)).length < 17592186044416 := by rw [show_len]; omega
    refine Ev.step (fun n => by simp only [pelicanref15_Show.l0]; rw [if_pos (show (k : Int) < (m.length : Int) by omega)]) (Ev.bind hhas ?_)
    have hph : ph = 0 ∨ ph = 1 ∨ ph = 2 := by omega
    cases hb : G.testBit k with
    | true =>
      rw [hb] at ihk
      simp only [if_true] at ihk ⊢
      refine Ev.step (fun n => ?_) ihk
      simp only [pelicanref15_Show.j2, p3, if_true, hw]
      rcases hph with rfl | rfl | rfl <;> simp [lamp_on.f]
    | false =>
      rw [hb] at ihk
      simp only [Bool.false_eq_true, if_false] at ihk ⊢
      refine Ev.step (fun n => ?_) ihk
      simp only [pelicanref15_Show.j2, p3, if_true, Bool.false_eq_true, if_false, hw]
theorem show15_ev (m : List Int) (ss : List S87) (am red hold a ph : Int) : ∃ v, Ev (fun n => pelicanref15_Show.f n m ss am red hold a ph) v ∧ lamp_Show.f m ss am red hold a ph = some v := by
  have hno : Ev (fun n => pelicanref15_Show.j0 n a ph true m ss am red hold) [] := Ev.step (f := fun _ => some []) (fun n => by simp only [pelicanref15_Show.j0, if_true]) (Ev.now _)
  cases hf : plan_fitB.f m ss am red hold with
  | false =>
    refine ⟨[], Ev.congr (fun n => rfl) (Ev.bind (rfit_ev m ss am red hold) ?_), show_none (fun hh => by rw [hf] at hh; cases hh.1)⟩
    rw [hf]
    simp only [Bool.false_eq_true, if_false]
    exact hno
  | true =>
    have h := (fits_iff _ _ _ _ _).1 hf
    by_cases hin : 0 ≤ a ∧ a < (ss.length : Int) ∧ 0 ≤ ph ∧ ph < 3
    · obtain ⟨h1, h2, h3, h4⟩ := hin
      refine ⟨_, ?_, show_eq h ⟨h1, h2⟩ ⟨h3, h4⟩⟩
      obtain ⟨k, rfl⟩ := Int.eq_ofNat_of_zero_le h1
      have hk : k < ss.length := by omega
      obtain ⟨G, hG, hlt, _⟩ := stage_set h hk
      have hp8 := h.may.p8
      rw [hG]
      rw [rd_stage ss hk] at hG
      refine Ev.congr (fun n => rfl) (Ev.bind (rfit_ev m ss am red hold) ?_)
      rw [hf]
      have c1 : ¬ (k : Int) < 0 := by omega
      have c2 : ¬ (k : Int) ≥ (ss.length : Int) := by omega
      have c3 : ¬ ph < 0 := by omega
      have c4 : ¬ ph ≥ 3 := by omega
      simp only [if_true, c1, c2, c3, c4, if_false, decide_false]
      refine Ev.step (fun n => ?_) (rshow_loop m am red hold h.may.len8 hk hG (by omega) ⟨h3, h4⟩ m.length 0 (Nat.zero_add _))
      simp only [pelicanref15_Show.j0, Bool.false_eq_true, if_false]
      rfl
    · refine ⟨[], Ev.congr (fun n => rfl) (Ev.bind (rfit_ev m ss am red hold) ?_), show_none (fun hh => hin hh.2)⟩
      rw [hf]
      simp only [if_true]
      by_cases c1 : a < 0
      · simp only [c1, if_true]; exact hno
      · by_cases c2 : a ≥ (ss.length : Int)
        · simp only [c1, c2, if_true, if_false]; exact hno
        · by_cases c3 : ph < 0
          · simp only [c1, c2, c3, if_true, if_false]; exact hno
          · have c4 : ph ≥ 3 := by omega
            simp only [c1, c2, c3, c4, if_false, decide_true]; exact hno
end Go.Proofs.YtpciieagafddcaaDoor.RL
/- The document's lamps and runs, walked by the engine (own text). -/
namespace Go.Proofs.YtpciieagafddcaaDoor.E
open Go Go.RowKit Go.Proofs Go.Proofs.YtpciieagafddcaaDoorW.PrintWords Go.Proofs.YtpciieagafddcaaDoorW.PrintLast Go.Proofs.YtpciieagafddcaaDoorW.PrintMore Go.Proofs.YtpciieagafddcaaDoor.F
set_option linter.unusedVariables false
set_option linter.unusedSimpArgs false
set_option maxRecDepth 100000
set_option maxHeartbeats 8000000
attribute [local irreducible] acode callR
namespace Ref
def fInts (v : List Int) : FV := .t (.one (cInts v))
theorem weak_nil {c : Cx} {y : Value} (h : FV.R c (.t (.one (.v (.slice none 0 0)))) y) : (fInts []).R c y := by
  have hy : y = .slice none 0 0 := h.1
  subst hy
  exact ⟨⟨none, 0, rfl, Nat.le_refl 0, Nat.zero_le _, fun i j hi _ => absurd hi (Nat.not_lt_zero i)⟩, rfl⟩
def SpShow : Spec := .pure fun a r => ∃ (p : S25) (x ph : Int) (v : List Int), a = [fPl p, fI x, fI ph] ∧ r = fInts v ∧ lamp_Show.f p.f0 p.f1 p.f2 p.f3 p.f4 x ph = some v
theorem show_ok : SpecOk Tryd.prog 103 SpShow := by
  rintro args pre r post ⟨⟨p, x, ph, v, rfl, rfl, hv⟩, rfl, rfl⟩ c ys hgl hy hI hZ hpre hdj
  match ys, hy with
  | [y, z, u], ⟨hy, hz, hu, _⟩ =>
    obtain ⟨v', hev, hv'⟩ := RL.show15_ev p.f0 p.f1 p.f2 p.f3 p.f4 x ph
    obtain rfl : v' = v := Option.some.inj (hv'.symm.trans hv)
    obtain ⟨n, hn⟩ := hev.rounds
    obtain ⟨A0, c0, A1, c1, rfl, h0, h1, h2, h3⟩ := pl_val hy
    have hz : z = .int .i64 x := hz.1
    have hu : u = .int .i64 ph := hu.1
    subst hz hu
    exact (pelicanref15_Show.calls n A0 c0 p.f0 A1 c1 p.f1 p.f2 p.f3 p.f4 x ph v' c.w h1 h0 h3 h2 hn).mono fun e w' ⟨v0, he, hR, hb⟩ => by
      subst he
      exact ends_of hI hb (R_ints (I := (cxN c w').I) hR (fun k h1 h2 => .inr ⟨h1, h2⟩))
def SpLamps : Spec := .pure fun a r => ∃ l s, PU.Wf s ∧ a = [fPls l, fSg s] ∧ r = fInts (PU.lampsB l s)
theorem Γ4 : ΓOk Tryd.prog (look [(68, SpMay), (103, SpShow)]) :=
  (ΓOk.nil.cons show_ok Tryd.func103 (by kernel_rfl)).cons may_ok Tryd.func68 (by kernel_rfl)
theorem lamps_ok : SpecOk Tryd.prog 72 SpLamps := by
  refine spec_of_codeW TYok Γ4 mixed Tryd.func72 rfl ?_
  rintro args pre r post ⟨⟨l, s, hw, rfl, rfl⟩, rfl, rfl⟩
  refine ⟨rfl, ?_⟩
  cases hm : stage_mayB.f l s with
  | false =>
    repeat' (first | refine st_v rfl rfl rfl rfl (fun _ => rfl) rfl (fun _ => rfl) ?_ | refine st_skip rfl rfl rfl ?_ | refine st_b rfl rfl rfl rfl (fun _ => rfl) rfl (fun h1 => ?_) (fun h1 => ?_) | refine st_n rfl rfl rfl rfl (fun _ => rfl) rfl (fun _ => rfl) ?_ | refine st_s rfl rfl rfl rfl (fun _ => rfl) rfl (fun _ => rfl) ?_ | refine c_seq ?_ | refine c_region ?_ | refine c_plain rfl ?_ | refine c_drawn rfl (by kernel_rfl) ?_ | refine st_nil ?_ | refine c_norm ?_ | refine c_cret ?_ | refine c_ret ?_ | refine c_true rfl ?_ | refine c_false rfl ?_ | refine c_skip ?_ | refine c_block ?_ | refine c_bnorm ?_ | refine c_bret ?_ | refine c_bexit rfl ?_ | refine c_bpass rfl ?_ | refine c_exit ?_ | refine c_cexit ?_ | refine c_lret ?_ | refine c_lexit ?_ | refine c_scope ?_ | refine c_label ?_ | refine c_snorm ?_ | refine c_sret ?_ | refine c_sexit ?_ | refine st_call rfl rfl rfl rfl rfl rfl rfl (call_v (vB false) rfl ⟨l, s, hw, rfl, by rw [hm]⟩ rfl rfl rfl (cb_v rfl (fun _ => rfl) ?_)) | fail)
    all_goals exact ⟨_, fun c y h => by
      rw [show PU.lampsB l s = [] by unfold PU.lampsB; rw [if_neg (by rw [hm]; decide)]]
      exact weak_nil h, rfl, rfl, rfl, trivial⟩
  | true =>
    have hM := PU.may_of hw hm
    have hpl := hM.plan
    have hv : lamp_Show.f (PlOf l s).f0 (PlOf l s).f1 (PlOf l s).f2 (PlOf l s).f3 (PlOf l s).f4 s.stage s.phase = some (PU.lampsB l s) := by
      unfold PU.lampsB
      rw [if_pos hm]
      exact PL.show_eq hM.fits hM.stage hM.phase
    repeat' (first | refine st_v rfl rfl rfl rfl (fun _ => rfl) rfl (fun _ => rfl) ?_ | refine st_skip rfl rfl rfl ?_ | refine st_b rfl rfl rfl rfl (fun _ => rfl) rfl (fun h1 => ?_) (fun h1 => ?_) | refine st_n rfl rfl rfl rfl (fun _ => rfl) rfl (fun _ => rfl) ?_ | refine st_s rfl rfl rfl rfl (fun _ => rfl) rfl (fun _ => rfl) ?_ | refine c_seq ?_ | refine c_region ?_ | refine c_plain rfl ?_ | refine c_drawn rfl (by kernel_rfl) ?_ | refine st_nil ?_ | refine c_norm ?_ | refine c_cret ?_ | refine c_ret ?_ | refine c_true rfl ?_ | refine c_false rfl ?_ | refine c_skip ?_ | refine c_block ?_ | refine c_bnorm ?_ | refine c_bret ?_ | refine c_bexit rfl ?_ | refine c_bpass rfl ?_ | refine c_exit ?_ | refine c_cexit ?_ | refine c_lret ?_ | refine c_lexit ?_ | refine c_scope ?_ | refine c_label ?_ | refine c_snorm ?_ | refine c_sret ?_ | refine c_sexit ?_ | refine st_call rfl rfl rfl rfl rfl rfl rfl (call_v (vB true) rfl ⟨l, s, hw, rfl, by rw [hm]⟩ rfl rfl rfl (cb_v rfl (fun _ => rfl) ?_)) | refine st_call rfl rfl rfl rfl rfl rfl rfl (call_s (fInts (PU.lampsB l s)) rfl ⟨PlOf l s, s.stage, s.phase, PU.lampsB l s, rfl, rfl, hv⟩ rfl rfl rfl rfl (cb_v rfl (fun _ => rfl) ?_)) | refine st_pv rfl rfl rfl rfl (fun _ => rfl) hpl rfl (fun _ => rfl) ?_ | fail)
    all_goals exact ⟨_, fun _ _ h => h, rfl, rfl, rfl, trivial⟩
end Ref
end Go.Proofs.YtpciieagafddcaaDoor.E
