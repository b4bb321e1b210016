/- What the machine shows, walked by the engine (own text). -/
import Derived.Test.YtpciieagafddcaaDoorQjEK
import Derived.Test.YtpciieagafddcaaDoorQjERB
import Derived.Test.YtpciieagafddcaaDoorQjF31
namespace Go.Proofs.YtpciieagafddcaaDoor.E
open Go Go.RowKit Go.Proofs Go.Proofs.YtpciieagafddcaaDoorW.PrintWords Go.Proofs.YtpciieagafddcaaDoorW.PrintLast Go.Proofs.YtpciieagafddcaaDoorW.PrintMore Go.Proofs.YtpciieagafddcaaDoor.F
set_option linter.unusedVariables false
set_option linter.unusedSimpArgs false
set_option maxRecDepth 100000
set_option maxHeartbeats 8000000
attribute [local irreducible] acode callR
namespace St
def fInts (v : List Int) : FV := .t (.one (cInts v))
theorem weak_nil {c : Cx} {y : Value} (h : FV.R c (.t (.one (.v (.slice none 0 0)))) y) : (fInts []).R c y := by
  have hy : y = .slice none 0 0 := h.1
  subst hy
  exact ⟨⟨none, 0, rfl, Nat.le_refl 0, Nat.zero_le _, fun i j hi _ => absurd hi (Nat.not_lt_zero i)⟩, rfl⟩
def SpShow : Spec := .pure fun a r => ∃ (p : S25) (x ph : Int) (v : List Int), a = [fPl p, fI x, fI ph] ∧ r = fInts v ∧ lamp_Show.f p.f0 p.f1 p.f2 p.f3 p.f4 x ph = some v
theorem show_ok : SpecOk Tryd.prog 73 SpShow := by
  rintro args pre r post ⟨⟨p, x, ph, v, rfl, rfl, hv⟩, rfl, rfl⟩ c ys hgl hy hI hZ hpre hdj
  match ys, hy with
  | [y, z, u], ⟨hy, hz, hu, _⟩ =>
    obtain ⟨A0, c0, A1, c1, rfl, h0, h1, h2, h3⟩ := pl_val hy
    have hz : z = .int .i64 x := hz.1
    have hu : u = .int .i64 ph := hu.1
    subst hz hu
    exact (lamp_Show.calls A0 c0 p.f0 A1 c1 p.f1 p.f2 p.f3 p.f4 x ph v c.w h1 h0 h3 h2 (glob_of hgl) hv).mono fun e w' ⟨v0, he, hR, hb⟩ => by
      subst he
      exact ends_of hI hb (R_ints (I := (cxN c w').I) hR (fun k h1 h2 => .inr ⟨h1, h2⟩))
def SpLamps : Spec := .pure fun a r => ∃ l s, PU.Wf s ∧ a = [fPls l, fSg s] ∧ r = fInts (PU.lampsB l s)
theorem Γl : ΓOk Tryd.prog (look [(40, SpMay), (73, SpShow)]) :=
  (ΓOk.nil.cons show_ok Tryd.func73 (by kernel_rfl)).cons may_ok Tryd.func40 (by kernel_rfl)
theorem lamps_ok : SpecOk Tryd.prog 38 SpLamps := by
  refine spec_of_codeW TYok Γl mixed Tryd.func38 rfl ?_
  rintro args pre r post ⟨⟨l, s, hw, rfl, rfl⟩, rfl, rfl⟩
  refine ⟨rfl, ?_⟩
  cases hm : stage_mayB.f l s with
  | false =>
    repeat' (first | refine st_v rfl rfl rfl rfl (fun _ => rfl) rfl (fun _ => rfl) ?_ | refine st_skip rfl rfl rfl ?_ | refine st_b rfl rfl rfl rfl (fun _ => rfl) rfl (fun h1 => ?_) (fun h1 => ?_) | refine st_n rfl rfl rfl rfl (fun _ => rfl) rfl (fun _ => rfl) ?_ | refine st_s rfl rfl rfl rfl (fun _ => rfl) rfl (fun _ => rfl) ?_ | refine c_seq ?_ | refine c_region ?_ | refine c_plain rfl ?_ | refine c_drawn rfl (by kernel_rfl) ?_ | refine st_nil ?_ | refine c_norm ?_ | refine c_cret ?_ | refine c_ret ?_ | refine c_true rfl ?_ | refine c_false rfl ?_ | refine c_skip ?_ | refine c_block ?_ | refine c_bnorm ?_ | refine c_bret ?_ | refine c_bexit rfl ?_ | refine c_bpass rfl ?_ | refine c_exit ?_ | refine c_cexit ?_ | refine c_lret ?_ | refine c_lexit ?_ | refine c_scope ?_ | refine c_label ?_ | refine c_snorm ?_ | refine c_sret ?_ | refine c_sexit ?_ | refine st_call rfl rfl rfl rfl rfl rfl rfl (call_v (vB false) rfl ⟨l, s, rfl, by rw [hm]⟩ rfl rfl rfl (cb_v rfl (fun _ => rfl) ?_)) | fail)
    all_goals exact ⟨_, fun c y h => by
      rw [show PU.lampsB l s = [] by unfold PU.lampsB; rw [if_neg (by rw [hm]; decide)]]
      exact weak_nil h, rfl, rfl, rfl, trivial⟩
  | true =>
    have hM := PU.may_of hw hm
    have hpl := hM.plan
    have hv : lamp_Show.f (PlOf l s).f0 (PlOf l s).f1 (PlOf l s).f2 (PlOf l s).f3 (PlOf l s).f4 s.stage s.phase = some (PU.lampsB l s) := by
      unfold PU.lampsB
      rw [if_pos hm]
      exact PL.show_eq hM.fits hM.stage hM.phase
    repeat' (first | refine st_v rfl rfl rfl rfl (fun _ => rfl) rfl (fun _ => rfl) ?_ | refine st_skip rfl rfl rfl ?_ | refine st_b rfl rfl rfl rfl (fun _ => rfl) rfl (fun h1 => ?_) (fun h1 => ?_) | refine st_n rfl rfl rfl rfl (fun _ => rfl) rfl (fun _ => rfl) ?_ | refine st_s rfl rfl rfl rfl (fun _ => rfl) rfl (fun _ => rfl) ?_ | refine c_seq ?_ | refine c_region ?_ | refine c_plain rfl ?_ | refine c_drawn rfl (by kernel_rfl) ?_ | refine st_nil ?_ | refine c_norm ?_ | refine c_cret ?_ | refine c_ret ?_ | refine c_true rfl ?_ | refine c_false rfl ?_ | refine c_skip ?_ | refine c_block ?_ | refine c_bnorm ?_ | refine c_bret ?_ | refine c_bexit rfl ?_ | refine c_bpass rfl ?_ | refine c_exit ?_ | refine c_cexit ?_ | refine c_lret ?_ | refine c_lexit ?_ | refine c_scope ?_ | refine c_label ?_ | refine c_snorm ?_ | refine c_sret ?_ | refine c_sexit ?_ | refine st_call rfl rfl rfl rfl rfl rfl rfl (call_v (vB true) rfl ⟨l, s, rfl, by rw [hm]⟩ rfl rfl rfl (cb_v rfl (fun _ => rfl) ?_)) | refine st_call rfl rfl rfl rfl rfl rfl rfl (call_s (fInts (PU.lampsB l s)) rfl ⟨PlOf l s, s.stage, s.phase, PU.lampsB l s, rfl, rfl, hv⟩ rfl rfl rfl rfl (cb_v rfl (fun _ => rfl) ?_)) | refine st_pv rfl rfl rfl rfl (fun _ => rfl) hpl rfl (fun _ => rfl) ?_ | fail)
    all_goals exact ⟨_, fun _ _ h => h, rfl, rfl, rfl, trivial⟩
def fRun (s : Sg) (rows : List (List Int)) : FV := .tup [.agg (sgCells s), .one (cRows rows)]
theorem run_weak {c : Cx} {y : Value} {l : List CV} {t : Sg} {n : Nat} {el : Nat → Nat → CV} {rows : List (List Int)} (h : FV.R c (.tup [.agg l, .one (.sl n 1 el)]) y) (hl : l = sgCells t) (hn : n = rows.length) (he : ∀ i, i < n → el i 0 = cInts (rows.getD i [])) : (fRun t rows).R c y := by
  subst hl hn
  obtain ⟨us, rfl, h⟩ := h
  match us, h with
  | [u, v], ⟨h1, ⟨h2, h3⟩, _⟩ => exact ⟨[u, v], rfl, h1, ⟨Rw.S_el h2 (fun i j hi hj => by rw [show j = 0 by omega]; exact he i hi), h3⟩, trivial⟩
theorem run_weak0 {c : Cx} {y : Value} {l : List CV} {t : Sg} (h : FV.R c (.tup [.agg l, .one (.v (.slice none 0 0))]) y) (hl : l = sgCells t) : (fRun t []).R c y := by
  subst hl
  obtain ⟨us, rfl, h⟩ := h
  match us, h with
  | [u, v], ⟨h1, h2, _⟩ =>
    have hv : v = .slice none 0 0 := h2.1
    subst hv
    exact ⟨[u, _], rfl, h1, ⟨⟨none, 0, rfl, Nat.le_refl 0, Nat.zero_le _, fun i j hi _ => absurd hi (Nat.not_lt_zero i)⟩, rfl⟩, trivial⟩
end St
end Go.Proofs.YtpciieagafddcaaDoor.E
