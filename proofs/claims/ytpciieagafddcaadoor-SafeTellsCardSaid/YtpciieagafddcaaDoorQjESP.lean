/- Several that are asked, and ticks, walked by the engine (own text). -/
import Derived.Test.YtpciieagafddcaaDoorQjESD
import Derived.Test.YtpciieagafddcaaDoorQjELM
import Derived.Test.YtpciieagafddcaaDoorQjERB
namespace Go.Proofs.YtpciieagafddcaaDoor.E
open Go Go.RowKit Go.Proofs Go.Proofs.YtpciieagafddcaaDoorW.PrintWords Go.Proofs.YtpciieagafddcaaDoorW.PrintLast Go.Proofs.YtpciieagafddcaaDoorW.PrintMore Go.Proofs.YtpciieagafddcaaDoor.F
set_option linter.unusedVariables false
set_option linter.unusedSimpArgs false
set_option maxRecDepth 100000
set_option maxHeartbeats 8000000
attribute [local irreducible] acode callR
namespace Safe
open St Rw
def askCells (x : S65) : List CV := [cI x.f0, cI x.f1]
def cAsks (a : List S65) : CV := .sl a.length 2 fun i j => (askCells (a.getD i z65)).getD j (.v undef)
def fAsks (a : List S65) : FV := .t (.one (cAsks a))
theorem C_asks {w : World} {l : List S65} {A : Option Addr} {c : Nat} (hc : l.length ≤ c) (h : k65.C w A l.length l) : (cAsks l).S w (Old w) (.slice A l.length c) :=
  S_of_C (d := k65) old_I (fun i x hx us hK j u hu => by
    obtain rfl := k65_open hK
    rw [getD_some hx]
    match j, hu with
    | 0, hu => cases hu; rfl
    | 1, hu => cases hu; rfl) hc h
theorem fI_eq' {a b : Int} (h : a = b) : some (fI a) = some (fI b) := by rw [h]
theorem blk_eq {hp : HP} {id : Nat} {ids : List Nat} {t t' : Sg} (h : look hp id = some (some ((sgB t).ren ids))) (ht : t = t') : look hp id = some (some ((sgB t').ren ids)) := by subst ht; exact h
theorem ret_two {T : TT} {s : AS} {rs : List ResultVar} {t t' ty id e : Nat} {cs l : List CV} {ti : TI} {fv : FV} {x : TV} {r : FV} (h0 : rs = [.cell t ty, .tmp t']) (h1 : look s.fr t = some (.t (.one (.ptr id 0)))) (h2 : look T ty = some ti) (h3 : blkOf s.hp (some id) = some (.var e cs)) (h4 : seg cs 0 ti.size = some l) (h5 : isAggD ti.d = true) (h6 : look s.fr t' = some fv) (h7 : fzF s.hp fv = .t x) (hr : FV.tup [.agg l, x] = r) : retF T s rs = some r := by
  subst h0
  unfold retF retVs retV retVs retV retVs
  simp only [h1, h2, h3, h4, h5, h6, h7, hr]
theorem getD_last {α : Type} {l : List α} {x d : α} {n : Nat} (h : l.length = n) : (l ++ [x]).getD n d = x := by
  subst h
  rw [List.getD_eq_getElem?_getD, List.getElem?_append_right (Nat.le_refl _), Nat.sub_self]
  rfl
theorem getD_left {α : Type} {l : List α} {x d : α} {j : Nat} (h : j < l.length) : (l ++ [x]).getD j d = l.getD j d := by
  rw [List.getD_eq_getElem?_getD, List.getD_eq_getElem?_getD, List.getElem?_append_left h]
def fAll (s : Sg) (es : List Int) : FV := .tup [.agg (sgCells s), .one (cInts es)]
theorem all_weak {c : Cx} {y : Value} {l : List CV} {t : Sg} {n : Nat} {el : Nat → Nat → CV} {es : List Int} (h : FV.R c (.tup [.agg l, .one (.sl n 1 el)]) y) (hl : l = sgCells t) (hn : n = es.length) (he : ∀ i, i < n → el i 0 = cI (es.getD i 0)) : (fAll t es).R c y := by
  subst hl hn
  obtain ⟨us, rfl, h⟩ := h
  match us, h with
  | [u, v], ⟨h1, ⟨h2, h3⟩, _⟩ => exact ⟨[u, v], rfl, h1, ⟨S_el h2 (fun i j hi hj => by rw [show j = 0 by omega]; exact he i hi), h3⟩, trivial⟩
theorem all_weak0 {c : Cx} {y : Value} {l : List CV} {t : Sg} (h : FV.R c (.tup [.agg l, .one (.v (.slice none 0 0))]) y) (hl : l = sgCells t) : (fAll t []).R c y := by
  subst hl
  obtain ⟨us, rfl, h⟩ := h
  match us, h with
  | [u, v], ⟨h1, h2, _⟩ =>
    have hv : v = .slice none 0 0 := h2.1
    subst hv
    exact ⟨[u, _], rfl, h1, ⟨⟨none, 0, rfl, Nat.le_refl 0, Nat.zero_le _, fun i j hi _ => absurd hi (Nat.not_lt_zero i)⟩, rfl⟩, trivial⟩
def SpAllD : Spec := .pure fun a r => ∃ l s asks, PU.Wf s ∧ asks.length ≤ 1000 ∧ a = [fPls l, fSg s, fAsks asks] ∧ r = fAll (PW.allS l asks s) (PW.allE l asks s)
theorem Γa : ΓOk Tryd.prog (look [(30, SpDo)]) := ΓOk.nil.cons do_ok Tryd.func30 (by kernel_rfl)
theorem take_all {a : List S65} {i : Nat} (h : a.length ≤ i) : a.take i = a := List.take_of_length_le h
theorem alld_ok : SpecOk Tryd.prog 32 SpAllD := by
  refine spec_of_codeW TYok Γa mixed Tryd.func32 rfl ?_
  rintro args pre r post ⟨⟨l, s, asks, hw, hlen, rfl, rfl⟩, rfl, rfl⟩
  refine ⟨rfl, ?_⟩
  repeat' (first | refine st_v rfl rfl rfl rfl (fun _ => rfl) rfl (fun _ => rfl) ?_ | refine st_skip rfl rfl rfl ?_ | refine st_b rfl rfl rfl rfl (fun _ => rfl) rfl (fun h1 => ?_) (fun h1 => ?_) | refine st_n rfl rfl rfl rfl (fun _ => rfl) rfl (fun _ => rfl) ?_ | refine st_s rfl rfl rfl rfl (fun _ => rfl) rfl (fun _ => rfl) ?_ | refine c_seq ?_ | refine c_region ?_ | refine c_plain rfl ?_ | refine c_drawn rfl (by kernel_rfl) ?_ | refine st_nil ?_ | refine c_norm ?_ | refine c_cret ?_ | refine c_ret ?_ | refine c_true rfl ?_ | refine c_false rfl ?_ | refine c_skip ?_ | refine c_block ?_ | refine c_bnorm ?_ | refine c_bret ?_ | refine c_bexit rfl ?_ | refine c_bpass rfl ?_ | refine c_exit ?_ | refine c_cexit ?_ | refine c_lret ?_ | refine c_lexit ?_ | refine c_scope ?_ | refine c_label ?_ | refine c_snorm ?_ | refine c_sret ?_ | refine c_sexit ?_ | fail)
  refine c_loop (fun x : Nat × (Nat → Nat → CV) => x.1 ≤ asks.length ∧ ∀ j, j < x.1 → x.2 j 0 = cI ((PW.allE l (asks.take x.1) s).getD j 0))
    (fun x => match x.1 with
      | 0 => [(15, fI 0), (14, fI (asks.length : Int)), (13, fAsks asks), (8, .t (.one (.v (.slice none 0 0)))), (0, fPls l), (4, .t (.one (.ptr 0 0))), (6, .t (.one (.ptr 1 0)))]
      | i + 1 => [(15, fI ((i + 1 : Nat) : Int)), (14, fI (asks.length : Int)), (13, fAsks asks), (8, .t (.one (.own 2))), (0, fPls l), (4, .t (.one (.ptr 0 0))), (6, .t (.one (.ptr 1 0)))])
    (fun x => match x.1 with
      | 0 => [(0, some (sgB s)), (1, some (sgB z0))]
      | i + 1 => [(0, some (sgB (PW.allS l (asks.take (i + 1)) s))), (1, some (sgB z0)), (2, some (.row 46 (i + 1) 1 x.2))])
    (fun x => asks.length - x.1) [0, 1, 100000] (0, fun _ _ => default) ⟨Nat.zero_le _, fun j hj => absurd hj (Nat.not_lt_zero j)⟩ rfl ⟨rfl, rfl, rfl, rfl, rfl, rfl, rfl, rfl, rfl, rfl, rfl, rfl, rfl, rfl, trivial⟩ ⟨⟨rfl, rfl, rfl⟩, ⟨rfl, rfl, rfl⟩, trivial⟩ rfl (fun x hx => ?_)
  obtain ⟨i, el⟩ := x
  obtain ⟨hi, hel⟩ := hx
  cases i with
  | zero =>
    repeat' (first | refine st_v rfl rfl rfl rfl (fun _ => rfl) rfl (fun _ => rfl) ?_ | refine st_skip rfl rfl rfl ?_ | refine st_b rfl rfl rfl rfl (fun _ => rfl) rfl (fun h1 => ?_) (fun h1 => ?_) | refine st_n rfl rfl rfl rfl (fun _ => rfl) rfl (fun _ => rfl) ?_ | refine st_s rfl rfl rfl rfl (fun _ => rfl) rfl (fun _ => rfl) ?_ | refine c_seq ?_ | refine c_region ?_ | refine c_plain rfl ?_ | refine c_drawn rfl (by kernel_rfl) ?_ | refine st_nil ?_ | refine c_norm ?_ | refine c_cret ?_ | refine c_ret ?_ | refine c_true rfl ?_ | refine c_false rfl ?_ | refine c_skip ?_ | refine c_block ?_ | refine c_bnorm ?_ | refine c_bret ?_ | refine c_bexit rfl ?_ | refine c_bpass rfl ?_ | refine c_exit ?_ | refine c_cexit ?_ | refine c_lret ?_ | refine c_lexit ?_ | refine c_scope ?_ | refine c_label ?_ | refine c_snorm ?_ | refine c_sret ?_ | refine c_sexit ?_ | refine st_call rfl rfl rfl rfl rfl rfl rfl (call_v (fDo (PW.doB l s _ _)) rfl ⟨l, s, _, _, hw, rfl, rfl⟩ rfl rfl rfl (cb_v rfl (fun _ => rfl) ?_)) | refine st_pv rfl rfl rfl rfl (fun _ => rfl) (by simp only [decide_eq_true_eq] at *; omega) rfl (fun _ => rfl) ?_ | refine st_pn rfl rfl rfl rfl (fun _ => rfl) (by show 1 * 8 ≤ 140737488355328; omega) rfl (fun _ => rfl) ?_ | fail)
    · have h1m : 0 < asks.length := by have := of_decide_eq_true (by assumption : decide ((0 : Int) < (asks.length : Int)) = true); omega
      refine c_lnorm [0, 1, 25] (0 + 1, _) ?_ (by show asks.length - 1 < asks.length - 0; omega) rfl ⟨fI_eq' (St.wr64 (by omega) (by omega)), rfl, rfl, rfl, rfl, rfl, rfl, rfl, rfl, rfl, rfl, rfl, rfl, rfl, trivial⟩ ⟨⟨blk_eq (t := (PW.doB l s (asks.getD 0 z65).f0 (asks.getD 0 z65).f1).1) rfl (PW.allS_one s h1m).symm, rfl, rfl⟩, ⟨rfl, rfl, rfl⟩, ⟨rfl, rfl, rfl⟩, trivial⟩ rfl
      refine ⟨h1m, fun j hj => ?_⟩
      have hj : j < 1 := hj
      obtain rfl : j = 0 := by omega
      show _ = cI ((PW.allE l (asks.take (0 + 1)) s).getD 0 0)
      rw [PW.allE_one s h1m]
      rfl
    · have h1m : ¬ ((0 : Int) < (asks.length : Int)) := of_decide_eq_false (by assumption)
      have h0 : asks = [] := List.eq_nil_of_length_eq_zero (by omega)
      subst h0
      exact ⟨_, fun c y h => all_weak0 h (show _ = sgCells s from rfl), ret_two rfl rfl rfl rfl rfl rfl rfl rfl rfl, rfl, rfl, trivial⟩
  | succ i =>
    have hsw : PU.Wf (PW.allS l (asks.take (i + 1)) s) := PW.allS_wf _ hw
    repeat' (first | refine st_v rfl rfl rfl rfl (fun _ => rfl) rfl (fun _ => rfl) ?_ | refine st_skip rfl rfl rfl ?_ | refine st_b rfl rfl rfl rfl (fun _ => rfl) rfl (fun h1 => ?_) (fun h1 => ?_) | refine st_n rfl rfl rfl rfl (fun _ => rfl) rfl (fun _ => rfl) ?_ | refine st_s rfl rfl rfl rfl (fun _ => rfl) rfl (fun _ => rfl) ?_ | refine c_seq ?_ | refine c_region ?_ | refine c_plain rfl ?_ | refine c_drawn rfl (by kernel_rfl) ?_ | refine st_nil ?_ | refine c_norm ?_ | refine c_cret ?_ | refine c_ret ?_ | refine c_true rfl ?_ | refine c_false rfl ?_ | refine c_skip ?_ | refine c_block ?_ | refine c_bnorm ?_ | refine c_bret ?_ | refine c_bexit rfl ?_ | refine c_bpass rfl ?_ | refine c_exit ?_ | refine c_cexit ?_ | refine c_lret ?_ | refine c_lexit ?_ | refine c_scope ?_ | refine c_label ?_ | refine c_snorm ?_ | refine c_sret ?_ | refine c_sexit ?_ | refine st_call rfl rfl rfl rfl rfl rfl rfl (call_v (fDo (PW.doB l (PW.allS l (asks.take (i + 1)) s) _ _)) rfl ⟨l, PW.allS l (asks.take (i + 1)) s, _, _, hsw, rfl, rfl⟩ rfl rfl rfl (cb_v rfl (fun _ => rfl) ?_)) | refine st_pv rfl rfl rfl rfl (fun _ => rfl) (by simp only [decide_eq_true_eq] at *; omega) rfl (fun _ => rfl) ?_ | refine st_pn2 rfl rfl rfl rfl (fun _ => rfl) (by show (i + 1) + 1 ≤ 9223372036854775807 ∧ ((i + 1) + 1) * 8 ≤ 140737488355328; omega) rfl (fun _ => rfl) ?_ | fail)
    · have h1m : i + 1 < asks.length := by have := of_decide_eq_true (by assumption : decide (((i + 1 : Nat) : Int) < (asks.length : Int)) = true); omega
      refine c_lnorm [0, 1, 25] (i + 1 + 1, _) ?_ (by show asks.length - (i + 1 + 1) < asks.length - (i + 1); omega) rfl ⟨fI_eq' ((St.wr64 (by omega) (by omega)).trans (by omega : ((i + 1 : Nat) : Int) + 1 = ((i + 1 + 1 : Nat) : Int))), rfl, rfl, rfl, rfl, rfl, rfl, rfl, rfl, rfl, rfl, rfl, rfl, rfl, trivial⟩ ⟨⟨blk_eq (t := (PW.doB l (PW.allS l (asks.take (i + 1)) s) (asks.getD (i + 1) z65).f0 (asks.getD (i + 1) z65).f1).1) rfl (PW.allS_one s h1m).symm, rfl, rfl⟩, ⟨rfl, rfl, rfl⟩, ⟨rfl, rfl, rfl⟩, trivial⟩ rfl
      refine ⟨h1m, fun j hj => ?_⟩
      have hj : j < i + 1 + 1 := hj
      have hl : (PW.allE l (asks.take (i + 1)) s).length = i + 1 := by rw [PW.allE_len, List.length_take]; omega
      show _ = cI ((PW.allE l (asks.take (i + 1 + 1)) s).getD j 0)
      rw [PW.allE_one s h1m]
      by_cases hj1 : j < i + 1
      · refine Eq.trans ?_ (congrArg cI (getD_left (by omega)).symm)
        exact (if_pos hj1).trans (hel j hj1)
      · obtain rfl : j = i + 1 := by omega
        refine Eq.trans ?_ (congrArg cI (getD_last hl).symm)
        refine (if_neg hj1).trans ?_
        rw [Nat.sub_self]
        rfl
    · have h1m : ¬ (((i + 1 : Nat) : Int) < (asks.length : Int)) := of_decide_eq_false (by assumption)
      have ht : asks.take (i + 1) = asks := take_all (by omega)
      have hi : i + 1 ≤ asks.length := hi
      exact ⟨_, fun c y h => all_weak h ((rfl : _ = sgCells (PW.allS l (asks.take (i + 1)) s)).trans (congrArg sgCells (by rw [ht]))) (by rw [PW.allE_len]; omega) (fun j hj => by have := hel j hj; rw [ht] at this; exact this), ret_two rfl rfl rfl rfl rfl rfl rfl rfl rfl, rfl, rfl, trivial⟩
def SpPlay : Spec := .pure fun a r => ∃ l s asks, PU.Wf s ∧ asks.length ≤ 1000 ∧ a = [fPls l, fSg s, fAsks asks] ∧ r = fRun (PW.playS l asks s) (PW.playR l asks s)
theorem Γp : ΓOk Tryd.prog (look [(30, SpDo), (41, SpTick), (38, SpLamps)]) :=
  ((ΓOk.nil.cons lamps_ok Tryd.func38 (by kernel_rfl)).cons tick_ok Tryd.func41 (by kernel_rfl)).cons do_ok Tryd.func30 (by kernel_rfl)
theorem play_ok : SpecOk Tryd.prog 34 SpPlay := by
  refine spec_of_codeW TYok Γp mixed Tryd.func34 rfl ?_
  rintro args pre r post ⟨⟨l, s, asks, hw, hlen, rfl, rfl⟩, rfl, rfl⟩
  refine ⟨rfl, ?_⟩
  repeat' (first | refine st_v rfl rfl rfl rfl (fun _ => rfl) rfl (fun _ => rfl) ?_ | refine st_skip rfl rfl rfl ?_ | refine st_b rfl rfl rfl rfl (fun _ => rfl) rfl (fun h1 => ?_) (fun h1 => ?_) | refine st_n rfl rfl rfl rfl (fun _ => rfl) rfl (fun _ => rfl) ?_ | refine st_s rfl rfl rfl rfl (fun _ => rfl) rfl (fun _ => rfl) ?_ | refine c_seq ?_ | refine c_region ?_ | refine c_plain rfl ?_ | refine c_drawn rfl (by kernel_rfl) ?_ | refine st_nil ?_ | refine c_norm ?_ | refine c_cret ?_ | refine c_ret ?_ | refine c_true rfl ?_ | refine c_false rfl ?_ | refine c_skip ?_ | refine c_block ?_ | refine c_bnorm ?_ | refine c_bret ?_ | refine c_bexit rfl ?_ | refine c_bpass rfl ?_ | refine c_exit ?_ | refine c_cexit ?_ | refine c_lret ?_ | refine c_lexit ?_ | refine c_scope ?_ | refine c_label ?_ | refine c_snorm ?_ | refine c_sret ?_ | refine c_sexit ?_ | fail)
  refine c_loop (fun x : Nat × Nat × (Nat → Nat → CV) => x.1 ≤ asks.length ∧ x.2.1 = (PW.playR l (asks.take x.1) s).length ∧ ∀ j, j < x.2.1 → x.2.2 j 0 = cInts ((PW.playR l (asks.take x.1) s).getD j []))
    (fun x => match x.2.1 with
      | 0 => [(13, fI (x.1 : Int)), (12, fI (asks.length : Int)), (11, fAsks asks), (8, .t (.one (.v (.slice none 0 0)))), (0, fPls l), (4, .t (.one (.ptr 0 0))), (6, .t (.one (.ptr 1 0)))]
      | _ + 1 => [(13, fI (x.1 : Int)), (12, fI (asks.length : Int)), (11, fAsks asks), (8, .t (.one (.own 2))), (0, fPls l), (4, .t (.one (.ptr 0 0))), (6, .t (.one (.ptr 1 0)))])
    (fun x => match x.2.1 with
      | 0 => [(0, some (sgB (PW.playS l (asks.take x.1) s))), (1, some (sgB z0))]
      | n + 1 => [(0, some (sgB (PW.playS l (asks.take x.1) s))), (1, some (sgB z0)), (2, some (.row 22 (n + 1) 1 x.2.2))])
    (fun x => asks.length - x.1) [0, 1, 100000] (0, 0, fun _ _ => default) ⟨Nat.zero_le _, rfl, fun j hj => absurd hj (Nat.not_lt_zero j)⟩ rfl ⟨rfl, rfl, rfl, rfl, rfl, rfl, rfl, rfl, rfl, rfl, rfl, rfl, rfl, rfl, trivial⟩ ⟨⟨rfl, rfl, rfl⟩, ⟨rfl, rfl, rfl⟩, trivial⟩ rfl (fun x hx => ?_)
  obtain ⟨i, n, el⟩ := x
  obtain ⟨hi, hn, hel⟩ := hx
  have hsw : PU.Wf (PW.playS l (asks.take i) s) := PW.playS_wf _ hw
  have hn : n = (PW.playR l (asks.take i) s).length := hn
  have hnl : n ≤ i := by
    have := PW.playR_len (l := l) (asks.take i) s
    rw [List.length_take] at this
    omega
  cases n with
  | zero =>
    have hnil : PW.playR l (asks.take i) s = [] := List.eq_nil_of_length_eq_zero hn.symm
    repeat' (first | refine st_v rfl rfl rfl rfl (fun _ => rfl) rfl (fun _ => rfl) ?_ | refine st_skip rfl rfl rfl ?_ | refine st_b rfl rfl rfl rfl (fun _ => rfl) rfl (fun h1 => ?_) (fun h1 => ?_) | refine st_n rfl rfl rfl rfl (fun _ => rfl) rfl (fun _ => rfl) ?_ | refine st_s rfl rfl rfl rfl (fun _ => rfl) rfl (fun _ => rfl) ?_ | refine c_seq ?_ | refine c_region ?_ | refine c_plain rfl ?_ | refine c_drawn rfl (by kernel_rfl) ?_ | refine st_nil ?_ | refine c_norm ?_ | refine c_cret ?_ | refine c_ret ?_ | refine c_true rfl ?_ | refine c_false rfl ?_ | refine c_skip ?_ | refine c_block ?_ | refine c_bnorm ?_ | refine c_bret ?_ | refine c_bexit rfl ?_ | refine c_bpass rfl ?_ | refine c_exit ?_ | refine c_cexit ?_ | refine c_lret ?_ | refine c_lexit ?_ | refine c_scope ?_ | refine c_label ?_ | refine c_snorm ?_ | refine c_sret ?_ | refine c_sexit ?_ | refine st_call rfl rfl rfl rfl rfl rfl rfl (call_v (fDo (PW.doB l (PW.playS l (asks.take i) s) _ _)) rfl ⟨l, PW.playS l (asks.take i) s, _, _, hsw, rfl, rfl⟩ rfl rfl rfl (cb_v rfl (fun _ => rfl) ?_)) | refine st_call rfl rfl rfl rfl rfl rfl rfl (call_v (fSg (stage_tickB.f l (PW.playS l (asks.take i) s))) rfl ⟨l, PW.playS l (asks.take i) s, hsw, rfl, rfl⟩ rfl rfl rfl (cb_v rfl (fun _ => rfl) ?_)) | refine st_call rfl rfl rfl rfl rfl rfl rfl (call_s (fInts (PU.lampsB l (stage_tickB.f l (PW.playS l (asks.take i) s)))) rfl ⟨l, stage_tickB.f l (PW.playS l (asks.take i) s), PW.tick_wf hsw, rfl, rfl⟩ rfl rfl rfl rfl (cb_v rfl (fun _ => rfl) ?_)) | refine st_pv rfl rfl rfl rfl (fun _ => rfl) (by simp only [decide_eq_true_eq] at *; omega) rfl (fun _ => rfl) ?_ | refine st_pn rfl rfl rfl rfl (fun _ => rfl) (by show 1 * 24 ≤ 140737488355328; omega) rfl (fun _ => rfl) ?_ | fail)
    · have h1m : i < asks.length := by have := of_decide_eq_true (by assumption : decide ((i : Int) < (asks.length : Int)) = true); omega
      have hx : ¬ (asks.getD i z65).f0 = -1 := by simpa using (by assumption : ((asks.getD (i : Int).toNat z65).f0 != -1) = true)
      refine c_lnorm [0, 1, 100000] (i + 1, 0, el) ?_ (by show asks.length - (i + 1) < asks.length - i; omega) rfl ⟨fI_eq' ((St.wr64 (by omega) (by omega)).trans (by omega : (i : Int) + 1 = ((i + 1 : Nat) : Int))), rfl, rfl, rfl, rfl, rfl, rfl, rfl, rfl, rfl, rfl, rfl, rfl, rfl, trivial⟩ ⟨⟨blk_eq (t := (PW.doB l (PW.playS l (asks.take i) s) (asks.getD i z65).f0 (asks.getD i z65).f1).1) rfl ((PW.one_do hx).symm.trans (PW.playS_one s h1m).symm), rfl, rfl⟩, ⟨rfl, rfl, rfl⟩, trivial⟩ rfl
      exact ⟨h1m, by show 0 = (PW.playR l (asks.take (i + 1)) s).length; rw [PW.playR_no s h1m hx]; exact hn, fun j hj => absurd hj (Nat.not_lt_zero j)⟩
    · have h1m : i < asks.length := by have := of_decide_eq_true (by assumption : decide ((i : Int) < (asks.length : Int)) = true); omega
      have hx : (asks.getD i z65).f0 = -1 := by simpa using (by assumption : ((asks.getD (i : Int).toNat z65).f0 != -1) = false)
      refine c_lnorm [0, 1, 20] (i + 1, 1, _) ?_ (by show asks.length - (i + 1) < asks.length - i; omega) rfl ⟨fI_eq' ((St.wr64 (by omega) (by omega)).trans (by omega : (i : Int) + 1 = ((i + 1 : Nat) : Int))), rfl, rfl, rfl, rfl, rfl, rfl, rfl, rfl, rfl, rfl, rfl, rfl, rfl, trivial⟩ ⟨⟨blk_eq (t := stage_tickB.f l (PW.playS l (asks.take i) s)) rfl ((PW.one_tick hx).symm.trans (PW.playS_one s h1m).symm), rfl, rfl⟩, ⟨rfl, rfl, rfl⟩, ⟨rfl, rfl, rfl⟩, trivial⟩ rfl
      have hr := PW.playR_tick (l := l) s h1m hx
      rw [hnil, List.nil_append] at hr
      refine ⟨h1m, by show 1 = (PW.playR l (asks.take (i + 1)) s).length; rw [hr]; rfl, fun j hj => ?_⟩
      have hj : j < 1 := hj
      obtain rfl : j = 0 := by omega
      show _ = cInts ((PW.playR l (asks.take (i + 1)) s).getD 0 [])
      rw [hr]
      rfl
    · have h1m : ¬ ((i : Int) < (asks.length : Int)) := of_decide_eq_false (by assumption)
      have ht : asks.take i = asks := take_all (by omega)
      rw [ht] at hnil
      rw [hnil]
      exact ⟨_, fun c y h => run_weak0 h ((rfl : _ = sgCells (PW.playS l (asks.take i) s)).trans (congrArg sgCells (by rw [ht]))), ret_two rfl rfl rfl rfl rfl rfl rfl rfl rfl, rfl, rfl, trivial⟩
  | succ n =>
    repeat' (first | refine st_v rfl rfl rfl rfl (fun _ => rfl) rfl (fun _ => rfl) ?_ | refine st_skip rfl rfl rfl ?_ | refine st_b rfl rfl rfl rfl (fun _ => rfl) rfl (fun h1 => ?_) (fun h1 => ?_) | refine st_n rfl rfl rfl rfl (fun _ => rfl) rfl (fun _ => rfl) ?_ | refine st_s rfl rfl rfl rfl (fun _ => rfl) rfl (fun _ => rfl) ?_ | refine c_seq ?_ | refine c_region ?_ | refine c_plain rfl ?_ | refine c_drawn rfl (by kernel_rfl) ?_ | refine st_nil ?_ | refine c_norm ?_ | refine c_cret ?_ | refine c_ret ?_ | refine c_true rfl ?_ | refine c_false rfl ?_ | refine c_skip ?_ | refine c_block ?_ | refine c_bnorm ?_ | refine c_bret ?_ | refine c_bexit rfl ?_ | refine c_bpass rfl ?_ | refine c_exit ?_ | refine c_cexit ?_ | refine c_lret ?_ | refine c_lexit ?_ | refine c_scope ?_ | refine c_label ?_ | refine c_snorm ?_ | refine c_sret ?_ | refine c_sexit ?_ | refine st_call rfl rfl rfl rfl rfl rfl rfl (call_v (fDo (PW.doB l (PW.playS l (asks.take i) s) _ _)) rfl ⟨l, PW.playS l (asks.take i) s, _, _, hsw, rfl, rfl⟩ rfl rfl rfl (cb_v rfl (fun _ => rfl) ?_)) | refine st_call rfl rfl rfl rfl rfl rfl rfl (call_v (fSg (stage_tickB.f l (PW.playS l (asks.take i) s))) rfl ⟨l, PW.playS l (asks.take i) s, hsw, rfl, rfl⟩ rfl rfl rfl (cb_v rfl (fun _ => rfl) ?_)) | refine st_call rfl rfl rfl rfl rfl rfl rfl (call_s (fInts (PU.lampsB l (stage_tickB.f l (PW.playS l (asks.take i) s)))) rfl ⟨l, stage_tickB.f l (PW.playS l (asks.take i) s), PW.tick_wf hsw, rfl, rfl⟩ rfl rfl rfl rfl (cb_v rfl (fun _ => rfl) ?_)) | refine st_pv rfl rfl rfl rfl (fun _ => rfl) (by simp only [decide_eq_true_eq] at *; omega) rfl (fun _ => rfl) ?_ | refine st_pn2 rfl rfl rfl rfl (fun _ => rfl) (by show (n + 1) + 1 ≤ 9223372036854775807 ∧ ((n + 1) + 1) * 24 ≤ 140737488355328; have hi : i ≤ asks.length := hi; omega) rfl (fun _ => rfl) ?_ | fail)
    · have h1m : i < asks.length := by have := of_decide_eq_true (by assumption : decide ((i : Int) < (asks.length : Int)) = true); omega
      have hx : ¬ (asks.getD i z65).f0 = -1 := by simpa using (by assumption : ((asks.getD (i : Int).toNat z65).f0 != -1) = true)
      refine c_lnorm [0, 1, 2] (i + 1, n + 1, el) ?_ (by show asks.length - (i + 1) < asks.length - i; omega) rfl ⟨fI_eq' ((St.wr64 (by omega) (by omega)).trans (by omega : (i : Int) + 1 = ((i + 1 : Nat) : Int))), rfl, rfl, rfl, rfl, rfl, rfl, rfl, rfl, rfl, rfl, rfl, rfl, rfl, trivial⟩ ⟨⟨blk_eq (t := (PW.doB l (PW.playS l (asks.take i) s) (asks.getD i z65).f0 (asks.getD i z65).f1).1) rfl ((PW.one_do hx).symm.trans (PW.playS_one s h1m).symm), rfl, rfl⟩, ⟨rfl, rfl, rfl⟩, ⟨rfl, rfl, rfl⟩, trivial⟩ rfl
      exact ⟨h1m, by show n + 1 = (PW.playR l (asks.take (i + 1)) s).length; rw [PW.playR_no s h1m hx]; exact hn, fun j hj => by show _ = cInts ((PW.playR l (asks.take (i + 1)) s).getD j []); rw [PW.playR_no s h1m hx]; exact hel j hj⟩
    · have h1m : i < asks.length := by have := of_decide_eq_true (by assumption : decide ((i : Int) < (asks.length : Int)) = true); omega
      have hx : (asks.getD i z65).f0 = -1 := by simpa using (by assumption : ((asks.getD (i : Int).toNat z65).f0 != -1) = false)
      refine c_lnorm [0, 1, 20] (i + 1, n + 1 + 1, _) ?_ (by show asks.length - (i + 1) < asks.length - i; omega) rfl ⟨fI_eq' ((St.wr64 (by omega) (by omega)).trans (by omega : (i : Int) + 1 = ((i + 1 : Nat) : Int))), rfl, rfl, rfl, rfl, rfl, rfl, rfl, rfl, rfl, rfl, rfl, rfl, rfl, trivial⟩ ⟨⟨blk_eq (t := stage_tickB.f l (PW.playS l (asks.take i) s)) rfl ((PW.one_tick hx).symm.trans (PW.playS_one s h1m).symm), rfl, rfl⟩, ⟨rfl, rfl, rfl⟩, ⟨rfl, rfl, rfl⟩, trivial⟩ rfl
      have hr := PW.playR_tick (l := l) s h1m hx
      refine ⟨h1m, by show n + 1 + 1 = (PW.playR l (asks.take (i + 1)) s).length; rw [hr, List.length_append, ← hn]; rfl, fun j hj => ?_⟩
      have hj : j < n + 1 + 1 := hj
      show _ = cInts ((PW.playR l (asks.take (i + 1)) s).getD j [])
      rw [hr]
      by_cases hj1 : j < n + 1
      · refine Eq.trans ?_ (congrArg cInts (getD_left (by omega)).symm)
        exact (if_pos hj1).trans (hel j hj1)
      · obtain rfl : j = n + 1 := by omega
        refine Eq.trans ?_ (congrArg cInts (getD_last hn.symm).symm)
        refine (if_neg hj1).trans ?_
        rw [Nat.sub_self]
        rfl
    · have h1m : ¬ ((i : Int) < (asks.length : Int)) := of_decide_eq_false (by assumption)
      have ht : asks.take i = asks := take_all (by omega)
      exact ⟨_, fun c y h => run_weak h ((rfl : _ = sgCells (PW.playS l (asks.take i) s)).trans (congrArg sgCells (by rw [ht]))) (by rw [ht] at hn; exact hn) (fun j hj => by have := hel j hj; rw [ht] at this; exact this), ret_two rfl rfl rfl rfl rfl rfl rfl rfl rfl, rfl, rfl, trivial⟩
end Safe
end Go.Proofs.YtpciieagafddcaaDoor.E
