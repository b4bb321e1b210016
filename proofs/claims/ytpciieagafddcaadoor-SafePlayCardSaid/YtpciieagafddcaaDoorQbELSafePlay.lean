/- SafePlay walked by the engine (own text). -/
import Derived.Test.YtpciieagafddcaaDoorQbESW
import Derived.Test.YtpciieagafddcaaDoorQbER
namespace Go.Proofs.YtpciieagafddcaaDoor.E
open Go Go.RowKit Go.Proofs Go.Proofs.YtpciieagafddcaaDoorW.PrintWords Go.Proofs.YtpciieagafddcaaDoorW.PrintLast Go.Proofs.YtpciieagafddcaaDoorW.PrintMore Go.Proofs.YtpciieagafddcaaDoor.F
set_option linter.unusedVariables false
set_option linter.unusedSimpArgs false
set_option maxRecDepth 100000
set_option maxHeartbeats 8000000
attribute [local irreducible] acode callR
namespace PlayL
open St Rw Safe
/-- Play, and Rows, of what tells at least that it is so and so. -/
def SpPlayX : List FV → FV → Prop := fun a r => ∃ l s asks z, PU.Wf s ∧ asks.length ≤ 1000 ∧ (∀ (c : Cx) y, z.R c y → (fAsks asks).R c y) ∧ a = [fPls l, fSg s, z] ∧ r = fRun (PW.playS l asks s) (PW.playR l asks s)
theorem playX_ok : SpecOk Tryd.prog 34 (.pure SpPlayX) := by
  refine SpecOk.pre play_ok ?_
  rintro a r ⟨l, s, asks, z, hw, hl, hz, rfl, rfl⟩
  refine ⟨[fPls l, fSg s, fAsks asks], ⟨l, s, asks, hw, hl, rfl, rfl⟩, fun c ys h => ?_⟩
  match ys, h with
  | [x, y, u], ⟨h1, h2, h3, _⟩ => exact ⟨h1, h2, hz c u h3, trivial⟩
def SpRowsX : List FV → FV → Prop := fun a r => ∃ (x : List (List Int)) (z z' : FV), (x.length ≤ 1000 ∧ ∀ i, (x.getD i []).length ≤ 1000) ∧ (∀ (c : Cx) y, z.R c y → (fRows x).R c y) ∧ (∀ (c : Cx) y, z'.R c y → (fRows x).R c y) ∧ a = [z, z'] ∧ r = vB true
theorem rowsX_ok : SpecOk Tryd.prog 37 (.pure SpRowsX) := by
  refine SpecOk.pre Rw.rows_ok ?_
  rintro a r ⟨x, z, z', hb, h1, h2, rfl, rfl⟩
  refine ⟨[fRows x, fRows x], ⟨x, hb, rfl, rfl⟩, fun c ys h => ?_⟩
  match ys, h with
  | [y, u], ⟨h3, h4, _⟩ => exact ⟨h1 c y h3, h2 c u h4, trivial⟩
theorem asks_weak {c : Cx} {y : Value} {n : Nat} {el : Nat → Nat → CV} {asks : List S65} (h : FV.R c (slF n 2 el) y) (hn : n = asks.length) (he : ∀ i j, i < n → j < 2 → el i j = (askCells (asks.getD i z65)).getD j (.v undef)) : (fAsks asks).R c y := by
  subst hn
  exact ⟨S_el h.1 he, h.2⟩
theorem asks_nil {c : Cx} {y : Value} (h : FV.R c (.t (.one (.v (.slice none 0 0)))) y) : (fAsks []).R c y := by
  have hy : y = .slice none 0 0 := h.1
  subst hy
  exact ⟨⟨none, 0, rfl, Nat.le_refl 0, Nat.zero_le _, fun i j hi _ => absurd hi (Nat.not_lt_zero i)⟩, rfl⟩
theorem rows_weak {c : Cx} {y : Value} {n : Nat} {el : Nat → Nat → CV} {x : List (List Int)} (h : FV.R c (slF n 1 el) y) (hn : n = x.length) (he : ∀ i, i < n → el i 0 = cInts (x.getD i [])) : (fRows x).R c y := by
  subst hn
  exact ⟨S_el h.1 (fun i j hi hj => by rw [show j = 0 by omega]; exact he i hi), h.2⟩
theorem app_get {α : Type} {a b : List α} {d : α} {i : Nat} : (a ++ b).getD i d = if i < a.length then a.getD i d else b.getD (i - a.length) d := by
  split
  · rename_i h
    rw [List.getD_eq_getElem?_getD, List.getD_eq_getElem?_getD, List.getElem?_append_left h]
  · rename_i h
    rw [List.getD_eq_getElem?_getD, List.getD_eq_getElem?_getD, List.getElem?_append_right (by omega)]
theorem app_asks (a b : List S65) (i j : Nat) : appEl a.length (fun i j => (askCells (a.getD i z65)).getD j (.v undef)) (fun i j => (askCells (b.getD i z65)).getD j (.v undef)) i j = (askCells ((a ++ b).getD i z65)).getD j (.v undef) := by
  unfold appEl
  rw [app_get]
  split <;> rfl
theorem app_rows (a b : List (List Int)) (i j : Nat) : appEl a.length (fun i _ => cInts (a.getD i [])) (fun i _ => cInts (b.getD i [])) i j = cInts ((a ++ b).getD i []) := by
  unfold appEl
  rw [app_get]
  split <;> rfl
def tk : S65 := ⟨-1, 0⟩
theorem rep_get {n i : Nat} (h : i < n) : (List.replicate n tk).getD i z65 = tk := by
  rw [List.getD_eq_getElem?_getD, List.getElem?_replicate, if_pos h]
  rfl
theorem Γy : ΓOk Tryd.prog (look [(28, SpAwake17), (29, SpFewAll), (34, .pure SpPlayX), (42, SpRun), (37, .pure SpRowsX), (40, SpMay)]) :=
  ((((((ΓOk.nil.cons may_ok Tryd.func40 (by kernel_rfl)).cons rowsX_ok Tryd.func37 (by kernel_rfl)).cons run_ok Tryd.func42 (by kernel_rfl)).cons playX_ok Tryd.func34 (by kernel_rfl)).cons fewAll_ok Tryd.func29 (by kernel_rfl)).cons Safe.awake_ok Tryd.func28 (by kernel_rfl))
theorem ok : SpecOk Tryd.prog 13 (.pure fun z r => ∃ l s a b n, PU.Wf s ∧ z = [fPls l, fSg s, fAsks a, fAsks b, fI n] ∧ r = vB true) := by
  refine spec_of_code TYok Γy mixed Tryd.func13 rfl ?_
  rintro args pre r post ⟨⟨l, s, a, b, n, hw, rfl, rfl⟩, rfl, rfl⟩
  refine ⟨rfl, ?_⟩
  obtain ⟨few, hfew⟩ := PU.fewAll_ev l
  obtain ⟨mb, hmb⟩ : ∃ mb, stage_mayB.f l s = mb := ⟨_, rfl⟩
  repeat' (first | refine st_v rfl rfl rfl rfl (fun _ => rfl) rfl (fun _ => rfl) ?_ | refine st_skip rfl rfl rfl ?_ | refine st_b rfl rfl rfl rfl (fun _ => rfl) rfl (fun h1 => ?_) (fun h1 => ?_) | refine st_n rfl rfl rfl rfl (fun _ => rfl) rfl (fun _ => rfl) ?_ | refine st_s rfl rfl rfl rfl (fun _ => rfl) rfl (fun _ => rfl) ?_ | refine c_seq ?_ | refine c_region ?_ | refine c_plain rfl ?_ | refine c_drawn rfl (by kernel_rfl) ?_ | refine st_nil ?_ | refine c_norm ?_ | refine c_cret ?_ | refine c_ret ?_ | refine c_true rfl ?_ | refine c_false rfl ?_ | refine c_skip ?_ | refine c_block ?_ | refine c_bnorm ?_ | refine c_bret ?_ | refine c_bexit rfl ?_ | refine c_bpass rfl ?_ | refine c_exit ?_ | refine c_cexit ?_ | refine c_lret ?_ | refine c_lexit ?_ | refine c_scope ?_ | refine c_label ?_ | refine c_snorm ?_ | refine c_sret ?_ | refine c_sexit ?_ | refine st_call rfl rfl rfl rfl rfl rfl rfl (call_v (vB true) rfl ⟨rfl, rfl⟩ rfl rfl rfl (cb_v rfl (fun _ => rfl) ?_)) | refine st_call rfl rfl rfl rfl rfl rfl rfl (call_v (vB few) rfl ⟨l, few, rfl, rfl, hfew⟩ rfl rfl rfl (cb_b rfl (fun h1 => ?_) (fun h1 => ?_))) | refine st_call rfl rfl rfl rfl rfl rfl rfl (call_v (vB mb) rfl ⟨l, s, rfl, by rw [hmb]⟩ rfl rfl rfl (cb_b rfl (fun h1 => ?_) (fun h1 => ?_))) | fail)
  all_goals try exact ⟨rfl, rfl, rfl, trivial⟩
  have hn : (a.length : Int) ≤ 30 ∧ (b.length : Int) ≤ 30 ∧ 0 ≤ n ∧ n ≤ 60 := by
    clear hw hfew
    simp only [decide_eq_true_eq, decide_eq_false_iff_not] at *
    omega
  have hm : stage_mayB.f l s = true := by rw [hmb]; assumption
  have hM := PU.may_of hw hm
  obtain ⟨ha30, hb30, hn0, hn60⟩ := hn
  obtain ⟨m, rfl⟩ := Int.eq_ofNat_of_zero_le hn0
  obtain ⟨p, hp⟩ : ∃ p, PW.playS l a s = p := ⟨_, rfl⟩
  obtain ⟨one, ho⟩ : ∃ one, PW.playR l a s = one := ⟨_, rfl⟩
  obtain ⟨q, hq⟩ : ∃ q, PW.playS l b p = q := ⟨_, rfl⟩
  obtain ⟨two, ht⟩ : ∃ two, PW.playR l b p = two := ⟨_, rfl⟩
  have hwp : PU.Wf p := by rw [← hp]; exact PW.playS_wf a hw
  have hl1 : one.length ≤ 30 := by have := PW.playR_len (l := l) a s; rw [ho] at this; omega
  have hl2 : two.length ≤ 30 := by have := PW.playR_len (l := l) b p; rw [ht] at this; omega
  have hgl : ∀ (x : List (List Int)), (∀ y ∈ x, y.length ≤ 100) → ∀ i, (x.getD i []).length ≤ 1000 := fun x hx i => by
    by_cases hi : i < x.length
    · rw [List.getD_eq_getElem?_getD, List.getElem?_eq_getElem hi]
      have := hx _ (List.getElem_mem hi)
      show (x[i]).length ≤ 1000
      omega
    · rw [List.getD_eq_getElem?_getD, List.getElem?_eq_none (by omega)]
      exact Nat.zero_le _
  have hr1 : (PV.rowsN l m s).length ≤ 1000 ∧ ∀ i, ((PV.rowsN l m s).getD i []).length ≤ 1000 := ⟨by rw [PV.rowsN_len]; omega, hgl _ (by rw [← PW.playR_ticks m s tk rfl]; exact PW.playR_rows _ hw)⟩
  have hr2 : (one ++ two).length ≤ 1000 ∧ ∀ i, ((one ++ two).getD i []).length ≤ 1000 := ⟨by rw [List.length_append]; omega, hgl _ (fun y hy => by
    rcases List.mem_append.1 hy with hy | hy
    · rw [← ho] at hy; exact PW.playR_rows a hw y hy
    · rw [← ht] at hy; exact PW.playR_rows b hwp y hy)⟩
  clear hfew hgl
  refine c_loop (fun x : Nat × (Nat → Nat → CV) => x.1 ≤ m ∧ ∀ i j, i < x.1 → j < 2 → x.2 i j = (askCells tk).getD j (.v undef))
    (fun x => match x.1 with
      | 0 => [(14, fI 0), (13, .t (.one (.v (.slice none 0 0)))), (0, fPls l), (2, fAsks a), (3, fAsks b), (4, fI (m : Int)), (6, .t (.one (.ptr 0 0)))]
      | k + 1 => [(14, fI ((k + 1 : Nat) : Int)), (13, .t (.one (.own 1))), (0, fPls l), (2, fAsks a), (3, fAsks b), (4, fI (m : Int)), (6, .t (.one (.ptr 0 0)))])
    (fun x => match x.1 with
      | 0 => [(0, some (sgB s))]
      | k + 1 => [(0, some (sgB s)), (1, some (.row 65 (k + 1) 2 x.2))])
    (fun x => m - x.1) [0, 100000] (0, fun _ _ => default) ⟨Nat.zero_le _, fun i j hi => absurd hi (Nat.not_lt_zero i)⟩ rfl ⟨rfl, rfl, rfl, rfl, rfl, rfl, rfl, rfl, rfl, rfl, rfl, rfl, rfl, rfl, trivial⟩ ⟨⟨rfl, rfl, rfl⟩, trivial⟩ rfl (fun x hx => ?_)
  obtain ⟨k, el⟩ := x
  obtain ⟨hk, hel⟩ := hx
  cases k with
  | zero =>
    repeat' (first | refine st_v rfl rfl rfl rfl (fun _ => rfl) rfl (fun _ => rfl) ?_ | refine st_skip rfl rfl rfl ?_ | refine st_b rfl rfl rfl rfl (fun _ => rfl) rfl (fun h1 => ?_) (fun h1 => ?_) | refine st_n rfl rfl rfl rfl (fun _ => rfl) rfl (fun _ => rfl) ?_ | refine st_s rfl rfl rfl rfl (fun _ => rfl) rfl (fun _ => rfl) ?_ | refine c_seq ?_ | refine c_region ?_ | refine c_plain rfl ?_ | refine c_drawn rfl (by kernel_rfl) ?_ | refine st_nil ?_ | refine c_norm ?_ | refine c_cret ?_ | refine c_ret ?_ | refine c_true rfl ?_ | refine c_false rfl ?_ | refine c_skip ?_ | refine c_block ?_ | refine c_bnorm ?_ | refine c_bret ?_ | refine c_bexit rfl ?_ | refine c_bpass rfl ?_ | refine c_exit ?_ | refine c_cexit ?_ | refine c_lret ?_ | refine c_lexit ?_ | refine c_scope ?_ | refine c_label ?_ | refine c_snorm ?_ | refine c_sret ?_ | refine c_sexit ?_ | refine st_pn rfl rfl rfl rfl (fun _ => rfl) (by show 1 * 16 ≤ 140737488355328; omega) rfl (fun _ => rfl) ?_ | fail)
    · have h1m : 0 < m := by have := of_decide_eq_true (by assumption : decide ((0 : Int) < (m : Int)) = true); omega
      refine c_lnorm [0, 8] (0 + 1, _) ⟨h1m, fun i j hi hj => ?_⟩ (by show m - 1 < m - 0; omega) rfl ⟨fI_eq' (St.wr64 (by omega) (by omega)), rfl, rfl, rfl, rfl, rfl, rfl, rfl, rfl, rfl, rfl, rfl, rfl, rfl, trivial⟩ ⟨⟨rfl, rfl, rfl⟩, ⟨rfl, rfl, rfl⟩, trivial⟩ rfl
      have hi : i < 1 := hi
      obtain rfl : i = 0 := by omega
      rcases lt_two hj with rfl | rfl <;> rfl
    · have h1m : ¬ ((0 : Int) < (m : Int)) := of_decide_eq_false (by assumption)
      obtain rfl : m = 0 := by omega
      repeat' (first | refine st_v rfl rfl rfl rfl (fun _ => rfl) rfl (fun _ => rfl) ?_ | refine st_skip rfl rfl rfl ?_ | refine st_b rfl rfl rfl rfl (fun _ => rfl) rfl (fun h1 => ?_) (fun h1 => ?_) | refine st_n rfl rfl rfl rfl (fun _ => rfl) rfl (fun _ => rfl) ?_ | refine st_s rfl rfl rfl rfl (fun _ => rfl) rfl (fun _ => rfl) ?_ | refine c_seq ?_ | refine c_region ?_ | refine c_plain rfl ?_ | refine c_drawn rfl (by kernel_rfl) ?_ | refine st_nil ?_ | refine c_norm ?_ | refine c_cret ?_ | refine c_ret ?_ | refine c_true rfl ?_ | refine c_false rfl ?_ | refine c_skip ?_ | refine c_block ?_ | refine c_bnorm ?_ | refine c_bret ?_ | refine c_bexit rfl ?_ | refine c_bpass rfl ?_ | refine c_exit ?_ | refine c_cexit ?_ | refine c_lret ?_ | refine c_lexit ?_ | refine c_scope ?_ | refine c_label ?_ | refine c_snorm ?_ | refine c_sret ?_ | refine c_sexit ?_ | refine st_call rfl rfl rfl rfl rfl rfl rfl (call_s (fRun (PV.tickN l 0 s) (PV.rowsN l 0 s)) rfl ⟨l, s, List.replicate 0 tk, .t (.one (.v (.slice none 0 0))), hw, by rw [List.length_replicate]; omega, fun c y h => asks_nil h, rfl, by rw [PW.playS_ticks 0 s tk rfl, PW.playR_ticks 0 s tk rfl]⟩ rfl rfl rfl rfl (cb_v rfl (fun _ => rfl) ?_)) | refine st_call rfl rfl rfl rfl rfl rfl rfl (call_s (fRun (PV.tickN l 0 s) (PV.rowsN l 0 s)) rfl ⟨l, s, (0 : Int), PV.tickN l 0 s, PV.rowsN l 0 s, hw, rfl, rfl, .inl ⟨0, hm, by omega, rfl, rfl, rfl⟩⟩ rfl rfl rfl rfl (cb_v rfl (fun _ => rfl) ?_)) | refine st_call rfl rfl rfl rfl rfl rfl rfl (call_v (vB true) rfl ⟨PV.rowsN l 0 s, _, _, hr1, fun _ _ h => h, fun _ _ h => h, rfl, rfl⟩ rfl rfl rfl (cb_v rfl (fun _ => rfl) ?_)) | refine st_call rfl rfl rfl rfl rfl rfl rfl (call_s (fRun p one) rfl ⟨l, s, a, _, hw, by omega, fun _ _ h => h, rfl, by rw [hp, ho]⟩ rfl rfl rfl rfl (cb_v rfl (fun _ => rfl) ?_)) | refine st_call rfl rfl rfl rfl rfl rfl rfl (call_s (fRun q two) rfl ⟨l, p, b, _, hwp, by omega, fun _ _ h => h, rfl, by rw [hq, ht]⟩ rfl rfl rfl rfl (cb_v rfl (fun _ => rfl) ?_)) | refine st_call rfl rfl rfl rfl rfl rfl rfl (call_s (fRun q (one ++ two)) rfl ⟨l, s, a ++ b, _, hw, by rw [List.length_append]; omega, fun c y h => asks_weak h (List.length_append).symm (fun i j _ _ => app_asks a b i j), rfl, by rw [PW.playS_app, PW.playR_app, hp, hq, ho, ht]⟩ rfl rfl rfl rfl (cb_n rfl rfl (fun _ => rfl) ?_)) | refine st_call rfl rfl rfl rfl rfl rfl rfl (call_v (vB true) rfl ⟨one ++ two, _, _, hr2, fun _ _ h => h, fun c y h => rows_weak h (List.length_append).symm (fun i _ => app_rows one two i 0), rfl, rfl⟩ rfl rfl rfl (cb_v rfl (fun _ => rfl) ?_)) | refine st_pn rfl rfl rfl rfl (fun _ => rfl) (by show a.length * 16 ≤ 140737488355328; omega) rfl (fun _ => rfl) ?_ | refine st_pn rfl rfl rfl rfl (fun _ => rfl) (by show one.length * 24 ≤ 140737488355328; omega) rfl (fun _ => rfl) ?_ | refine st_pn2 rfl rfl rfl rfl (fun _ => rfl) (by show a.length + b.length ≤ 9223372036854775807 ∧ (a.length + b.length) * 16 ≤ 140737488355328; omega) rfl (fun _ => rfl) ?_ | refine st_pn2 rfl rfl rfl rfl (fun _ => rfl) (by show one.length + two.length ≤ 9223372036854775807 ∧ (one.length + two.length) * 24 ≤ 140737488355328; omega) rfl (fun _ => rfl) ?_ | fail)
      all_goals first
        | exact ⟨rfl, rfl, rfl, trivial⟩
        | exact absurd (by assumption : eqV _ _ = false) (by simp [eqV])
  | succ k =>
    have hk : k + 1 ≤ m := hk
    have hel : ∀ i j, i < k + 1 → j < 2 → el i j = (askCells tk).getD j (.v undef) := hel
    repeat' (first | refine st_v rfl rfl rfl rfl (fun _ => rfl) rfl (fun _ => rfl) ?_ | refine st_skip rfl rfl rfl ?_ | refine st_b rfl rfl rfl rfl (fun _ => rfl) rfl (fun h1 => ?_) (fun h1 => ?_) | refine st_n rfl rfl rfl rfl (fun _ => rfl) rfl (fun _ => rfl) ?_ | refine st_s rfl rfl rfl rfl (fun _ => rfl) rfl (fun _ => rfl) ?_ | refine c_seq ?_ | refine c_region ?_ | refine c_plain rfl ?_ | refine c_drawn rfl (by kernel_rfl) ?_ | refine st_nil ?_ | refine c_norm ?_ | refine c_cret ?_ | refine c_ret ?_ | refine c_true rfl ?_ | refine c_false rfl ?_ | refine c_skip ?_ | refine c_block ?_ | refine c_bnorm ?_ | refine c_bret ?_ | refine c_bexit rfl ?_ | refine c_bpass rfl ?_ | refine c_exit ?_ | refine c_cexit ?_ | refine c_lret ?_ | refine c_lexit ?_ | refine c_scope ?_ | refine c_label ?_ | refine c_snorm ?_ | refine c_sret ?_ | refine c_sexit ?_ | refine st_pn2 rfl rfl rfl rfl (fun _ => rfl) (by show (k + 1) + 1 ≤ 9223372036854775807 ∧ ((k + 1) + 1) * 16 ≤ 140737488355328; omega) rfl (fun _ => rfl) ?_ | fail)
    · have h1m : k + 1 < m := by have := of_decide_eq_true (by assumption : decide (((k + 1 : Nat) : Int) < (m : Int)) = true); omega
      refine c_lnorm [0, 8] (k + 1 + 1, _) ⟨h1m, fun i j hi hj => ?_⟩ (by show m - (k + 1 + 1) < m - (k + 1); omega) rfl ⟨fI_eq' ((St.wr64 (by omega) (by omega)).trans (by omega : ((k + 1 : Nat) : Int) + 1 = ((k + 1 + 1 : Nat) : Int))), rfl, rfl, rfl, rfl, rfl, rfl, rfl, rfl, rfl, rfl, rfl, rfl, rfl, trivial⟩ ⟨⟨rfl, rfl, rfl⟩, ⟨rfl, rfl, rfl⟩, trivial⟩ rfl
      have hi : i < k + 1 + 1 := hi
      by_cases hi1 : i < k + 1
      · exact (if_pos hi1).trans (hel i j hi1 hj)
      · obtain rfl : i = k + 1 := by omega
        refine (if_neg hi1).trans ?_
        rw [Nat.sub_self]
        rcases lt_two hj with rfl | rfl <;> rfl
    · have h1m : ¬ (((k + 1 : Nat) : Int) < (m : Int)) := of_decide_eq_false (by assumption)
      obtain rfl : m = k + 1 := by omega
      repeat' (first | refine st_v rfl rfl rfl rfl (fun _ => rfl) rfl (fun _ => rfl) ?_ | refine st_skip rfl rfl rfl ?_ | refine st_b rfl rfl rfl rfl (fun _ => rfl) rfl (fun h1 => ?_) (fun h1 => ?_) | refine st_n rfl rfl rfl rfl (fun _ => rfl) rfl (fun _ => rfl) ?_ | refine st_s rfl rfl rfl rfl (fun _ => rfl) rfl (fun _ => rfl) ?_ | refine c_seq ?_ | refine c_region ?_ | refine c_plain rfl ?_ | refine c_drawn rfl (by kernel_rfl) ?_ | refine st_nil ?_ | refine c_norm ?_ | refine c_cret ?_ | refine c_ret ?_ | refine c_true rfl ?_ | refine c_false rfl ?_ | refine c_skip ?_ | refine c_block ?_ | refine c_bnorm ?_ | refine c_bret ?_ | refine c_bexit rfl ?_ | refine c_bpass rfl ?_ | refine c_exit ?_ | refine c_cexit ?_ | refine c_lret ?_ | refine c_lexit ?_ | refine c_scope ?_ | refine c_label ?_ | refine c_snorm ?_ | refine c_sret ?_ | refine c_sexit ?_ | refine st_call rfl rfl rfl rfl rfl rfl rfl (call_s (fRun (PV.tickN l (k + 1) s) (PV.rowsN l (k + 1) s)) rfl ⟨l, s, List.replicate (k + 1) tk, slF (k + 1) 2 el, hw, by rw [List.length_replicate]; omega, fun c y h => asks_weak h (List.length_replicate).symm (fun i j hi hj => by rw [rep_get hi]; exact hel i j hi hj), rfl, by rw [PW.playS_ticks (k + 1) s tk rfl, PW.playR_ticks (k + 1) s tk rfl]⟩ rfl rfl rfl rfl (cb_n rfl rfl (fun _ => rfl) ?_)) | refine st_call rfl rfl rfl rfl rfl rfl rfl (call_s (fRun (PV.tickN l (k + 1) s) (PV.rowsN l (k + 1) s)) rfl ⟨l, s, ((k + 1) : Int), PV.tickN l (k + 1) s, PV.rowsN l (k + 1) s, hw, rfl, rfl, .inl ⟨(k + 1), hm, by omega, rfl, rfl, rfl⟩⟩ rfl rfl rfl rfl (cb_v rfl (fun _ => rfl) ?_)) | refine st_call rfl rfl rfl rfl rfl rfl rfl (call_v (vB true) rfl ⟨PV.rowsN l (k + 1) s, _, _, hr1, fun _ _ h => h, fun _ _ h => h, rfl, rfl⟩ rfl rfl rfl (cb_v rfl (fun _ => rfl) ?_)) | refine st_call rfl rfl rfl rfl rfl rfl rfl (call_s (fRun p one) rfl ⟨l, s, a, _, hw, by omega, fun _ _ h => h, rfl, by rw [hp, ho]⟩ rfl rfl rfl rfl (cb_v rfl (fun _ => rfl) ?_)) | refine st_call rfl rfl rfl rfl rfl rfl rfl (call_s (fRun q two) rfl ⟨l, p, b, _, hwp, by omega, fun _ _ h => h, rfl, by rw [hq, ht]⟩ rfl rfl rfl rfl (cb_v rfl (fun _ => rfl) ?_)) | refine st_call rfl rfl rfl rfl rfl rfl rfl (call_s (fRun q (one ++ two)) rfl ⟨l, s, a ++ b, _, hw, by rw [List.length_append]; omega, fun c y h => asks_weak h (List.length_append).symm (fun i j _ _ => app_asks a b i j), rfl, by rw [PW.playS_app, PW.playR_app, hp, hq, ho, ht]⟩ rfl rfl rfl rfl (cb_n rfl rfl (fun _ => rfl) ?_)) | refine st_call rfl rfl rfl rfl rfl rfl rfl (call_v (vB true) rfl ⟨one ++ two, _, _, hr2, fun _ _ h => h, fun c y h => rows_weak h (List.length_append).symm (fun i _ => app_rows one two i 0), rfl, rfl⟩ rfl rfl rfl (cb_v rfl (fun _ => rfl) ?_)) | refine st_pn rfl rfl rfl rfl (fun _ => rfl) (by show a.length * 16 ≤ 140737488355328; omega) rfl (fun _ => rfl) ?_ | refine st_pn rfl rfl rfl rfl (fun _ => rfl) (by show one.length * 24 ≤ 140737488355328; omega) rfl (fun _ => rfl) ?_ | refine st_pn2 rfl rfl rfl rfl (fun _ => rfl) (by show a.length + b.length ≤ 9223372036854775807 ∧ (a.length + b.length) * 16 ≤ 140737488355328; omega) rfl (fun _ => rfl) ?_ | refine st_pn2 rfl rfl rfl rfl (fun _ => rfl) (by show one.length + two.length ≤ 9223372036854775807 ∧ (one.length + two.length) * 24 ≤ 140737488355328; omega) rfl (fun _ => rfl) ?_ | fail)
      all_goals first
        | exact ⟨rfl, rfl, rfl, trivial⟩
        | exact absurd (by assumption : eqV _ _ = false) (by simp [eqV])
end PlayL
theorem SafePlay_calls (A0 : Option Addr) (c0 : Nat) (l0 : List S25) (a0 a1 a2 a3 a4 a5 a6 a7 a8 : Int) (a9 : Bool) (A1 : Option Addr) (c1 : Nat) (l1 : List S65) (A2 : Option Addr) (c2 : Nat) (l2 : List S65) (n : Int) (w : World) (hr0 : k25.C w A0 l0.length l0) (hc0 : l0.length ≤ c0) (hr1 : k65.C w A1 l1.length l1) (hc1 : l1.length ≤ c1) (hr2 : k65.C w A2 l2.length l2) (hc2 : l2.length ≤ c2) (hG : GlobOk w) (hw : PU.Wf ⟨a0, a1, a2, a3, a4, a5, a6, a7, a8, a9⟩) :
    Calls Tryd.prog 13 #[.slice A0 l0.length c0, .agg #[.int .i64 a0, .int .i64 a1, .int .i64 a2, .int .i64 a3, .int .i64 a4, .int .i64 a5, .int .i64 a6, .int .i64 a7, .int .i64 a8, .bool a9], .slice A1 l1.length c1, .slice A2 l2.length c2, .int .i64 n] w fun e w' => e = .returned (.bool true) ∧ Below w.heap.size w w' :=
  law_of PlayL.ok ⟨l0, _, l1, l2, n, hw, rfl, rfl⟩ hG ⟨⟨C_pls hc0 hr0, rfl⟩, val_sg _, ⟨Safe.C_asks hc1 hr1, rfl⟩, ⟨Safe.C_asks hc2 hr2, rfl⟩, ⟨rfl, rfl⟩, trivial⟩
end Go.Proofs.YtpciieagafddcaaDoor.E
