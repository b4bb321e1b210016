/- StageRun walked by the engine (own text). -/
import Derived.Test.YtechgjbhgeddjaaDoorQeER
import Derived.Test.YtechgjbhgeddjaaDoorQeF3
namespace Go.Proofs.YtechgjbhgeddjaaDoor.E
open Go Go.RowKit Go.Proofs Go.Proofs.YtechgjbhgeddjaaDoorW.PrintWords Go.Proofs.YtechgjbhgeddjaaDoorW.PrintLast Go.Proofs.YtechgjbhgeddjaaDoorW.PrintMore Go.Proofs.YtechgjbhgeddjaaDoor.F
set_option linter.unusedVariables false
set_option linter.unusedSimpArgs false
set_option maxRecDepth 100000
set_option maxHeartbeats 8000000
attribute [local irreducible] acode callR
namespace Run
theorem wr64 {x : Int} (h0 : -9223372036854775808 ≤ x) (h1 : x ≤ 9223372036854775807) : IntKind.i64.wrap x = x := (i64_w x).trans (PG.wr h0 h1)
theorem fI_eq {a b : Int} (h : a = b) : some (fI a) = some (fI b) := by rw [h]
def fRows (x : List (List Int)) : FV := .t (.one (cRows x))
/-- Rows, of the same rows. -/
def SpRows : Spec := .pure fun a r => ∃ x : List (List Int), (x.length ≤ 1000 ∧ ∀ i, (x.getD i []).length ≤ 1000) ∧ a = [fRows x, fRows x] ∧ r = vB true
theorem rows_ok : SpecOk Tryd.prog 19 SpRows := by
  refine spec_of_code TYok ΓOk.nil mixed Tryd.func19 rfl ?_
  rintro args pre r post ⟨⟨x, ⟨hx, hy⟩, rfl, rfl⟩, rfl, rfl⟩
  refine ⟨rfl, ?_⟩
  repeat' (first | refine st_v rfl rfl rfl rfl (fun _ => rfl) rfl (fun _ => rfl) ?_ | refine st_skip rfl rfl rfl ?_ | refine st_b rfl rfl rfl rfl (fun _ => rfl) rfl (fun h1 => ?_) (fun h1 => ?_) | refine st_n rfl rfl rfl rfl (fun _ => rfl) rfl (fun _ => rfl) ?_ | refine st_s rfl rfl rfl rfl (fun _ => rfl) rfl (fun _ => rfl) ?_ | refine c_seq ?_ | refine c_region ?_ | refine c_plain rfl ?_ | refine c_drawn rfl (by kernel_rfl) ?_ | refine st_nil ?_ | refine c_norm ?_ | refine c_cret ?_ | refine c_ret ?_ | refine c_true rfl ?_ | refine c_false rfl ?_ | refine c_skip ?_ | refine c_block ?_ | refine c_bnorm ?_ | refine c_bret ?_ | refine c_bexit rfl ?_ | refine c_bpass rfl ?_ | refine c_exit ?_ | refine c_cexit ?_ | refine c_lret ?_ | refine c_lexit ?_ | fail)
  · exact absurd (by assumption : ((x.length : Int) != (x.length : Int)) = true) (by simp)
  refine c_loop (fun i : Nat => i ≤ x.length) (fun i => [(5, fI (i : Int)), (0, fRows x), (1, fRows x)]) (fun _ => []) (fun i => x.length - i) [] 0 (Nat.zero_le _) rfl ⟨rfl, rfl, rfl, rfl, rfl, rfl, trivial⟩ trivial rfl (fun i hi => ?_)
  repeat' (first | refine st_v rfl rfl rfl rfl (fun _ => rfl) rfl (fun _ => rfl) ?_ | refine st_skip rfl rfl rfl ?_ | refine st_b rfl rfl rfl rfl (fun _ => rfl) rfl (fun h1 => ?_) (fun h1 => ?_) | refine st_n rfl rfl rfl rfl (fun _ => rfl) rfl (fun _ => rfl) ?_ | refine st_s rfl rfl rfl rfl (fun _ => rfl) rfl (fun _ => rfl) ?_ | refine c_seq ?_ | refine c_region ?_ | refine c_plain rfl ?_ | refine c_drawn rfl (by kernel_rfl) ?_ | refine st_nil ?_ | refine c_norm ?_ | refine c_cret ?_ | refine c_ret ?_ | refine c_true rfl ?_ | refine c_false rfl ?_ | refine c_skip ?_ | refine c_block ?_ | refine c_bnorm ?_ | refine c_bret ?_ | refine c_bexit rfl ?_ | refine c_bpass rfl ?_ | refine c_exit ?_ | refine c_cexit ?_ | refine c_lret ?_ | refine c_lexit ?_ | refine st_pv rfl rfl rfl rfl (fun _ => rfl) (by clear hy; simp only [decide_eq_true_eq, decide_eq_false_iff_not, ge_iff_le, Int.not_lt, Int.not_le, Int.toNat_natCast] at *; omega) rfl (fun _ => rfl) ?_ | fail)
  all_goals try exact ⟨rfl, rfl, rfl, trivial⟩
  · have h2 : (((x.getD (i : Int).toNat []).length : Int) != ((x.getD (i : Int).toNat []).length : Int)) = true := by assumption
    exact absurd h2 (by simp)
  have hi' : i < x.length := by simp only [decide_eq_true_eq] at *; omega
  have hy' := hy i
  clear hy
  refine c_loop (fun g : Nat => g ≤ (x.getD i []).length) (fun g => [(6, fI (g : Int)), (5, fI (i : Int)), (0, fRows x), (1, fRows x)]) (fun _ => []) (fun g => (x.getD i []).length - g) [] 0 (Nat.zero_le _) rfl ⟨rfl, rfl, rfl, rfl, rfl, rfl, rfl, rfl, trivial⟩ trivial rfl (fun g hg => ?_)
  repeat' (first | refine st_v rfl rfl rfl rfl (fun _ => rfl) rfl (fun _ => rfl) ?_ | refine st_skip rfl rfl rfl ?_ | refine st_b rfl rfl rfl rfl (fun _ => rfl) rfl (fun h1 => ?_) (fun h1 => ?_) | refine st_n rfl rfl rfl rfl (fun _ => rfl) rfl (fun _ => rfl) ?_ | refine st_s rfl rfl rfl rfl (fun _ => rfl) rfl (fun _ => rfl) ?_ | refine c_seq ?_ | refine c_region ?_ | refine c_plain rfl ?_ | refine c_drawn rfl (by kernel_rfl) ?_ | refine st_nil ?_ | refine c_norm ?_ | refine c_cret ?_ | refine c_ret ?_ | refine c_true rfl ?_ | refine c_false rfl ?_ | refine c_skip ?_ | refine c_block ?_ | refine c_bnorm ?_ | refine c_bret ?_ | refine c_bexit rfl ?_ | refine c_bpass rfl ?_ | refine c_exit ?_ | refine c_cexit ?_ | refine c_lret ?_ | refine c_lexit ?_ | refine st_pv rfl rfl rfl rfl (fun _ => rfl) (by simp only [decide_eq_true_eq, decide_eq_false_iff_not, ge_iff_le, Int.not_lt, Int.not_le, Int.toNat_natCast] at *; omega) rfl (fun _ => rfl) ?_ | fail)
  · have h2 : (((x.getD (i : Int).toNat []).getD (g : Int).toNat 0) != ((x.getD (i : Int).toNat []).getD (g : Int).toNat 0)) = true := by assumption
    exact absurd h2 (by simp)
  · have hg' : g < (x.getD i []).length := by simp only [decide_eq_true_eq, decide_eq_false_iff_not, Int.toNat_natCast] at *; omega
    exact c_lnorm [] (g + 1) hg' (by show _ - (g + 1) < _ - g; omega) rfl ⟨fI_eq ((wr64 (by omega) (by omega)).trans (by omega : (g : Int) + 1 = ((g + 1 : Nat) : Int))), rfl, rfl, rfl, rfl, rfl, rfl, rfl, trivial⟩ trivial rfl
  · exact c_lnorm [] (i + 1) hi' (by show _ - (i + 1) < _ - i; omega) rfl ⟨fI_eq ((wr64 (by omega) (by omega)).trans (by omega : (i : Int) + 1 = ((i + 1 : Nat) : Int))), rfl, rfl, rfl, rfl, rfl, trivial⟩ trivial rfl
def SpAll : Spec := .pure fun a r => ∃ l, a = [fPls l] ∧ r = vB (PU.allB l)
theorem all_ok : SpecOk Tryd.prog 27 SpAll := by
  rintro args pre r post ⟨⟨l, rfl, rfl⟩, rfl, rfl⟩ c ys hgl hy hI hZ hpre hdj
  match ys, hy with
  | [y], ⟨hy, _⟩ =>
    obtain ⟨A, n, rfl, h1, h2⟩ := pls_val hy
    exact (plan_All.calls A n l (PU.allB l) c.w h2 h1 (glob_of hgl) rfl).mono fun e w' ⟨he, hb⟩ => by
      subst he
      exact ends_of hI hb ⟨rfl, rfl⟩
theorem app_rows (one two : List (List Int)) : FV.t (.one (.sl (one.length + two.length) 1 (appEl one.length (fun i _ => cInts (one.getD i [])) (fun i _ => cInts (two.getD i []))))) = fRows (one ++ two) := by
  unfold fRows cRows
  rw [List.length_append]
  have : appEl one.length (fun i _ => cInts (one.getD i [])) (fun i _ => cInts (two.getD i [])) = fun i _ => cInts ((one ++ two).getD i []) := by
    funext i j
    unfold appEl
    split
    · rename_i h
      show cInts (one.getD i []) = cInts ((one ++ two).getD i [])
      rw [List.getD_eq_getElem?_getD, List.getD_eq_getElem?_getD, List.getElem?_append_left h]
    · rename_i h
      show cInts (two.getD (i - one.length) []) = cInts ((one ++ two).getD i [])
      rw [List.getD_eq_getElem?_getD, List.getD_eq_getElem?_getD, List.getElem?_append_right (by omega)]
  rw [this]
theorem rows_len {l : List S39} : ∀ (n : Nat) {s : Sg}, PU.May l s → ∀ y ∈ PV.rowsN l n s, y.length ≤ 100
  | 0, s, _ => by intro y hy; cases hy
  | n + 1, s, h => by
    intro y hy
    rw [PV.rowsN] at hy
    have h2 := PU.tick_may h
    rcases List.mem_cons.1 hy with rfl | hy
    · have h3 := h2.rows.2.1
      have := PL.may_len h3
      omega
    · exact rows_len n h2 y hy
structure Facts (l : List S39) (s a c : Sg) (n k : Int) (one two : List (List Int)) : Prop where
  run1 : Ev (fun k => stage_Run.f k l s.plan s.stage s.next s.phase s.t s.hold s.held s.ask s.want s.stop n) (PV.rn a one)
  run2 : Ev (fun x => stage_Run.f x l a.plan a.stage a.next a.phase a.t a.hold a.held a.ask a.want a.stop k) (PV.rn c two)
  run3 : Ev (fun x => stage_Run.f x l s.plan s.stage s.next s.phase s.t s.hold s.held s.ask s.want s.stop (IntKind.i64.wrap (n + k))) (PV.rn c (one ++ two))
  len1 : (one.length : Int) ≤ n
  len2 : (two.length : Int) ≤ k
  row : ∀ y ∈ one ++ two, y.length ≤ 100
theorem facts {l : List S39} {s : Sg} {n k : Int} (hw : PU.Wf s) (h0 : 0 ≤ n) (h6 : n ≤ 60) (k0 : 0 ≤ k) (k6 : k ≤ 60) : ∃ a c one two, Facts l s a c n k one two := by
  have e : IntKind.i64.wrap (n + k) = n + k := wr64 (by omega) (by omega)
  cases hm : stage_mayB.f l s with
  | false =>
    have hno : ∀ z : Int, ¬ (stage_mayB.f l s = true ∧ 0 ≤ z ∧ z ≤ 2000) := fun z hz => by rw [hm] at hz; cases hz.1
    exact ⟨s, s, [], [], PV.run_none (hno n), PV.run_none (hno k), PV.run_none (hno _), by simpa using h0, by simpa using k0, fun y hy => by cases hy⟩
  | true =>
    have h := PU.may_of hw hm
    obtain ⟨n, rfl⟩ := Int.eq_ofNat_of_zero_le h0
    obtain ⟨k, rfl⟩ := Int.eq_ofNat_of_zero_le k0
    have hM := PV.tickN_may n h
    refine ⟨PV.tickN l n s, PV.tickN l k (PV.tickN l n s), PV.rowsN l n s, PV.rowsN l k (PV.tickN l n s), PV.run_ev h (by omega), PV.run_ev hM (by omega), ?_, ?_, ?_, fun y hy => ?_⟩
    · rw [e, ← PV.tickN_add, ← PV.rowsN_add]
      exact PV.run_ev h (n := n + k) (by omega)
    · rw [PV.rowsN_len]
      exact Int.le_refl _
    · rw [PV.rowsN_len]
      exact Int.le_refl _
    · rw [← PV.rowsN_add] at hy
      exact rows_len (n + k) h y hy
theorem ΓR : ΓOk Tryd.prog (look [(14, SpAwake), (15, SpFewAll), (27, SpAll), (17, SpRun), (19, SpRows)]) :=
  ((((ΓOk.nil.cons rows_ok Tryd.func19 (by kernel_rfl)).cons run_ok Tryd.func17 (by kernel_rfl)).cons all_ok Tryd.func27 (by kernel_rfl)).cons fewAll_ok Tryd.func15 (by kernel_rfl)).cons awake_ok Tryd.func14 (by kernel_rfl)
def SpLaw : List FV → FV → Prop := fun a r => ∃ l s n k, PU.Wf s ∧ a = [fPls l, fSg s, fI n, fI k] ∧ r = vB true
theorem ok : SpecOk Tryd.prog 7 (.pure SpLaw) := by
  refine spec_of_code TYok ΓR mixed Tryd.func7 rfl ?_
  rintro args pre r post ⟨⟨l, s, n, k, hw, rfl, rfl⟩, rfl, rfl⟩
  refine ⟨rfl, ?_⟩
  obtain ⟨few, hfew⟩ := PU.fewAll_ev l
  repeat' (first | refine st_v rfl rfl rfl rfl (fun _ => rfl) rfl (fun _ => rfl) ?_ | refine st_skip rfl rfl rfl ?_ | refine st_b rfl rfl rfl rfl (fun _ => rfl) rfl (fun h1 => ?_) (fun h1 => ?_) | refine st_n rfl rfl rfl rfl (fun _ => rfl) rfl (fun _ => rfl) ?_ | refine st_s rfl rfl rfl rfl (fun _ => rfl) rfl (fun _ => rfl) ?_ | refine c_seq ?_ | refine c_region ?_ | refine c_plain rfl ?_ | refine c_drawn rfl (by kernel_rfl) ?_ | refine st_nil ?_ | refine c_norm ?_ | refine c_cret ?_ | refine c_ret ?_ | refine c_true rfl ?_ | refine c_false rfl ?_ | refine c_skip ?_ | refine c_block ?_ | refine c_bnorm ?_ | refine c_bret ?_ | refine c_bexit rfl ?_ | refine c_bpass rfl ?_ | refine c_exit ?_ | refine c_cexit ?_ | refine c_lret ?_ | refine c_lexit ?_ | refine st_call rfl rfl rfl rfl rfl rfl rfl (call_v (vB true) rfl ⟨rfl, rfl⟩ rfl rfl rfl (cb_v rfl (fun _ => rfl) ?_)) | refine st_call rfl rfl rfl rfl rfl rfl rfl (call_v (vB few) rfl ⟨l, few, rfl, rfl, hfew⟩ rfl rfl rfl (cb_b rfl (fun h1 => ?_) (fun h1 => ?_))) | refine st_call rfl rfl rfl rfl rfl rfl rfl (call_v (vB (PU.allB l)) rfl ⟨l, rfl, rfl⟩ rfl rfl rfl (cb_b rfl (fun h1 => ?_) (fun h1 => ?_))) | fail)
  all_goals try exact ⟨rfl, rfl, rfl, trivial⟩
  have hn0 : 0 ≤ n := by clear hw hfew; simp only [decide_eq_true_eq, decide_eq_false_iff_not] at *; omega
  have hn6 : n ≤ 60 := by clear hw hfew; simp only [decide_eq_true_eq, decide_eq_false_iff_not, gt_iff_lt, Int.not_lt] at *; omega
  have hk0 : 0 ≤ k := by clear hw hfew; simp only [decide_eq_true_eq, decide_eq_false_iff_not] at *; omega
  have hk6 : k ≤ 60 := by clear hw hfew; simp only [decide_eq_true_eq, decide_eq_false_iff_not, gt_iff_lt, Int.not_lt] at *; omega
  obtain ⟨a, c, one, two, F⟩ := facts (l := l) hw hn0 hn6 hk0 hk6
  have hl1 := F.len1
  have hl2 := F.len2
  have hrow : (one ++ two).length ≤ 1000 ∧ ∀ i, ((one ++ two).getD i []).length ≤ 1000 := ⟨by rw [List.length_append]; omega, fun i => by
    by_cases hi : i < (one ++ two).length
    · rw [List.getD_eq_getElem?_getD, List.getElem?_eq_getElem hi]
      have := F.row _ (List.getElem_mem hi)
      show ((one ++ two)[i]).length ≤ 1000
      omega
    · rw [List.getD_eq_getElem?_getD, List.getElem?_eq_none (by omega)]
      exact Nat.zero_le _⟩
  repeat' (first | refine st_v rfl rfl rfl rfl (fun _ => rfl) rfl (fun _ => rfl) ?_ | refine st_skip rfl rfl rfl ?_ | refine st_b rfl rfl rfl rfl (fun _ => rfl) rfl (fun h1 => ?_) (fun h1 => ?_) | refine st_n rfl rfl rfl rfl (fun _ => rfl) rfl (fun _ => rfl) ?_ | refine st_s rfl rfl rfl rfl (fun _ => rfl) rfl (fun _ => rfl) ?_ | refine c_seq ?_ | refine c_region ?_ | refine c_plain rfl ?_ | refine c_drawn rfl (by kernel_rfl) ?_ | refine st_nil ?_ | refine c_norm ?_ | refine c_cret ?_ | refine c_ret ?_ | refine c_true rfl ?_ | refine c_false rfl ?_ | refine c_skip ?_ | refine c_block ?_ | refine c_bnorm ?_ | refine c_bret ?_ | refine c_bexit rfl ?_ | refine c_bpass rfl ?_ | refine c_exit ?_ | refine c_cexit ?_ | refine c_lret ?_ | refine c_lexit ?_ | refine st_call rfl rfl rfl rfl rfl rfl rfl (call_s (fRun a one) rfl ⟨l, s, _, a, one, rfl, rfl, F.run1⟩ rfl rfl rfl rfl (cb_v rfl (fun _ => rfl) ?_)) | refine st_call rfl rfl rfl rfl rfl rfl rfl (call_s (fRun c two) rfl ⟨l, a, _, c, two, rfl, rfl, F.run2⟩ rfl rfl rfl rfl (cb_v rfl (fun _ => rfl) ?_)) | refine st_call rfl rfl rfl rfl rfl rfl rfl (call_s (fRun c (one ++ two)) rfl ⟨l, s, _, c, one ++ two, rfl, rfl, F.run3⟩ rfl rfl rfl rfl (cb_v rfl (fun _ => rfl) ?_)) | refine st_call rfl rfl rfl rfl rfl rfl rfl (call_v (vB true) rfl ⟨one ++ two, hrow, congrArg (fun b => [fRows (one ++ two), b]) (app_rows one two), rfl⟩ rfl rfl rfl (cb_v rfl (fun _ => rfl) ?_)) | refine st_pn rfl rfl rfl rfl (fun _ => rfl) (by show one.length * 24 ≤ 140737488355328; omega) rfl (fun _ => rfl) ?_ | refine st_pn2 rfl rfl rfl rfl (fun _ => rfl) (by show one.length + two.length ≤ 9223372036854775807 ∧ (one.length + two.length) * 24 ≤ 140737488355328; omega) rfl (fun _ => rfl) ?_ | fail)
  all_goals try exact ⟨rfl, rfl, rfl, trivial⟩
  · have h2 : decide (((one ++ two).length : Int) ≤ IntKind.i64.wrap (n + k)) = false := by assumption
    rw [wr64 (by omega) (by omega), List.length_append] at h2
    exact absurd (of_decide_eq_false h2) (by omega)
  · exact absurd (by assumption : eqV _ _ = false) (by simp [eqV])
end Run
theorem StageRun_calls (A0 : Option Addr) (c0 : Nat) (l0 : List S39) (a0 a1 a2 a3 a4 a5 a6 a7 a8 : Int) (a9 : Bool) (n k : Int) (w : World) (hr0 : k39.C w A0 l0.length l0) (hc0 : l0.length ≤ c0) (hG : GlobOk w) (hw : PU.Wf ⟨a0, a1, a2, a3, a4, a5, a6, a7, a8, a9⟩) :
    Calls Tryd.prog 7 #[.slice A0 l0.length c0, .agg #[.int .i64 a0, .int .i64 a1, .int .i64 a2, .int .i64 a3, .int .i64 a4, .int .i64 a5, .int .i64 a6, .int .i64 a7, .int .i64 a8, .bool a9], .int .i64 n, .int .i64 k] w fun e w' => e = .returned (.bool true) ∧ Below w.heap.size w w' :=
  law_of Run.ok ⟨l0, _, n, k, hw, rfl, rfl⟩ hG ⟨⟨C_pls hc0 hr0, rfl⟩, val_sg _, ⟨rfl, rfl⟩, ⟨rfl, rfl⟩, trivial⟩
end Go.Proofs.YtechgjbhgeddjaaDoor.E
