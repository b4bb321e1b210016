/- Fresh rows, in the engine's words (own text). -/
import Derived.Test.YtechgjbhgeddjaaDoorQsEB
import Derived.Test.YtechgjbhgeddjaaDoorQsPG
namespace Go.Proofs.YtechgjbhgeddjaaDoor.E
open Go Go.RowKit Go.Proofs Go.Proofs.YtechgjbhgeddjaaDoorW.PrintWords Go.Proofs.YtechgjbhgeddjaaDoorW.PrintLast Go.Proofs.YtechgjbhgeddjaaDoorW.PrintMore Go.Proofs.YtechgjbhgeddjaaDoor.F
set_option linter.unusedVariables false
set_option linter.unusedSimpArgs false
section
variable {w : World} {I : Nat → Prop}
theorem S_of_reads {α : Type} {R : α → List Value → Prop} {sz : Nat} {xs : List α} {el : Nat → Nat → CV} {A : Option Addr} {c : Nat} (hI : ∀ (a : Addr), A = some a → I a.block)
    (hel : ∀ i x, xs[i]? = some x → ∀ us : List Value, R x us → ∀ j u, us[j]? = some u → (el i j).S w I u ∧ u.oneCell' = true)
    (hc : xs.length ≤ c) (h : ReadsRow R sz w A xs.length xs) : (CV.sl xs.length sz el).S w I (.slice A xs.length c) := by
  obtain ⟨h1, h2, h3⟩ := h
  refine ⟨A, c, rfl, hc, h2, fun i j hi hj => ?_⟩
  obtain ⟨a, rfl, h4⟩ := h3 (by omega)
  obtain ⟨us, h5, h6, h7⟩ := h4 i _ (List.getElem?_eq_getElem hi)
  have hu := List.getElem?_eq_getElem (show j < us.length by rw [h5]; exact hj)
  have := hel i _ (List.getElem?_eq_getElem hi) us h6 j _ hu
  exact ⟨a, _, rfl, hI a rfl, h7 j _ hu, this.1, this.2⟩
theorem R_ints {e base : Nat} {ok : Nat → Prop} {v : Value} {xs : List Int} (h : (Kd.int .i64).R e w base ok v xs) (hI : ∀ k, base ≤ k → k < w.heap.size → I k) : (cInts xs).S w I v ∧ v.oneCell' = true := by
  obtain ⟨h0, hrow⟩ := h
  obtain ⟨A, c, rfl, hc, hr⟩ := OwnRow.reads hrow
  obtain ⟨inner, ho, -⟩ := hrow
  refine ⟨S_of_reads (fun a ha => ?_) (fun i x hx us hK j u hu => ?_) hc hr, rfl⟩
  · subst ha
    exact hI _ (own_base ho a.block rfl) (own_lt ho a.block rfl)
  · have e : us = [.int .i64 x] := hK
    subst e
    rw [getD_some hx]
    match j, hu with
    | 0, hu => cases hu; exact ⟨rfl, rfl⟩
end
end Go.Proofs.YtechgjbhgeddjaaDoor.E
/- Rows of lamps that are the same, walked by the engine (own text). -/
namespace Go.Proofs.YtechgjbhgeddjaaDoor.E
open Go Go.RowKit Go.Proofs Go.Proofs.YtechgjbhgeddjaaDoorW.PrintWords Go.Proofs.YtechgjbhgeddjaaDoorW.PrintLast Go.Proofs.YtechgjbhgeddjaaDoorW.PrintMore Go.Proofs.YtechgjbhgeddjaaDoor.F
set_option linter.unusedVariables false
set_option linter.unusedSimpArgs false
set_option maxRecDepth 100000
set_option maxHeartbeats 8000000
attribute [local irreducible] acode callR
namespace Rw
theorem wr64 {x : Int} (h0 : -9223372036854775808 ≤ x) (h1 : x ≤ 9223372036854775807) : IntKind.i64.wrap x = x := (i64_w x).trans (PG.wr h0 h1)
theorem fI_eq {a b : Int} (h : a = b) : some (fI a) = some (fI b) := by rw [h]
def fRows (x : List (List Int)) : FV := .t (.one (cRows x))
/-- Rows, of the same rows. -/
def SpRows : Spec := .pure fun a r => ∃ x : List (List Int), (x.length ≤ 1000 ∧ ∀ i, (x.getD i []).length ≤ 1000) ∧ a = [fRows x, fRows x] ∧ r = vB true
theorem rows_ok : SpecOk Tryd.prog 19 SpRows := by
  refine spec_of_code TYok ΓOk.nil mixed Tryd.func19 rfl ?_
  rintro args pre r post ⟨⟨x, ⟨hx, hy⟩, rfl, rfl⟩, rfl, rfl⟩
  refine ⟨rfl, ?_⟩
  repeat' (first | refine st_v rfl rfl rfl rfl (fun _ => rfl) rfl (fun _ => rfl) ?_ | refine st_skip rfl rfl rfl ?_ | refine st_b rfl rfl rfl rfl (fun _ => rfl) rfl (fun h1 => ?_) (fun h1 => ?_) | refine st_n rfl rfl rfl rfl (fun _ => rfl) rfl (fun _ => rfl) ?_ | refine st_s rfl rfl rfl rfl (fun _ => rfl) rfl (fun _ => rfl) ?_ | refine c_seq ?_ | refine c_region ?_ | refine c_plain rfl ?_ | refine c_drawn rfl (by kernel_rfl) ?_ | refine st_nil ?_ | refine c_norm ?_ | refine c_cret ?_ | refine c_ret ?_ | refine c_true rfl ?_ | refine c_false rfl ?_ | refine c_skip ?_ | refine c_block ?_ | refine c_bnorm ?_ | refine c_bret ?_ | refine c_bexit rfl ?_ | refine c_bpass rfl ?_ | refine c_exit ?_ | refine c_cexit ?_ | refine c_lret ?_ | refine c_lexit ?_ | refine c_scope ?_ | refine c_label ?_ | refine c_snorm ?_ | refine c_sret ?_ | refine c_sexit ?_ | fail)
  · exact absurd (by assumption : ((x.length : Int) != (x.length : Int)) = true) (by simp)
  refine c_loop (fun i : Nat => i ≤ x.length) (fun i => [(5, fI (i : Int)), (0, fRows x), (1, fRows x)]) (fun _ => []) (fun i => x.length - i) [] 0 (Nat.zero_le _) rfl ⟨rfl, rfl, rfl, rfl, rfl, rfl, trivial⟩ trivial rfl (fun i hi => ?_)
  repeat' (first | refine st_v rfl rfl rfl rfl (fun _ => rfl) rfl (fun _ => rfl) ?_ | refine st_skip rfl rfl rfl ?_ | refine st_b rfl rfl rfl rfl (fun _ => rfl) rfl (fun h1 => ?_) (fun h1 => ?_) | refine st_n rfl rfl rfl rfl (fun _ => rfl) rfl (fun _ => rfl) ?_ | refine st_s rfl rfl rfl rfl (fun _ => rfl) rfl (fun _ => rfl) ?_ | refine c_seq ?_ | refine c_region ?_ | refine c_plain rfl ?_ | refine c_drawn rfl (by kernel_rfl) ?_ | refine st_nil ?_ | refine c_norm ?_ | refine c_cret ?_ | refine c_ret ?_ | refine c_true rfl ?_ | refine c_false rfl ?_ | refine c_skip ?_ | refine c_block ?_ | refine c_bnorm ?_ | refine c_bret ?_ | refine c_bexit rfl ?_ | refine c_bpass rfl ?_ | refine c_exit ?_ | refine c_cexit ?_ | refine c_lret ?_ | refine c_lexit ?_ | refine c_scope ?_ | refine c_label ?_ | refine c_snorm ?_ | refine c_sret ?_ | refine c_sexit ?_ | refine st_pv rfl rfl rfl rfl (fun _ => rfl) (by clear hy; simp only [decide_eq_true_eq, decide_eq_false_iff_not, ge_iff_le, Int.not_lt, Int.not_le, Int.toNat_natCast] at *; omega) rfl (fun _ => rfl) ?_ | fail)
  all_goals try exact ⟨rfl, rfl, rfl, trivial⟩
  · have h2 : (((x.getD (i : Int).toNat []).length : Int) != ((x.getD (i : Int).toNat []).length : Int)) = true := by assumption
    exact absurd h2 (by simp)
  have hi' : i < x.length := by simp only [decide_eq_true_eq] at *; omega
  have hy' := hy i
  clear hy
  refine c_loop (fun g : Nat => g ≤ (x.getD i []).length) (fun g => [(6, fI (g : Int)), (5, fI (i : Int)), (0, fRows x), (1, fRows x)]) (fun _ => []) (fun g => (x.getD i []).length - g) [] 0 (Nat.zero_le _) rfl ⟨rfl, rfl, rfl, rfl, rfl, rfl, rfl, rfl, trivial⟩ trivial rfl (fun g hg => ?_)
  repeat' (first | refine st_v rfl rfl rfl rfl (fun _ => rfl) rfl (fun _ => rfl) ?_ | refine st_skip rfl rfl rfl ?_ | refine st_b rfl rfl rfl rfl (fun _ => rfl) rfl (fun h1 => ?_) (fun h1 => ?_) | refine st_n rfl rfl rfl rfl (fun _ => rfl) rfl (fun _ => rfl) ?_ | refine st_s rfl rfl rfl rfl (fun _ => rfl) rfl (fun _ => rfl) ?_ | refine c_seq ?_ | refine c_region ?_ | refine c_plain rfl ?_ | refine c_drawn rfl (by kernel_rfl) ?_ | refine st_nil ?_ | refine c_norm ?_ | refine c_cret ?_ | refine c_ret ?_ | refine c_true rfl ?_ | refine c_false rfl ?_ | refine c_skip ?_ | refine c_block ?_ | refine c_bnorm ?_ | refine c_bret ?_ | refine c_bexit rfl ?_ | refine c_bpass rfl ?_ | refine c_exit ?_ | refine c_cexit ?_ | refine c_lret ?_ | refine c_lexit ?_ | refine c_scope ?_ | refine c_label ?_ | refine c_snorm ?_ | refine c_sret ?_ | refine c_sexit ?_ | refine st_pv rfl rfl rfl rfl (fun _ => rfl) (by simp only [decide_eq_true_eq, decide_eq_false_iff_not, ge_iff_le, Int.not_lt, Int.not_le, Int.toNat_natCast] at *; omega) rfl (fun _ => rfl) ?_ | fail)
  · have h2 : (((x.getD (i : Int).toNat []).getD (g : Int).toNat 0) != ((x.getD (i : Int).toNat []).getD (g : Int).toNat 0)) = true := by assumption
    exact absurd h2 (by simp)
  · have hg' : g < (x.getD i []).length := by simp only [decide_eq_true_eq, decide_eq_false_iff_not, Int.toNat_natCast] at *; omega
    exact c_lnorm [] (g + 1) hg' (by show _ - (g + 1) < _ - g; omega) rfl ⟨fI_eq ((wr64 (by omega) (by omega)).trans (by omega : (g : Int) + 1 = ((g + 1 : Nat) : Int))), rfl, rfl, rfl, rfl, rfl, rfl, rfl, trivial⟩ trivial rfl
  · exact c_lnorm [] (i + 1) hi' (by show _ - (i + 1) < _ - i; omega) rfl ⟨fI_eq ((wr64 (by omega) (by omega)).trans (by omega : (i : Int) + 1 = ((i + 1 : Nat) : Int))), rfl, rfl, rfl, rfl, rfl, trivial⟩ trivial rfl
theorem S_el {w : World} {I : Nat → Prop} {n sz : Nat} {el el' : Nat → Nat → CV} {y : Value} (h : (CV.sl n sz el).S w I y) (he : ∀ i j, i < n → j < sz → el i j = el' i j) : (CV.sl n sz el').S w I y := by
  obtain ⟨A, c, rfl, h1, h2, h3⟩ := h
  refine ⟨A, c, rfl, h1, h2, fun i j hi hj => ?_⟩
  obtain ⟨a, u, h4, h5, h6, h7, h8⟩ := h3 i j hi hj
  exact ⟨a, u, h4, h5, h6, by rw [← he i j hi hj]; exact h7, h8⟩
theorem SpecOk.pre {P : Program} {f : Nat} {G G' : List FV → FV → Prop} (h : SpecOk P f (.pure G)) (hw : ∀ a r, G' a r → ∃ b, G b r ∧ ∀ (c : Cx) ys, all2 (FV.R c) a ys → all2 (FV.R c) b ys) : SpecOk P f (.pure G') := by
  rintro args pre r post ⟨hG, rfl, rfl⟩ c ys hgl hy hI hZ hpre hdj
  obtain ⟨b, h1, h2⟩ := hw _ _ hG
  exact h b [] r [] ⟨h1, rfl, rfl⟩ c ys hgl (h2 c ys hy) hI hZ hpre hdj
def slF (n : Nat) (el : Nat → Nat → CV) : FV := .t (.one (.sl n 1 el))
/-- Rows, of rows that are the same. -/
def SpRowsG : List FV → FV → Prop := fun a r => ∃ (x : List (List Int)) (el el' : Nat → Nat → CV), (x.length ≤ 1000 ∧ ∀ i, (x.getD i []).length ≤ 1000) ∧ a = [slF x.length el, slF x.length el'] ∧ r = vB true ∧ ∀ i, i < x.length → el i 0 = cInts (x.getD i []) ∧ el' i 0 = cInts (x.getD i [])
theorem rowsG_ok : SpecOk Tryd.prog 19 (.pure SpRowsG) := by
  refine SpecOk.pre rows_ok ?_
  rintro a r ⟨x, el, el', hb, rfl, rfl, he⟩
  refine ⟨[fRows x, fRows x], ⟨x, hb, rfl, rfl⟩, fun c ys h => ?_⟩
  match ys, h with
  | [y, z], ⟨⟨h1, h2⟩, ⟨h3, h4⟩, _⟩ =>
    exact ⟨⟨S_el h1 (fun i j hi hj => by rw [show j = 0 by omega]; exact (he i hi).1), h2⟩, ⟨S_el h3 (fun i j hi hj => by rw [show j = 0 by omega]; exact (he i hi).2), h4⟩, trivial⟩
end Rw
end Go.Proofs.YtechgjbhgeddjaaDoor.E
