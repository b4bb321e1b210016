/- stage.Run in the engine's words (own text). -/
import Derived.Test.YtechgjbhgeddjaaDoorQeEC
import Derived.Test.YtechgjbhgeddjaaDoorQeF16
namespace Go.Proofs.YtechgjbhgeddjaaDoor.E
open Go Go.RowKit Go.Proofs Go.Proofs.YtechgjbhgeddjaaDoorW.PrintWords Go.Proofs.YtechgjbhgeddjaaDoorW.PrintLast Go.Proofs.YtechgjbhgeddjaaDoorW.PrintMore Go.Proofs.YtechgjbhgeddjaaDoor.F
set_option linter.unusedVariables false
set_option linter.unusedSimpArgs false
section
variable {w : World} {I : Nat → Prop}
theorem S_of_reads {α : Type} {R : α → List Value → Prop} {sz : Nat} {xs : List α} {el : Nat → Nat → CV} {A : Option Addr} {c : Nat} (hI : ∀ (a : Addr), A = some a → I a.block)
    (hel : ∀ i x, xs[i]? = some x → ∀ us : List Value, R x us → ∀ j u, us[j]? = some u → (el i j).S w I u ∧ u.oneCell' = true)
    (hc : xs.length ≤ c) (h : ReadsRow R sz w A xs.length xs) : (CV.sl xs.length sz el).S w I (.slice A xs.length c) := by
  obtain ⟨h1, h2, h3⟩ := h
  refine ⟨A, c, rfl, hc, h2, fun i j hi hj => ?_⟩
  obtain ⟨a, rfl, h4⟩ := h3 (by omega)
  obtain ⟨us, h5, h6, h7⟩ := h4 i _ (List.getElem?_eq_getElem hi)
  have hu := List.getElem?_eq_getElem (show j < us.length by rw [h5]; exact hj)
  have := hel i _ (List.getElem?_eq_getElem hi) us h6 j _ hu
  exact ⟨a, _, rfl, hI a rfl, h7 j _ hu, this.1, this.2⟩
theorem R_ints {e base : Nat} {ok : Nat → Prop} {v : Value} {xs : List Int} (h : (Kd.int .i64).R e w base ok v xs) (hI : ∀ k, base ≤ k → k < w.heap.size → I k) : (cInts xs).S w I v ∧ v.oneCell' = true := by
  obtain ⟨h0, hrow⟩ := h
  obtain ⟨A, c, rfl, hc, hr⟩ := OwnRow.reads hrow
  obtain ⟨inner, ho, -⟩ := hrow
  refine ⟨S_of_reads (fun a ha => ?_) (fun i x hx us hK j u hu => ?_) hc hr, rfl⟩
  · subst ha
    exact hI _ (own_base ho a.block rfl) (own_lt ho a.block rfl)
  · have e : us = [.int .i64 x] := hK
    subst e
    rw [getD_some hx]
    match j, hu with
    | 0, hu => cases hu; exact ⟨rfl, rfl⟩
theorem R_rows {e e' base : Nat} {ok : Nat → Prop} {v : Value} {xs : List (List Int)} (h : (Kd.slice e' (Kd.int .i64)).R e w base ok v xs) (hI : ∀ k, base ≤ k → k < w.heap.size → I k) : (cRows xs).S w I v ∧ v.oneCell' = true := by
  obtain ⟨h0, hrow⟩ := h
  obtain ⟨A, c, rfl, hc, hr⟩ := OwnRow.reads hrow
  obtain ⟨inner, ho, -⟩ := hrow
  refine ⟨S_of_reads (fun a ha => ?_) (fun i x hx us hK j u hu => ?_) hc hr, rfl⟩
  · subst ha
    exact hI _ (own_base ho a.block rfl) (own_lt ho a.block rfl)
  · obtain ⟨y, rfl, hy⟩ := hK
    have := R_ints hy hI
    rw [getD_some hx]
    match j, hu with
    | 0, hu => cases hu; exact this
end
def fRun (s : Sg) (rows : List (List Int)) : FV := .tup [.agg (sgCells s), .one (cRows rows)]
def SpRun : Spec := .pure fun a r => ∃ l s n t rows, a = [fPls l, fSg s, fI n] ∧ r = fRun t rows ∧ Ev (fun k => stage_Run.f k l s.plan s.stage s.next s.phase s.t s.hold s.held s.ask s.want s.stop n) (PV.rn t rows)
theorem run_ok : SpecOk Tryd.prog 17 SpRun := by
  rintro args pre r post ⟨⟨l, s, n, t, rows, rfl, rfl, hev⟩, rfl, rfl⟩ c ys hgl hy hI hZ hpre hdj
  match ys, hy with
  | [y, z, x], ⟨hy, hz, hx, _⟩ =>
    obtain ⟨k, hk⟩ := hev.rounds
    obtain ⟨A, m, rfl, h1, h2⟩ := pls_val hy
    obtain rfl := sg_val hz
    have hx : x = .int .i64 n := hx.1
    subst hx
    refine (stage_Run.calls k A m l s.plan s.stage s.next s.phase s.t s.hold s.held s.ask s.want s.stop n t.plan t.stage t.next t.phase t.t t.hold t.held t.ask t.want t.stop rows c.w h2 h1 (glob_of hgl) hk).mono fun e w' ⟨v, he, hS, hb⟩ => ?_
    subst he
    have hr := R_rows (I := (cxN c w').I) (Kd.S_R hS) (fun k h1 h2 => .inr ⟨h1, h2⟩)
    exact ends_of hI hb ⟨[_, v], rfl, val_sg t, hr, trivial⟩
end Go.Proofs.YtechgjbhgeddjaaDoor.E
