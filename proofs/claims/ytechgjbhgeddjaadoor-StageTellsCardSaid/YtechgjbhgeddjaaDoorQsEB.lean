/- What stays, in the engine's words and in the print's: from each to the other (own text). -/
import Derived.Test.YtechgjbhgeddjaaDoorQsEd
import Derived.Test.YtechgjbhgeddjaaDoorQsSp
namespace Go.Proofs.YtechgjbhgeddjaaDoor.E
open Go Go.RowKit Go.Proofs Go.Proofs.YtechgjbhgeddjaaDoorW.PrintWords Go.Proofs.YtechgjbhgeddjaaDoorW.PrintLast Go.Proofs.YtechgjbhgeddjaaDoorW.PrintMore Go.Proofs.YtechgjbhgeddjaaDoor.F
set_option linter.unusedVariables false
set_option linter.unusedSimpArgs false
def cI (n : Int) : CV := .v (.int .i64 n)
def cInts (l : List Int) : CV := .sl l.length 1 fun i _ => cI (l.getD i 0)
def cRows (l : List (List Int)) : CV := .sl l.length 1 fun i _ => cInts (l.getD i [])
def stgCells (s : S41) : List CV := [cI s.f0, cI s.f1, cI s.f2]
def cStgs (l : List S41) : CV := .sl l.length 3 fun i j => (stgCells (l.getD i z41)).getD j (.v undef)
def plCells (p : S39) : List CV := [cInts p.f0, cStgs p.f1, cI p.f2, cI p.f3, cI p.f4]
def cPls (l : List S39) : CV := .sl l.length 5 fun i j => (plCells (l.getD i z39)).getD j (.v undef)
def sgCells (s : Sg) : List CV := [cI s.plan, cI s.stage, cI s.next, cI s.phase, cI s.t, cI s.hold, cI s.held, cI s.ask, cI s.want, .v (.bool s.stop)]
def fI (n : Int) : FV := .t (.one (cI n))
def fPl (p : S39) : FV := .t (.agg (plCells p))
def fSg (s : Sg) : FV := .t (.agg (sgCells s))
def fPls (l : List S39) : FV := .t (.one (cPls l))
theorem ret_b {b c : Bool} (h : b = c) : some (vB b) = some (vB c) := by rw [h]
section
variable {w : World} {I : Nat → Prop}
/-- A row that stays is a row that is read. -/
theorem C_of_S {α : Type} {d : Kd α} {xs : List α} {el : Nat → Nat → CV} {A : Option Addr} {c : Nat}
    (hel : ∀ i x, xs[i]? = some x → ∀ us : List Value, us.length = d.sz → (∀ j u, us[j]? = some u → (el i j).S w I u) → d.K w x us)
    (h : (CV.sl xs.length d.sz el).S w I (.slice A xs.length c)) (hs : 0 < d.sz) : xs.length ≤ c ∧ d.C w A xs.length xs := by
  obtain ⟨A', c', he, h1, h2, h3⟩ := h
  injection he with e1 e2 e3
  subst e1 e3
  refine ⟨h1, rfl, h2, fun hn => ?_⟩
  obtain ⟨a, u, rfl, -⟩ := h3 0 0 hn hs
  refine ⟨a, rfl, fun i x hx => ?_⟩
  have hi : i < xs.length := (List.getElem?_eq_some_iff.1 hx).1
  have hcell : ∀ j, j < d.sz → ∃ u, w.cell? (a.add (i * d.sz + j)) = some u ∧ (el i j).S w I u := fun j hj => by
    obtain ⟨a', u, h4, h5, h6, h7, h8⟩ := h3 i j hi hj
    cases h4
    exact ⟨u, h6, h7⟩
  let us : List Value := (List.range d.sz).map fun j => (w.cell? (a.add (i * d.sz + j))).getD undef
  have hus : ∀ j u, us[j]? = some u → w.cell? (a.add (i * d.sz + j)) = some u ∧ (el i j).S w I u := fun j u hj => by
    have hjl : j < d.sz := by have := (List.getElem?_eq_some_iff.1 hj).1; simpa [us] using this
    obtain ⟨v, h4, h5⟩ := hcell j hjl
    simp [us, hjl, h4] at hj
    subst hj
    exact ⟨h4, h5⟩
  exact ⟨us, by simp [us], hel i x hx us (by simp [us]) (fun j u hj => (hus j u hj).2), fun j u hj => (hus j u hj).1⟩
theorem S_slice {n sz : Nat} {el : Nat → Nat → CV} {y : Value} (h : (CV.sl n sz el).S w I y) : ∃ A c, y = .slice A n c := by
  obtain ⟨A, c, rfl, -⟩ := h
  exact ⟨A, c, rfl⟩
/-- A row that is read stays, where its blocks stay. -/
theorem S_of_C {α : Type} {d : Kd α} {xs : List α} {el : Nat → Nat → CV} {A : Option Addr} {c : Nat} (hI : ∀ (a : Addr) u, A = some a → (∃ k, w.cell? (a.add k) = some u) → I a.block)
    (hel : ∀ i x, xs[i]? = some x → ∀ us : List Value, d.K w x us → ∀ j u, us[j]? = some u → (el i j).S w I u)
    (hc : xs.length ≤ c) (h : d.C w A xs.length xs) : (CV.sl xs.length d.sz el).S w I (.slice A xs.length c) := by
  obtain ⟨h1, h2, h3⟩ := h
  refine ⟨A, c, rfl, hc, h2, fun i j hi hj => ?_⟩
  obtain ⟨a, rfl, h4⟩ := h3 (by omega)
  obtain ⟨us, h5, h6, h7⟩ := h4 i _ (List.getElem?_eq_getElem hi)
  have hj' : j < us.length := by rw [h5]; exact hj
  have hu := List.getElem?_eq_getElem hj'
  exact ⟨a, us[j], rfl, hI a _ rfl ⟨_, h7 j _ hu⟩, h7 j _ hu, hel i _ (List.getElem?_eq_getElem hi) us h6 j _ hu, d.K_one h6 _ (List.getElem_mem hj')⟩
theorem getD_some {α : Type} {l : List α} {i : Nat} {x z : α} (h : l[i]? = some x) : l.getD i z = x := by rw [List.getD_eq_getElem?_getD, h]; rfl
theorem int_C {l : List Int} {A : Option Addr} {c : Nat} (h : (cInts l).S w I (.slice A l.length c)) : l.length ≤ c ∧ (Kd.int .i64).C w A l.length l :=
  C_of_S (d := Kd.int .i64) (fun i x hx us hl hu => by
    match us, hl with
    | [u], _ =>
      have := hu 0 u rfl
      rw [getD_some hx] at this
      have e : u = .int .i64 x := this
      subst e
      rfl) h (by decide)
theorem stg_C {l : List S41} {A : Option Addr} {c : Nat} (h : (cStgs l).S w I (.slice A l.length c)) : l.length ≤ c ∧ k41.C w A l.length l :=
  C_of_S (d := k41) (fun i x hx us hl hu => by
    match us, hl with
    | [u, v, z], _ =>
      have h0 : u = .int .i64 x.f0 := by have := hu 0 u rfl; rw [getD_some hx] at this; exact this
      have h1 : v = .int .i64 x.f1 := by have := hu 1 v rfl; rw [getD_some hx] at this; exact this
      have h2 : z = .int .i64 x.f2 := by have := hu 2 z rfl; rw [getD_some hx] at this; exact this
      subst h0 h1 h2
      exact k41_mk w x) h (by decide)
theorem pls_C {l : List S39} {A : Option Addr} {c : Nat} (h : (cPls l).S w I (.slice A l.length c)) : l.length ≤ c ∧ k39.C w A l.length l :=
  C_of_S (d := k39) (fun i x hx us hl hu => by
    match us, hl with
    | [u0, u1, u2, u3, u4], _ =>
      have h0 : (cInts x.f0).S w I u0 := by have := hu 0 u0 rfl; rw [getD_some hx] at this; exact this
      have h1 : (cStgs x.f1).S w I u1 := by have := hu 1 u1 rfl; rw [getD_some hx] at this; exact this
      have h2 : u2 = .int .i64 x.f2 := by have := hu 2 u2 rfl; rw [getD_some hx] at this; exact this
      have h3 : u3 = .int .i64 x.f3 := by have := hu 3 u3 rfl; rw [getD_some hx] at this; exact this
      have h4 : u4 = .int .i64 x.f4 := by have := hu 4 u4 rfl; rw [getD_some hx] at this; exact this
      subst h2 h3 h4
      obtain ⟨A0, c0, rfl⟩ := S_slice h0
      obtain ⟨A1, c1, rfl⟩ := S_slice h1
      have g0 := int_C h0
      have g1 := stg_C h1
      exact k39_mk w x g0.1 g0.2 g1.1 g1.2) h (by decide)
/-- Blocks of a world. -/
abbrev Old (w : World) : Nat → Prop := fun k => k < w.heap.size
theorem old_I {A : Option Addr} (a : Addr) (u : Value) (_ : A = some a) (h : ∃ k, w.cell? (a.add k) = some u) : Old w a.block := by
  obtain ⟨k, h⟩ := h
  have := World.block_lt_of_cell? w _ h
  rwa [add_block] at this
theorem C_int {l : List Int} {A : Option Addr} {c : Nat} (hI : ∀ (a : Addr) u, A = some a → (∃ k, w.cell? (a.add k) = some u) → I a.block) (hc : l.length ≤ c) (h : (Kd.int .i64).C w A l.length l) : (cInts l).S w I (.slice A l.length c) :=
  S_of_C (d := Kd.int .i64) hI (fun i x hx us hK j u hu => by
    have e : us = [.int .i64 x] := hK
    subst e
    rw [getD_some hx]
    match j, hu with
    | 0, hu => cases hu; rfl) hc h
theorem C_stg {l : List S41} {A : Option Addr} {c : Nat} (hI : ∀ (a : Addr) u, A = some a → (∃ k, w.cell? (a.add k) = some u) → I a.block) (hc : l.length ≤ c) (h : k41.C w A l.length l) : (cStgs l).S w I (.slice A l.length c) :=
  S_of_C (d := k41) hI (fun i x hx us hK j u hu => by
    obtain rfl := k41_open hK
    rw [getD_some hx]
    match j, hu with
    | 0, hu => cases hu; rfl
    | 1, hu => cases hu; rfl
    | 2, hu => cases hu; rfl) hc h
theorem C_pls {l : List S39} {A : Option Addr} {c : Nat} (hc : l.length ≤ c) (h : k39.C w A l.length l) : (cPls l).S w (Old w) (.slice A l.length c) :=
  S_of_C (d := k39) old_I (fun i x hx us hK j u hu => by
    obtain ⟨A0, c0, A1, c1, rfl, h0, h1, h2, h3⟩ := k39_open hK
    rw [getD_some hx]
    match j, hu with
    | 0, hu => cases hu; exact C_int old_I h0 h1
    | 1, hu => cases hu; exact C_stg old_I h2 h3
    | 2, hu => cases hu; rfl
    | 3, hu => cases hu; rfl
    | 4, hu => cases hu; rfl) hc h
end
theorem glob_of {c : Cx} (h : GlOk c) : GlobOk c.w := fun j hj => by
  obtain ⟨-, h2⟩ := h 2 _ List.mem_cons_self
  have hm : (Lib.deBruijn64tab.map fun n : Nat => Value.int .u8 (n : Int))[j]? = some (.int .u8 ((Lib.deBruijn64tab.getD j 0 : Nat) : Int)) := by
    rw [List.getElem?_map, List.getElem?_eq_getElem hj, List.getD_eq_getElem?_getD, List.getElem?_eq_getElem hj]
    rfl
  exact (h2 j _ hm).1
theorem of_glob {w : World} (h : GlobOk w) {ρ : Nat → Option Value} : GlOk ⟨w, Old w, ρ⟩ := fun g l hl => by
  have hl' : (g, l) = ((2, Lib.deBruijn64tab.map fun n : Nat => Value.int .u8 (n : Int)) : Nat × List Value) := List.mem_singleton.1 hl
  injection hl' with e1 e2
  subst e1 e2
  refine ⟨h.lt, fun j u hj => ?_⟩
  have hj' : j < Lib.deBruijn64tab.length := by have := (List.getElem?_eq_some_iff.1 hj).1; simpa using this
  rw [List.getElem?_map, List.getElem?_eq_getElem hj'] at hj
  cases hj
  have := h j hj'
  rw [List.getD_eq_getElem?_getD, List.getElem?_eq_getElem hj'] at this
  exact ⟨this, rfl⟩
/-- Behind a call that leaves what was: the new blocks stay. -/
def cxN (c : Cx) (w' : World) : Cx := ⟨w', fun k => c.I k ∨ (c.w.heap.size ≤ k ∧ k < w'.heap.size), c.ρ⟩
theorem ends_of {c : Cx} {w' : World} {r : FV} {y : Value} (hI : ∀ k, c.I k → k < c.w.heap.size) (hb : Below c.w.heap.size c.w w') (hr : r.R (cxN c w') y) : ∃ c' y', Ending.returned y = .returned y' ∧ c'.w = w' ∧ Ends c [] r [] c' y' :=
  ⟨cxN c w', y, rfl, rfl, hr, ⟨fun _ h => .inl h, fun k hk => hb.block k (hI k hk), fun _ _ h => h⟩, rfl, fun k hk => hk.elim (fun h => ⟨Nat.lt_of_lt_of_le (hI k h) hb.size, .inl h⟩) (fun h => ⟨h.2, .inr h.1⟩), hb.os, hb.tape, hb.output, hb.size, rfl, fun _ _ h => by simp at h, fun k hk _ => hb.block k hk⟩
/-- A law's own contract, out of what the engine says. -/
theorem law_of {f : Nat} {G : List FV → FV → Prop} {args : List FV} {ys : List Value} {w : World} {b : Bool} (h : SpecOk Tryd.prog f (.pure G)) (hG : G args (vB b)) (hg : GlobOk w) (hy : all2 (FV.R ⟨w, Old w, fun _ => none⟩) args ys) :
    Calls Tryd.prog f ys.toArray w fun e w' => e = .returned (.bool b) ∧ Below w.heap.size w w' :=
  (h args [] (vB b) [] ⟨hG, rfl, rfl⟩ ⟨w, Old w, fun _ => none⟩ ys (of_glob hg) hy (fun _ h => h) (fun _ _ => rfl) (fun _ _ h => by simp at h) (fun _ _ h => by simp at h)).mono fun e w' ⟨c', y, he, hw, hE⟩ => by
    subst hw
    obtain ⟨hr, hx, -, -, hos, htape, hout, hsz, -, -, hfx⟩ := hE
    have hy : y = .bool b := hr.1
    subst hy
    exact ⟨he, ⟨hos, htape, hout, hsz, fun k hk => hfx k hk (fun j hj => by simp at hj)⟩⟩
end Go.Proofs.YtechgjbhgeddjaaDoor.E
