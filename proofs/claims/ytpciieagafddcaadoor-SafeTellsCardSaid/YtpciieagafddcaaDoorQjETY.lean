/- The types that the walked functions name, as the engine's table (written by wip/eng/mkeng.py). -/
import Derived.Test.YtpciieagafddcaaDoorQjEd
import Derived.Test.YtpciieagafddcaaDoorProg
import Derived.Test.YtpciieagafddcaaDoorQjSp
namespace Go.Proofs.YtpciieagafddcaaDoor.E
open Go Go.RowKit Go.Proofs
def TY : TT := [
(1, ⟨.other, 1, 8, [.nilFunc]⟩),
(2, ⟨.int .i64, 1, 8, [.int .i64 0]⟩),
(3, ⟨.int .i64, 1, 8, [.int .i64 0]⟩),
(4, ⟨.bool, 1, 1, [.bool false]⟩),
(5, ⟨.int .u8, 1, 1, [.int .u8 0]⟩),
(6, ⟨.int .u8, 1, 1, [.int .u8 0]⟩),
(7, ⟨.struct [(0, 2), (1, 3), (2, 4), (3, 6)], 4, 24, [.int .i64 0, .int .i64 0, .bool false, .int .u8 0]⟩),
(8, ⟨.struct [(0, 2), (1, 3), (2, 4), (3, 6)], 4, 24, [.int .i64 0, .int .i64 0, .bool false, .int .u8 0]⟩),
(9, ⟨.str, 1, 16, [.string ⟨#[]⟩]⟩),
(20, ⟨.iface, 1, 16, [.nilIface]⟩),
(22, ⟨.slice 3, 1, 24, [.slice none 0 0]⟩),
(23, ⟨.slice 87, 1, 24, [.slice none 0 0]⟩),
(24, ⟨.struct [(0, 22), (1, 23), (2, 3), (3, 3), (4, 3)], 5, 72, [.slice none 0 0, .slice none 0 0, .int .i64 0, .int .i64 0, .int .i64 0]⟩),
(25, ⟨.struct [(0, 22), (1, 23), (2, 3), (3, 3), (4, 3)], 5, 72, [.slice none 0 0, .slice none 0 0, .int .i64 0, .int .i64 0, .int .i64 0]⟩),
(26, ⟨.slice 22, 1, 24, [.slice none 0 0]⟩),
(41, ⟨.slice 25, 1, 24, [.slice none 0 0]⟩),
(42, ⟨.struct [(0, 3), (1, 3), (2, 3), (3, 3), (4, 3), (5, 3), (6, 3), (7, 3), (8, 3), (9, 4)], 10, 80, [.int .i64 0, .int .i64 0, .int .i64 0, .int .i64 0, .int .i64 0, .int .i64 0, .int .i64 0, .int .i64 0, .int .i64 0, .bool false]⟩),
(43, ⟨.struct [(0, 3), (1, 3), (2, 3), (3, 3), (4, 3), (5, 3), (6, 3), (7, 3), (8, 3), (9, 4)], 10, 80, [.int .i64 0, .int .i64 0, .int .i64 0, .int .i64 0, .int .i64 0, .int .i64 0, .int .i64 0, .int .i64 0, .int .i64 0, .bool false]⟩),
(44, ⟨.slice 65, 1, 24, [.slice none 0 0]⟩),
(46, ⟨.int .i64, 1, 8, [.int .i64 0]⟩),
(49, ⟨.slice 46, 1, 24, [.slice none 0 0]⟩),
(64, ⟨.struct [(0, 3), (1, 3)], 2, 16, [.int .i64 0, .int .i64 0]⟩),
(65, ⟨.struct [(0, 3), (1, 3)], 2, 16, [.int .i64 0, .int .i64 0]⟩),
(86, ⟨.struct [(0, 3), (1, 3), (2, 3)], 3, 24, [.int .i64 0, .int .i64 0, .int .i64 0]⟩),
(87, ⟨.struct [(0, 3), (1, 3), (2, 3)], 3, 24, [.int .i64 0, .int .i64 0, .int .i64 0]⟩),
(89, ⟨.struct [(0, 46)], 1, 8, [.int .i64 0]⟩),
(90, ⟨.struct [(0, 46)], 1, 8, [.int .i64 0]⟩),
(92, ⟨.ptr 94, 1, 8, [.pointer none]⟩),
(93, ⟨.struct [(0, 41), (1, 43), (11, 3)], 12, 112, [.slice none 0 0, .int .i64 0, .int .i64 0, .int .i64 0, .int .i64 0, .int .i64 0, .int .i64 0, .int .i64 0, .int .i64 0, .int .i64 0, .bool false, .int .i64 0]⟩),
(94, ⟨.struct [(0, 41), (1, 43), (11, 3)], 12, 112, [.slice none 0 0, .int .i64 0, .int .i64 0, .int .i64 0, .int .i64 0, .int .i64 0, .int .i64 0, .int .i64 0, .int .i64 0, .int .i64 0, .bool false, .int .i64 0]⟩),
(95, ⟨.arr 8 1, 8, 64, [.nilFunc, .nilFunc, .nilFunc, .nilFunc, .nilFunc, .nilFunc, .nilFunc, .nilFunc]⟩),
(99, ⟨.other, 1, 8, [.nilFunc]⟩),
(100, ⟨.ptr 103, 1, 8, [.pointer none]⟩),
(101, ⟨.arr 3 99, 3, 24, [.nilFunc, .nilFunc, .nilFunc]⟩),
(102, ⟨.struct [(0, 41), (1, 43)], 11, 104, [.slice none 0 0, .int .i64 0, .int .i64 0, .int .i64 0, .int .i64 0, .int .i64 0, .int .i64 0, .int .i64 0, .int .i64 0, .int .i64 0, .bool false]⟩),
(103, ⟨.struct [(0, 41), (1, 43)], 11, 104, [.slice none 0 0, .int .i64 0, .int .i64 0, .int .i64 0, .int .i64 0, .int .i64 0, .int .i64 0, .int .i64 0, .int .i64 0, .int .i64 0, .bool false]⟩)
]
theorem TYok : TOk Tryd.prog TY := tok_of (by kernel_rfl) (by kernel_rfl)
theorem mixed : Tryd.prog.follows .mixedOrders = true := by kernel_rfl
end Go.Proofs.YtpciieagafddcaaDoor.E
/- What stays, in the engine's words and in the print's: from each to the other (own text). -/
namespace Go.Proofs.YtpciieagafddcaaDoor.E
open Go Go.RowKit Go.Proofs Go.Proofs.YtpciieagafddcaaDoorW.PrintWords Go.Proofs.YtpciieagafddcaaDoorW.PrintLast Go.Proofs.YtpciieagafddcaaDoorW.PrintMore Go.Proofs.YtpciieagafddcaaDoor.F
set_option linter.unusedVariables false
set_option linter.unusedSimpArgs false
def cI (n : Int) : CV := .v (.int .i64 n)
def cInts (l : List Int) : CV := .sl l.length 1 fun i _ => cI (l.getD i 0)
def cRows (l : List (List Int)) : CV := .sl l.length 1 fun i _ => cInts (l.getD i [])
def stgCells (s : S87) : List CV := [cI s.f0, cI s.f1, cI s.f2]
def cStgs (l : List S87) : CV := .sl l.length 3 fun i j => (stgCells (l.getD i z87)).getD j (.v undef)
def plCells (p : S25) : List CV := [cInts p.f0, cStgs p.f1, cI p.f2, cI p.f3, cI p.f4]
def cPls (l : List S25) : CV := .sl l.length 5 fun i j => (plCells (l.getD i z25)).getD j (.v undef)
def sgCells (s : Sg) : List CV := [cI s.plan, cI s.stage, cI s.next, cI s.phase, cI s.t, cI s.hold, cI s.held, cI s.ask, cI s.want, .v (.bool s.stop)]
def fI (n : Int) : FV := .t (.one (cI n))
def fPl (p : S25) : FV := .t (.agg (plCells p))
def fSg (s : Sg) : FV := .t (.agg (sgCells s))
def fPls (l : List S25) : FV := .t (.one (cPls l))
theorem ret_b {b c : Bool} (h : b = c) : some (vB b) = some (vB c) := by rw [h]
section
variable {w : World} {I : Nat → Prop}
theorem C_of_S {α : Type} {d : Kd α} {xs : List α} {el : Nat → Nat → CV} {A : Option Addr} {c : Nat}
    (hel : ∀ i x, xs[i]? = some x → ∀ us : List Value, us.length = d.sz → (∀ j u, us[j]? = some u → (el i j).S w I u) → d.K w x us)
    (h : (CV.sl xs.length d.sz el).S w I (.slice A xs.length c)) (hs : 0 < d.sz) : xs.length ≤ c ∧ d.C w A xs.length xs := by
  obtain ⟨A', c', he, h1, h2, h3⟩ := h
  injection he with e1 e2 e3
  subst e1 e3
  refine ⟨h1, rfl, h2, fun hn => ?_⟩
  obtain ⟨a, u, rfl, -⟩ := h3 0 0 hn hs
  refine ⟨a, rfl, fun i x hx => ?_⟩
  have hi : i < xs.length := (List.getElem?_eq_some_iff.1 hx).1
  have hcell : ∀ j, j < d.sz → ∃ u, w.cell? (a.add (i * d.sz + j)) = some u ∧ (el i j).S w I u := fun j hj => by
    obtain ⟨a', u, h4, h5, h6, h7, h8⟩ := h3 i j hi hj
    cases h4
    exact ⟨u, h6, h7⟩
  let us : List Value := (List.range d.sz).map fun j => (w.cell? (a.add (i * d.sz + j))).getD undef
  have hus : ∀ j u, us[j]? = some u → w.cell? (a.add (i * d.sz + j)) = some u ∧ (el i j).S w I u := fun j u hj => by
    have hjl : j < d.sz := by have := (List.getElem?_eq_some_iff.1 hj).1; simpa [us] using this
    obtain ⟨v, h4, h5⟩ := hcell j hjl
    simp [us, hjl, h4] at hj
    subst hj
    exact ⟨h4, h5⟩
  exact ⟨us, by simp [us], hel i x hx us (by simp [us]) (fun j u hj => (hus j u hj).2), fun j u hj => (hus j u hj).1⟩
theorem S_slice {n sz : Nat} {el : Nat → Nat → CV} {y : Value} (h : (CV.sl n sz el).S w I y) : ∃ A c, y = .slice A n c := by
  obtain ⟨A, c, rfl, -⟩ := h
  exact ⟨A, c, rfl⟩
theorem S_of_C {α : Type} {d : Kd α} {xs : List α} {el : Nat → Nat → CV} {A : Option Addr} {c : Nat} (hI : ∀ (a : Addr) u, A = some a → (∃ k, w.cell? (a.add k) = some u) → I a.block)
    (hel : ∀ i x, xs[i]? = some x → ∀ us : List Value, d.K w x us → ∀ j u, us[j]? = some u → (el i j).S w I u)
    (hc : xs.length ≤ c) (h : d.C w A xs.length xs) : (CV.sl xs.length d.sz el).S w I (.slice A xs.length c) := by
  obtain ⟨h1, h2, h3⟩ := h
  refine ⟨A, c, rfl, hc, h2, fun i j hi hj => ?_⟩
  obtain ⟨a, rfl, h4⟩ := h3 (by omega)
  obtain ⟨us, h5, h6, h7⟩ := h4 i _ (List.getElem?_eq_getElem hi)
  have hj' : j < us.length := by rw [h5]; exact hj
  have hu := List.getElem?_eq_getElem hj'
  exact ⟨a, us[j], rfl, hI a _ rfl ⟨_, h7 j _ hu⟩, h7 j _ hu, hel i _ (List.getElem?_eq_getElem hi) us h6 j _ hu, d.K_one h6 _ (List.getElem_mem hj')⟩
theorem getD_some {α : Type} {l : List α} {i : Nat} {x z : α} (h : l[i]? = some x) : l.getD i z = x := by rw [List.getD_eq_getElem?_getD, h]; rfl
theorem int_C {l : List Int} {A : Option Addr} {c : Nat} (h : (cInts l).S w I (.slice A l.length c)) : l.length ≤ c ∧ (Kd.int .i64).C w A l.length l :=
  C_of_S (d := Kd.int .i64) (fun i x hx us hl hu => by
    match us, hl with
    | [u], _ =>
      have := hu 0 u rfl
      rw [getD_some hx] at this
      have e : u = .int .i64 x := this
      subst e
      rfl) h (by decide)
theorem stg_C {l : List S87} {A : Option Addr} {c : Nat} (h : (cStgs l).S w I (.slice A l.length c)) : l.length ≤ c ∧ k87.C w A l.length l :=
  C_of_S (d := k87) (fun i x hx us hl hu => by
    match us, hl with
    | [u, v, z], _ =>
      have h0 : u = .int .i64 x.f0 := by have := hu 0 u rfl; rw [getD_some hx] at this; exact this
      have h1 : v = .int .i64 x.f1 := by have := hu 1 v rfl; rw [getD_some hx] at this; exact this
      have h2 : z = .int .i64 x.f2 := by have := hu 2 z rfl; rw [getD_some hx] at this; exact this
      subst h0 h1 h2
      exact k87_mk w x) h (by decide)
theorem pls_C {l : List S25} {A : Option Addr} {c : Nat} (h : (cPls l).S w I (.slice A l.length c)) : l.length ≤ c ∧ k25.C w A l.length l :=
  C_of_S (d := k25) (fun i x hx us hl hu => by
    match us, hl with
    | [u0, u1, u2, u3, u4], _ =>
      have h0 : (cInts x.f0).S w I u0 := by have := hu 0 u0 rfl; rw [getD_some hx] at this; exact this
      have h1 : (cStgs x.f1).S w I u1 := by have := hu 1 u1 rfl; rw [getD_some hx] at this; exact this
      have h2 : u2 = .int .i64 x.f2 := by have := hu 2 u2 rfl; rw [getD_some hx] at this; exact this
      have h3 : u3 = .int .i64 x.f3 := by have := hu 3 u3 rfl; rw [getD_some hx] at this; exact this
      have h4 : u4 = .int .i64 x.f4 := by have := hu 4 u4 rfl; rw [getD_some hx] at this; exact this
      subst h2 h3 h4
      obtain ⟨A0, c0, rfl⟩ := S_slice h0
      obtain ⟨A1, c1, rfl⟩ := S_slice h1
      have g0 := int_C h0
      have g1 := stg_C h1
      exact k25_mk w x g0.1 g0.2 g1.1 g1.2) h (by decide)
abbrev Old (w : World) : Nat → Prop := fun k => k < w.heap.size
theorem old_I {A : Option Addr} (a : Addr) (u : Value) (_ : A = some a) (h : ∃ k, w.cell? (a.add k) = some u) : Old w a.block := by
  obtain ⟨k, h⟩ := h
  have := World.block_lt_of_cell? w _ h
  rwa [add_block] at this
theorem C_int {l : List Int} {A : Option Addr} {c : Nat} (hI : ∀ (a : Addr) u, A = some a → (∃ k, w.cell? (a.add k) = some u) → I a.block) (hc : l.length ≤ c) (h : (Kd.int .i64).C w A l.length l) : (cInts l).S w I (.slice A l.length c) :=
  S_of_C (d := Kd.int .i64) hI (fun i x hx us hK j u hu => by
    have e : us = [.int .i64 x] := hK
    subst e
    rw [getD_some hx]
    match j, hu with
    | 0, hu => cases hu; rfl) hc h
theorem C_stg {l : List S87} {A : Option Addr} {c : Nat} (hI : ∀ (a : Addr) u, A = some a → (∃ k, w.cell? (a.add k) = some u) → I a.block) (hc : l.length ≤ c) (h : k87.C w A l.length l) : (cStgs l).S w I (.slice A l.length c) :=
  S_of_C (d := k87) hI (fun i x hx us hK j u hu => by
    obtain rfl := k87_open hK
    rw [getD_some hx]
    match j, hu with
    | 0, hu => cases hu; rfl
    | 1, hu => cases hu; rfl
    | 2, hu => cases hu; rfl) hc h
theorem C_pls {l : List S25} {A : Option Addr} {c : Nat} (hc : l.length ≤ c) (h : k25.C w A l.length l) : (cPls l).S w (Old w) (.slice A l.length c) :=
  S_of_C (d := k25) old_I (fun i x hx us hK j u hu => by
    obtain ⟨A0, c0, A1, c1, rfl, h0, h1, h2, h3⟩ := k25_open hK
    rw [getD_some hx]
    match j, hu with
    | 0, hu => cases hu; exact C_int old_I h0 h1
    | 1, hu => cases hu; exact C_stg old_I h2 h3
    | 2, hu => cases hu; rfl
    | 3, hu => cases hu; rfl
    | 4, hu => cases hu; rfl) hc h
end
theorem glob_of {c : Cx} (h : GlOk c) : GlobOk c.w := fun j hj => by
  obtain ⟨-, h2⟩ := h 1 _ List.mem_cons_self
  have hm : (Lib.deBruijn64tab.map fun n : Nat => Value.int .u8 (n : Int))[j]? = some (.int .u8 ((Lib.deBruijn64tab.getD j 0 : Nat) : Int)) := by
    rw [List.getElem?_map, List.getElem?_eq_getElem hj, List.getD_eq_getElem?_getD, List.getElem?_eq_getElem hj]
    rfl
  exact (h2 j _ hm).1
theorem of_glob {w : World} (h : GlobOk w) {ρ : Nat → Option Value} : GlOk ⟨w, Old w, ρ⟩ := fun g l hl => by
  have hl' : (g, l) = ((1, Lib.deBruijn64tab.map fun n : Nat => Value.int .u8 (n : Int)) : Nat × List Value) := List.mem_singleton.1 hl
  injection hl' with e1 e2
  subst e1 e2
  refine ⟨h.lt, fun j u hj => ?_⟩
  have hj' : j < Lib.deBruijn64tab.length := by have := (List.getElem?_eq_some_iff.1 hj).1; simpa using this
  rw [List.getElem?_map, List.getElem?_eq_getElem hj'] at hj
  cases hj
  have := h j hj'
  rw [List.getD_eq_getElem?_getD, List.getElem?_eq_getElem hj'] at this
  exact ⟨this, rfl⟩
def cxN (c : Cx) (w' : World) : Cx := ⟨w', fun k => c.I k ∨ (c.w.heap.size ≤ k ∧ k < w'.heap.size), c.ρ⟩
theorem ends_of {c : Cx} {w' : World} {r : FV} {y : Value} (hI : ∀ k, c.I k → k < c.w.heap.size) (hb : Below c.w.heap.size c.w w') (hr : r.R (cxN c w') y) : ∃ c' y', Ending.returned y = .returned y' ∧ c'.w = w' ∧ Ends c [] r [] c' y' :=
  ⟨cxN c w', y, rfl, rfl, hr, ⟨fun _ h => .inl h, fun k hk => hb.block k (hI k hk), fun _ _ h => h⟩, rfl, fun k hk => hk.elim (fun h => ⟨Nat.lt_of_lt_of_le (hI k h) hb.size, .inl h⟩) (fun h => ⟨h.2, .inr h.1⟩), hb.os, hb.tape, hb.output, hb.size, rfl, fun _ _ h => by simp at h, fun k hk _ => hb.block k hk⟩
theorem law_of {f : Nat} {G : List FV → FV → Prop} {args : List FV} {ys : List Value} {w : World} {b : Bool} (h : SpecOk Tryd.prog f (.pure G)) (hG : G args (vB b)) (hg : GlobOk w) (hy : all2 (FV.R ⟨w, Old w, fun _ => none⟩) args ys) :
    Calls Tryd.prog f ys.toArray w fun e w' => e = .returned (.bool b) ∧ Below w.heap.size w w' :=
  (h args [] (vB b) [] ⟨hG, rfl, rfl⟩ ⟨w, Old w, fun _ => none⟩ ys (of_glob hg) hy (fun _ h => h) (fun _ _ => rfl) (fun _ _ h => by simp at h) (fun _ _ h => by simp at h)).mono fun e w' ⟨c', y, he, hw, hE⟩ => by
    subst hw
    obtain ⟨hr, hx, -, -, hos, htape, hout, hsz, -, -, hfx⟩ := hE
    have hy : y = .bool b := hr.1
    subst hy
    exact ⟨he, ⟨hos, htape, hout, hsz, fun k hk => hfx k hk (fun j hj => by simp at hj)⟩⟩
end Go.Proofs.YtpciieagafddcaaDoor.E
