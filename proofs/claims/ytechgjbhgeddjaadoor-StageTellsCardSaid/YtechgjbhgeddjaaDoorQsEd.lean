/- An engine that walks a function's text with what is known of it (own text, wip/eng). -/
import Derived.Test.YtechgjbhgeddjaaDoorQsEc
import Derived.Recover
import Derived.Test.YtechgjbhgeddjaaDoorProg
namespace Go.Proofs.YtechgjbhgeddjaaDoor.E
open Go Go.RowKit
set_option linter.unusedVariables false
set_option linter.unusedSimpArgs false
/-! ### Panics -/
abbrev PSpec := List FV → List Blk → FV → List Blk → Prop
/-- The functions' table of what panics. -/
def PnOk (P : Program) (Pn : Nat → Option PSpec) : Prop := ∀ f G, Pn f = some G → SpecE P panicE f (.mem G) ∧ ∃ fn, P.funcs[f]? = some fn ∧ (fn.name == "runtime.NumGoroutine") = false ∧ fn.body.isNone = false
/-- An operation that panics: with what, and what has become of the blocks. -/
def apanO (Pn : Nat → Option PSpec) (s : AS) (o : Oper) (k : FV → HP → Prop) : Prop :=
  match evs s.fr o.op.operands.toList with
  | none => False
  | some xs =>
    match o.op with
    | .call c => match c.callee with
      | .value _ => match xs with
        | .t (.one (.fn (.func f) first cap)) :: args => match Pn f with
          | some G => callR (.mem G) (first.map ptrF ++ args ++ cap.map ptrF) s.hp fun r u _ => k r u
          | none => False
        | _ => False
      | _ => False
    | .panic _ => match xs with
      | [.t (.one (.v (.iface t x)))] => k (.t (.one (.v (.iface t x)))) []
      | _ => False
    | _ => False
section
variable {P : Program} {T : TT} {Γ : Nat → Option Spec} {Pn : Nat → Option PSpec}
/-- The record of an operation that does not end. -/
def recP (o : Oper) : Rec := ⟨o.dst, undefF, [], [], []⟩
def initL {α : Type} : List α → List α
  | [] => []
  | [_] => []
  | x :: y :: l => x :: initL (y :: l)
def lastO {α : Type} : List α → Option α
  | [] => none
  | [x] => some x
  | _ :: y :: l => lastO (y :: l)
/-- A region whose last operation panics. -/
def apanR (T : TT) (Γ : Nat → Option Spec) (Pn : Nat → Option PSpec) (ops : Array Oper) (draw : Bool) (K : FV → AS → Prop) (s : AS) : Prop :=
  match lastO ops.toList with
  | none => False
  | some o => o.guard = none ∧ aops T Γ ops s.nid (initL ops.toList) 0 s [] fun recs s' =>
      (match draw with
        | true => chk ops.toList (recs ++ [recP o]) [] 0 = true ∧ covB ops.toList 0 = true
        | false => True) ∧ apanO Pn s' o fun r u => K r ⟨s'.fr, u ++ s'.hp, s.nid + ops.size, s'.N, s'.m⟩
end
end Go.Proofs.YtechgjbhgeddjaaDoor.E
namespace Go.Proofs.YtechgjbhgeddjaaDoor.E
open Go Go.RowKit
set_option linter.unusedVariables false
set_option linter.unusedSimpArgs false
/-- Code that ends in a panic. -/
noncomputable def apan (T : TT) (Γ : Nat → Option Spec) (Pn : Nat → Option PSpec) (c : Code) (K : FV → AS → Prop) : AS → Prop :=
  Code.rec (motive := fun _ => AS → Prop)
    (skip := fun _ => False)
    (region := fun _ ops draw s => apanR T Γ Pn ops draw K s)
    (seq := fun a _ iha ihb s => iha s ∨ acode T Γ a (fun e s' => match e with
      | .normal => ihb s'
      | _ => False) s)
    (cond := fun c _ _ ihx ihy s => match ev s.fr c with
      | some (.t (.one (.v (.bool t)))) => bc t (ihx s) (ihy s)
      | _ => False)
    (block := fun _ _ ih s => ih s)
    (loop := fun _ _ _ => False)
    (rangeFunc := fun _ _ _ _ _ _ _ => False)
    (exit := fun _ _ => False)
    (scope := fun _ ih s => ih s)
    (label := fun _ _ => False)
    (goto := fun _ _ => False)
    (ret := fun _ => False)
    (refuse := fun _ _ => False) c
section
variable {P : Program} {T : TT} {Γ : Nat → Option Spec} {Pn : Nat → Option PSpec}
theorem PnOk.nil : PnOk P (look []) := fun f S h => by cases h
theorem PnOk.cons {l : List (Nat × PSpec)} (h : PnOk P (look l)) {f : Nat} {S : PSpec} {fn : Func} (hs : SpecE P panicE f (.mem S)) (hf : P.funcs[f]? = some fn) (hn : ((fn.name == "runtime.NumGoroutine") || fn.body.isNone) = false) : PnOk P (look ((f, S) :: l)) := by
  intro g S' hg
  by_cases he : f = g
  · subst he
    rw [look_eq] at hg
    cases hg
    simp only [Bool.or_eq_false_iff] at hn
    exact ⟨hs, fn, hf, hn.1, hn.2⟩
  · rw [look_ne he] at hg
    exact h g S' hg
/-! Its steps. -/
variable {K : FV → AS → Prop} {s : AS}
def pseqK (T : TT) (Γ : Nat → Option Spec) (Pn : Nat → Option PSpec) (b : Code) (K : FV → AS → Prop) (e : Exit) (s : AS) : Prop :=
  match e with
  | .normal => apan T Γ Pn b K s
  | _ => False
def pregK (Pn : Nat → Option PSpec) (ops : Array Oper) (o : Oper) (draw : Bool) (nid : Nat) (K : FV → AS → Prop) (recs : List Rec) (s : AS) : Prop :=
  (match draw with
    | true => chk ops.toList (recs ++ [recP o]) [] 0 = true ∧ covB ops.toList 0 = true
    | false => True) ∧ apanO Pn s o fun r u => K r ⟨s.fr, u ++ s.hp, nid + ops.size, s.N, s.m⟩
end
/-- A call that looks at, or writes, blocks of one's own. -/
theorem call_m {G : PSpec} {hp : HP} {ys : List FV} {K : FV → HP → List Nat → Prop} (ids : List Nat) (args : List FV) (pre : List Blk) (r : FV) (post : List Blk) (hG : G args pre r post) (hy : args.map (FV.ren ids) = ys)
    (hb : (args.all (FV.lt ids.length) && pre.all (Blk.lt ids.length) && post.all (Blk.lt ids.length) && nodupB ids && r.isS && Nat.beq pre.length ids.length) = true) (hh : Has hp ids ids pre) {u : HP} (hu : List.zip ids (post.map fun b => some (b.ren ids)) = u) (h : K r u ids) : callR (.mem G) ys hp K := by
  subst hu
  exact ⟨ids, args, pre, r, post, hG, hy, hb, hh, h⟩
theorem call_ro {G : List FV → List Blk → FV → Prop} {hp : HP} {ys : List FV} {K : FV → HP → List Nat → Prop} (ids : List Nat) (args : List FV) (pre : List Blk) (r : FV) (hG : G args pre r) (hy : args.map (FV.ren ids) = ys)
    (hb : (args.all (FV.lt ids.length) && pre.all (Blk.lt ids.length) && nodupB ids && r.isS && Nat.beq pre.length ids.length) = true) (hh : Has hp ids ids pre) (h : K r [] ids) : callR (.ro G) ys hp K :=
  ⟨ids, args, pre, r, hG, hy, hb, hh, h⟩
attribute [irreducible] pseqK pregK
end Go.Proofs.YtechgjbhgeddjaaDoor.E
namespace Go.Proofs.YtechgjbhgeddjaaDoor.E
open Go Go.RowKit
set_option linter.unusedVariables false
set_option linter.unusedSimpArgs false
/-! ### A deferred closure that recovers -/
section
variable {P : Program} {T : TT} {Γ : Nat → Option Spec} {Pn : Nat → Option PSpec}
/-! ### A function that defers one closure -/
end
end Go.Proofs.YtechgjbhgeddjaaDoor.E
/- The types that the walked functions name, as the engine's table (written by wip/eng/mkeng.py). -/
namespace Go.Proofs.YtechgjbhgeddjaaDoor.E
open Go Go.RowKit Go.Proofs
def TY : TT := [
(1, ⟨.other, 1, 8, [.nilFunc]⟩),
(2, ⟨.int .i64, 1, 8, [.int .i64 0]⟩),
(3, ⟨.int .i64, 1, 8, [.int .i64 0]⟩),
(4, ⟨.bool, 1, 1, [.bool false]⟩),
(5, ⟨.int .u8, 1, 1, [.int .u8 0]⟩),
(6, ⟨.int .u8, 1, 1, [.int .u8 0]⟩),
(7, ⟨.struct [(0, 2), (1, 3), (2, 4), (3, 6)], 4, 24, [.int .i64 0, .int .i64 0, .bool false, .int .u8 0]⟩),
(8, ⟨.struct [(0, 2), (1, 3), (2, 4), (3, 6)], 4, 24, [.int .i64 0, .int .i64 0, .bool false, .int .u8 0]⟩),
(9, ⟨.str, 1, 16, [.string ⟨#[]⟩]⟩),
(22, ⟨.slice 39, 1, 24, [.slice none 0 0]⟩),
(23, ⟨.struct [(0, 3), (1, 3), (2, 3), (3, 3), (4, 3), (5, 3), (6, 3), (7, 3), (8, 3), (9, 4)], 10, 80, [.int .i64 0, .int .i64 0, .int .i64 0, .int .i64 0, .int .i64 0, .int .i64 0, .int .i64 0, .int .i64 0, .int .i64 0, .bool false]⟩),
(24, ⟨.struct [(0, 3), (1, 3), (2, 3), (3, 3), (4, 3), (5, 3), (6, 3), (7, 3), (8, 3), (9, 4)], 10, 80, [.int .i64 0, .int .i64 0, .int .i64 0, .int .i64 0, .int .i64 0, .int .i64 0, .int .i64 0, .int .i64 0, .int .i64 0, .bool false]⟩),
(28, ⟨.slice 32, 1, 24, [.slice none 0 0]⟩),
(32, ⟨.slice 3, 1, 24, [.slice none 0 0]⟩),
(37, ⟨.slice 41, 1, 24, [.slice none 0 0]⟩),
(38, ⟨.struct [(0, 32), (1, 37), (2, 3), (3, 3), (4, 3)], 5, 72, [.slice none 0 0, .slice none 0 0, .int .i64 0, .int .i64 0, .int .i64 0]⟩),
(39, ⟨.struct [(0, 32), (1, 37), (2, 3), (3, 3), (4, 3)], 5, 72, [.slice none 0 0, .slice none 0 0, .int .i64 0, .int .i64 0, .int .i64 0]⟩),
(40, ⟨.struct [(0, 3), (1, 3), (2, 3)], 3, 24, [.int .i64 0, .int .i64 0, .int .i64 0]⟩),
(41, ⟨.struct [(0, 3), (1, 3), (2, 3)], 3, 24, [.int .i64 0, .int .i64 0, .int .i64 0]⟩),
(58, ⟨.other, 1, 8, [.nilFunc]⟩),
(59, ⟨.ptr 62, 1, 8, [.pointer none]⟩),
(60, ⟨.arr 3 58, 3, 24, [.nilFunc, .nilFunc, .nilFunc]⟩),
(61, ⟨.struct [(0, 22), (1, 24)], 11, 104, [.slice none 0 0, .int .i64 0, .int .i64 0, .int .i64 0, .int .i64 0, .int .i64 0, .int .i64 0, .int .i64 0, .int .i64 0, .int .i64 0, .bool false]⟩),
(62, ⟨.struct [(0, 22), (1, 24)], 11, 104, [.slice none 0 0, .int .i64 0, .int .i64 0, .int .i64 0, .int .i64 0, .int .i64 0, .int .i64 0, .int .i64 0, .int .i64 0, .int .i64 0, .bool false]⟩)
]
theorem TYok : TOk Tryd.prog TY := tok_of (by kernel_rfl) (by kernel_rfl)
theorem mixed : Tryd.prog.follows .mixedOrders = true := by kernel_rfl
end Go.Proofs.YtechgjbhgeddjaaDoor.E
