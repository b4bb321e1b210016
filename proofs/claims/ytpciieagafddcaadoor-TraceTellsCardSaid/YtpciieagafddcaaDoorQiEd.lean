/- An engine that walks a function's text with what is known of it (own text, wip/eng). -/
import Derived.Test.YtpciieagafddcaaDoorQiEc
import Derived.Recover
namespace Go.Proofs.YtpciieagafddcaaDoor.E
open Go Go.RowKit
set_option linter.unusedVariables false
set_option linter.unusedSimpArgs false
/-! ### Panics -/
abbrev PSpec := List FV → List Blk → FV → List Blk → Prop
/-- The functions' table of what panics. -/
def PnOk (P : Program) (Pn : Nat → Option PSpec) : Prop := ∀ f G, Pn f = some G → SpecE P panicE f (.mem G) ∧ ∃ fn, P.funcs[f]? = some fn ∧ (fn.name == "runtime.NumGoroutine") = false ∧ fn.body.isNone = false
/-- An operation that panics: with what, and what has become of the blocks. -/
def apanO (Pn : Nat → Option PSpec) (s : AS) (o : Oper) (k : FV → HP → Prop) : Prop :=
  match evs s.fr o.op.operands.toList with
  | none => False
  | some xs =>
    match o.op with
    | .call c => match c.callee with
      | .value _ => match xs with
        | .t (.one (.fn (.func f) first cap)) :: args => match Pn f with
          | some G => callR (.mem G) (first.map ptrF ++ args ++ cap.map ptrF) s.hp fun r u _ => k r u
          | none => False
        | _ => False
      | _ => False
    | .panic _ => match xs with
      | [.t (.one (.v (.iface t x)))] => k (.t (.one (.v (.iface t x)))) []
      | _ => False
    | _ => False
section
variable {P : Program} {T : TT} {Γ : Nat → Option Spec} {Pn : Nat → Option PSpec}
/-- The record of an operation that does not end. -/
def recP (o : Oper) : Rec := ⟨o.dst, undefF, [], [], []⟩
def initL {α : Type} : List α → List α
  | [] => []
  | [_] => []
  | x :: y :: l => x :: initL (y :: l)
def lastO {α : Type} : List α → Option α
  | [] => none
  | [x] => some x
  | _ :: y :: l => lastO (y :: l)
/-- A region whose last operation panics. -/
def apanR (T : TT) (Γ : Nat → Option Spec) (Pn : Nat → Option PSpec) (ops : Array Oper) (draw : Bool) (K : FV → AS → Prop) (s : AS) : Prop :=
  match lastO ops.toList with
  | none => False
  | some o => o.guard = none ∧ aops T Γ ops s.nid (initL ops.toList) 0 s [] fun recs s' =>
      (match draw with
        | true => chk ops.toList (recs ++ [recP o]) [] 0 = true ∧ covB ops.toList 0 = true
        | false => True) ∧ apanO Pn s' o fun r u => K r ⟨s'.fr, u ++ s'.hp, s.nid + ops.size, s'.N, s'.m⟩
end
end Go.Proofs.YtpciieagafddcaaDoor.E
namespace Go.Proofs.YtpciieagafddcaaDoor.E
open Go Go.RowKit
set_option linter.unusedVariables false
set_option linter.unusedSimpArgs false
/-- Code that ends in a panic. -/
noncomputable def apan (T : TT) (Γ : Nat → Option Spec) (Pn : Nat → Option PSpec) (c : Code) (K : FV → AS → Prop) : AS → Prop :=
  Code.rec (motive := fun _ => AS → Prop)
    (skip := fun _ => False)
    (region := fun _ ops draw s => apanR T Γ Pn ops draw K s)
    (seq := fun a _ iha ihb s => iha s ∨ acode T Γ a (fun e s' => match e with
      | .normal => ihb s'
      | _ => False) s)
    (cond := fun c _ _ ihx ihy s => match ev s.fr c with
      | some (.t (.one (.v (.bool t)))) => bc t (ihx s) (ihy s)
      | _ => False)
    (block := fun _ _ ih s => ih s)
    (loop := fun _ _ _ => False)
    (rangeFunc := fun _ _ _ _ _ _ _ => False)
    (exit := fun _ _ => False)
    (scope := fun _ ih s => ih s)
    (label := fun _ _ => False)
    (goto := fun _ _ => False)
    (ret := fun _ => False)
    (refuse := fun _ _ => False) c
section
variable {P : Program} {T : TT} {Γ : Nat → Option Spec} {Pn : Nat → Option PSpec}
/-- At a call's beginning. -/
theorem sr_init {c : Cx} {args : List FV} {pre : List Blk} {ys : List Value} {fn : Func} {D : List Deferred} (hy : all2 (FV.R c) args ys) (hgl : GlOk c) (hI : ∀ k, c.I k → k < c.w.heap.size) (hZ : ∀ j, pre.length ≤ j → c.ρ j = none)
    (hpre : ∀ (j : Nat) b, pre[j]? = some b → b.R c j ∧ ∀ k, c.blk j = some k → ¬ c.I k ∧ k < c.w.heap.size) (hdj : ∀ i j, i < pre.length → j < pre.length → i ≠ j → ∀ k, c.blk i = some k → c.blk j ≠ some k) :
    SR c.w.heap.size (iniOf c pre D) c.w (fun id => pre.length ≤ id) c ⟨enumF 0 args, enumH 0 pre, pre.length, args.length + (fn.ntmps - args.length), pre.length⟩ { tmps := ys.toArray ++ Array.replicate (fn.ntmps - ys.toArray.size) undef, defers := D } := by
  have hla := all2_length hy
  refine ⟨by simp [hla], rfl, fun t fv hl => ?_, ?_, fun id hid => hZ id hid, fun j v hv => ?_⟩
  · obtain ⟨-, h2⟩ := look_enumF hl
    rw [Nat.sub_zero] at h2
    obtain ⟨y, h3, h4⟩ := all2_get hy h2
    refine ⟨y, ?_, h4⟩
    have : t < ys.length := (List.getElem?_eq_some_iff.1 h3).1
    rw [Array.getElem?_append_left (by simpa using this)]
    simpa using h3
  · refine ⟨fun id b hl => ?_, fun i j bi bj hi hj hij k hk hk' => ?_, fun i b k hl hk => ?_, hI, rfl, rfl, rfl, Nat.le_refl _, Nat.le_refl _, fun _ _ _ => rfl, fun _ h => h, fun _ h => .inl h, fun j v hv => ?_, hgl⟩
    · obtain ⟨-, b', e, h2⟩ := look_enumH hl
      cases e
      rw [Nat.sub_zero] at h2
      exact (hpre id b h2).1
    · obtain ⟨-, b', e, h2⟩ := look_enumH hi
      obtain ⟨-, b'', e', h3⟩ := look_enumH hj
      rw [Nat.sub_zero] at h2 h3
      exact hdj i j (List.getElem?_eq_some_iff.1 h2).1 (List.getElem?_eq_some_iff.1 h3).1 hij k hk hk'
    · obtain ⟨-, b', e, h2⟩ := look_enumH hl
      rw [Nat.sub_zero] at h2
      obtain ⟨-, h3⟩ := hpre i b' h2
      obtain ⟨h4, h5⟩ := h3 k hk
      exact ⟨h4, .inr ⟨i, (List.getElem?_eq_some_iff.1 h2).1, hk⟩, h5⟩
    · show c.ρ j = some v
      have hv : (if j < pre.length then c.ρ j else none) = some v := hv
      split at hv
      · exact hv
      · cases hv
  · show j < pre.length
    have hv : (if j < pre.length then c.ρ j else none) = some v := hv
    split at hv
    · assumption
    · cases hv
theorem PnOk.nil : PnOk P (look []) := fun f S h => by cases h
theorem PnOk.cons {l : List (Nat × PSpec)} (h : PnOk P (look l)) {f : Nat} {S : PSpec} {fn : Func} (hs : SpecE P panicE f (.mem S)) (hf : P.funcs[f]? = some fn) (hn : ((fn.name == "runtime.NumGoroutine") || fn.body.isNone) = false) : PnOk P (look ((f, S) :: l)) := by
  intro g S' hg
  by_cases he : f = g
  · subst he
    rw [look_eq] at hg
    cases hg
    simp only [Bool.or_eq_false_iff] at hn
    exact ⟨hs, fn, hf, hn.1, hn.2⟩
  · rw [look_ne he] at hg
    exact h g S' hg
/-! Its steps. -/
variable {K : FV → AS → Prop} {s : AS}
def pseqK (T : TT) (Γ : Nat → Option Spec) (Pn : Nat → Option PSpec) (b : Code) (K : FV → AS → Prop) (e : Exit) (s : AS) : Prop :=
  match e with
  | .normal => apan T Γ Pn b K s
  | _ => False
def pregK (Pn : Nat → Option PSpec) (ops : Array Oper) (o : Oper) (draw : Bool) (nid : Nat) (K : FV → AS → Prop) (recs : List Rec) (s : AS) : Prop :=
  (match draw with
    | true => chk ops.toList (recs ++ [recP o]) [] 0 = true ∧ covB ops.toList 0 = true
    | false => True) ∧ apanO Pn s o fun r u => K r ⟨s.fr, u ++ s.hp, nid + ops.size, s.N, s.m⟩
end
theorem call_ro {G : List FV → List Blk → FV → Prop} {hp : HP} {ys : List FV} {K : FV → HP → List Nat → Prop} (ids : List Nat) (args : List FV) (pre : List Blk) (r : FV) (hG : G args pre r) (hy : args.map (FV.ren ids) = ys)
    (hb : (args.all (FV.lt ids.length) && pre.all (Blk.lt ids.length) && nodupB ids && r.isS && Nat.beq pre.length ids.length) = true) (hh : Has hp ids ids pre) (h : K r [] ids) : callR (.ro G) ys hp K :=
  ⟨ids, args, pre, r, hG, hy, hb, hh, h⟩
attribute [irreducible] pseqK pregK
end Go.Proofs.YtpciieagafddcaaDoor.E
namespace Go.Proofs.YtpciieagafddcaaDoor.E
open Go Go.RowKit
set_option linter.unusedVariables false
set_option linter.unusedSimpArgs false
/-! ### A deferred closure that recovers -/
section
variable {P : Program} {T : TT} {Γ : Nat → Option Spec} {Pn : Nat → Option PSpec}
/-! ### A function that defers one closure -/
end
end Go.Proofs.YtpciieagafddcaaDoor.E
