/- What the rows of this seat's laws share: a value that reads as data is one of a kind's; the listed tables; own tool's text (wip/weave/R.lean). -/
import Derived.Test.YtpciieagafddcaaDoorRows
import Derived.Test.YtpciieagafddcaaDoorQjSp
import Derived.WalkKit
import Derived.ProofKit
import Derived.OpenShut
import Derived.ShutString
import Derived.ChangeOld
import Derived.Below
import Derived.SizedLaws
import Derived.LaidMore
import Derived.Stop.Joined
import Derived.Lib.LaidTab
import Derived.Lib.SmallJoins
import Derived.Deep.Strs
namespace Go.Proofs.YtpciieagafddcaaDoor.R
open Go.ChangeShapes Go.WideShapes Go.ChangeAt Go.RowKit Go.Proofs.YtpciieagafddcaaDoorW.PrintWords Go.Proofs.YtpciieagafddcaaDoor.F
open Go.ChangeMaps (open_string shut_string)
theorem own : ownKnob Tryd.prog.godebug = none := by kernel_rfl
theorem laidOut : laidOutB Tryd.prog = true := by kernel_rfl
def laid : List (String × DataW Unit) := [("math/bits.deBruijn32tab", Rows.laid_math_bits_deBruijn32tab), ("math/bits.deBruijn64tab", Rows.laid_math_bits_deBruijn64tab)]
theorem g1 : Tryd.prog.globalNamed "math/bits.deBruijn64tab" = some 1 := by kernel_rfl
theorem t1 : (Tryd.prog.globals[1]?).map (·.type) = some 144 := by kernel_rfl
theorem door_met (os : Os) (args : Array Value) : laidMetH Tryd.prog laid ((World.doorLaid Tryd.prog 400 os).forCall (fun _ _ => 0) ⟨#[], args, []⟩).memory :=
  laidMetH_of_parts3 (fuel := 8) (laidMet_of_run' 8 (by kernel_rfl) (by kernel_rfl)) (by kernel_rfl) (by kernel_rfl)
theorem tab64 : (Rows.laid_math_bits_deBruijn64tab : DataW Unit) = Lib.tabData .u8 (Lib.deBruijn64tab.map fun n : Nat => (n : Int)) := rfl
theorem glob_of_laid {W : World} (h : laidMetH Tryd.prog laid W) : GlobOk W := by
  rw [MakeChecks.laidMetH_plain _ _ _ (by kernel_rfl)] at h
  obtain ⟨ps, ⟨g0, t0, cs0, f0, p0, q0, hg0, ht0, hv0, hd0, ⟨g', t', cs, f, p, q, hg', ht', hvar, hd, _, _⟩, _⟩, _, _⟩ := h
  obtain rfl := Option.some.inj (g1.symm.trans hg')
  obtain rfl := Option.some.inj (t1.symm.trans ht')
  rw [tab64] at hd
  have hcs := Lib.cells_of_tab Tryd.underlying144 Tryd.underlying5 (by kernel_rfl) (by kernel_rfl) hd
  intro j hj
  have := World.var?_cell g1 hvar j
  rw [this, ← Array.getElem?_toList, hcs]
  simp [List.getD_eq_getElem?_getD, List.getElem?_eq_getElem hj]
theorem addTwo (a : Addr) (m i : Nat) : (a.add m).add i = a.add (m + i) := by
  unfold Addr.add
  by_cases hi : i = 0
  · subst hi; simp
  · by_cases hm : m = 0
    · subst hm; simp [hi]
    · simp [hi, hm, Nat.add_assoc]
def Opens {α : Type} (t : TypeId) (d : Kd α) (G : α → Prop) : Prop := ∀ {H : Type} {enc : TypeId × Value → H} {w : World} {base : Nat} {sp : Nat → Bool} {held : Bool} {fuel : Nat} {cs : List Value} {x : DataW H × List MemPlace},
  DataW.trod enc Tryd.prog w base sp held fuel t cs = some x → ∃ a, d.K w a cs ∧ G a
theorem Opens.int {t : TypeId} {k : IntKind} (hu : Tryd.prog.underlying t = some (.int k)) : Opens t (Kd.int k) (fun x => (Lit.int k x).wf = true) := fun h => by
  obtain ⟨m, rfl, _, hw⟩ := DataW.trod_int hu h
  exact ⟨m, rfl, hw⟩
theorem Opens.bool {t : TypeId} (hu : Tryd.prog.underlying t = some .bool) : Opens t Kd.bool (fun _ => True) := fun {H enc w base sp held fuel cs x} h => by
  cases fuel with
  | zero => simp [DataW.trod] at h
  | succ fuel =>
    simp only [DataW.trod, hu] at h
    split at h
    · exact ⟨_, rfl, trivial⟩
    all_goals simp_all
theorem Opens.slice {α : Type} {t e : TypeId} {d : Kd α} {G : α → Prop} (hu : Tryd.prog.underlying t = some (.slice e)) (hc : Tryd.prog.cellsOf e = d.sz) (ho : Opens e d G) : Opens t (Kd.slice e d) (fun xs => (∀ x ∈ xs, G x) ∧ xs.length ≤ maxLen) := fun {H enc w base sp held fuel cs x} h => by
  rcases DataW.trod_slice hu h with ⟨rfl, _⟩ | ⟨a, len, cap, elems, rest, n, _, rfl, _, hb, hl, hm, hlen, hel, _, _⟩
  · exact ⟨[], ⟨none, 0, rfl, Nat.le_refl _, Kd.C_nil _ _⟩, by simp, by simp⟩
  · have each : ∀ i, i < len → ∃ y cs', w.cells? base (a.add (i * d.sz)) d.sz = some cs' ∧ d.K w y cs' ∧ G y := fun i hi => by
      have h1 := hel i hi
      rw [hc] at h1
      have : i < elems.length := by omega
      rw [List.getElem?_eq_getElem this] at h1
      obtain ⟨cs', h2, h3⟩ := Option.bind_eq_some_iff.1 h1
      obtain ⟨y, hK, hG⟩ := ho h3
      exact ⟨y, cs', h2, hK, hG⟩
    let f : (i : Nat) → i < len → α := fun i hi => Classical.choose (each i hi)
    have hf : ∀ i hi, ∃ cs', w.cells? base (a.add (i * d.sz)) d.sz = some cs' ∧ d.K w (f i hi) cs' ∧ G (f i hi) := fun i hi => Classical.choose_spec (each i hi)
    have hlen' : (List.ofFn fun i : Fin len => f i.1 i.2).length = len := List.length_ofFn
    refine ⟨List.ofFn fun i : Fin len => f i.1 i.2, ⟨some a, cap, by rw [hlen'], by rw [hlen']; exact hl, rfl, by rw [hlen']; unfold maxLen at hm; omega, fun hp => ⟨a, rfl, fun j p hj => ?_⟩⟩, fun x hx => ?_, by rw [hlen']; omega⟩
    · obtain ⟨hj1, hj2⟩ := List.getElem?_eq_some_iff.1 hj
      rw [hlen'] at hj1
      rw [List.getElem_ofFn] at hj2
      obtain ⟨cs', h2, hK, _⟩ := hf j hj1
      obtain ⟨_, h4, h5⟩ := World.cells?_some h2
      refine ⟨cs', h4, by rw [← hj2]; exact hK, fun i u hu => ?_⟩
      have hi : i < d.sz := by rw [← h4]; exact (List.getElem?_eq_some_iff.1 hu).1
      have h6 := h5 i hi
      rw [hu] at h6
      rw [← h6, addTwo]
    · obtain ⟨i, hi⟩ := List.getElem?_of_mem hx
      obtain ⟨hj1, hj2⟩ := List.getElem?_eq_some_iff.1 hi
      rw [hlen'] at hj1
      rw [List.getElem_ofFn] at hj2
      rw [← hj2]
      exact (hf i hj1).choose_spec.2.2
theorem slice_arg {α : Type} {t e : TypeId} {d : Kd α} {G : List α → Prop} {H : Type} {enc : TypeId × Value → H} {W : World} {base : Nat} {sp : Nat → Bool} {held : Bool} {v : Value} {D : DataW H} {p : List MemPlace} (ho : Opens t (Kd.slice e d) G)
    (hv : ∃ a len cap, v = .slice a len cap) (h : DataW.Trod enc Tryd.prog W base sp held t v D p) : ∃ A c xs, v = .slice A xs.length c ∧ xs.length ≤ c ∧ d.C W A xs.length xs ∧ G xs := by
  obtain ⟨a, len, cap, rfl⟩ := hv
  obtain ⟨fuel, hf⟩ := h
  obtain ⟨xs, ⟨A, c, he, hl, hC⟩, hG⟩ := ho hf
  simp only [Value.cells, List.cons.injEq, Value.slice.injEq, and_true] at he
  obtain ⟨rfl, rfl, rfl⟩ := he
  exact ⟨_, _, xs, rfl, hl, hC, hG⟩
theorem opens_Ints : Opens 22 (Kd.slice 3 (Kd.int .i64)) (fun xs => (∀ x ∈ xs, (Lit.int .i64 x).wf = true) ∧ xs.length ≤ maxLen) := Opens.slice Tryd.underlying22 (by kernel_rfl) (Opens.int Tryd.underlying3)
end Go.Proofs.YtpciieagafddcaaDoor.R
/- A plan, and a stage, that read as data are of the kinds of the contracts (own text). -/
namespace Go.Proofs.YtpciieagafddcaaDoor.R
open Go.ChangeShapes Go.WideShapes Go.ChangeAt Go.RowKit Go.Proofs.YtpciieagafddcaaDoorW.PrintWords Go.Proofs.YtpciieagafddcaaDoor.F
theorem cells_int : Tryd.prog.cellsOf 3 = 1 := by kernel_rfl
set_option maxRecDepth 100000 in
theorem opens_Stage : Opens 87 k87 (fun _ => True) := fun {H enc w base sp held fuel cs x} h => by
  obtain ⟨y0, y1, y2, n, _, hl, h0, h1, h2⟩ := Go.Deep.trod_struct3 Tryd.underlying87 h
  have hc : Tryd.prog.cellsOf 87 = 3 := by kernel_rfl
  rw [hc] at hl
  match cs, hl with
  | [c0, c1, c2], _ =>
    obtain ⟨a, ea, _⟩ := DataW.trod_int Tryd.underlying3 h0
    obtain ⟨b, eb, _⟩ := DataW.trod_int Tryd.underlying3 h1
    obtain ⟨c, ec, _⟩ := DataW.trod_int Tryd.underlying3 h2
    simp [cells_int] at ea eb ec
    subst ea eb ec
    exact ⟨⟨a, b, c⟩, k87_mk w ⟨a, b, c⟩, trivial⟩
theorem opens_Stages : Opens 23 (Kd.slice 87 k87) (fun xs => (∀ x ∈ xs, True) ∧ xs.length ≤ maxLen) := Opens.slice Tryd.underlying23 (by kernel_rfl) opens_Stage
set_option maxRecDepth 100000 in
theorem opens_Plan : Opens 25 k25 (fun _ => True) := fun {H enc w base sp held fuel cs x} h => by
  obtain ⟨xs, n, _, _, hl, hlen, hf⟩ := DataW.trod_struct Tryd.underlying25 h
  have hc : Tryd.prog.cellsOf 25 = 5 := by kernel_rfl
  have hs0 : Tryd.prog.cellsOf 22 = 1 := by kernel_rfl
  have hs1 : Tryd.prog.cellsOf 23 = 1 := by kernel_rfl
  rw [hc] at hl
  match cs, hl, xs, hlen with
  | [c0, c1, c2, c3, c4], _, [x0, x1, x2, x3, x4], _ =>
    have h0 := hf 0 _ rfl
    have h1 := hf 1 _ rfl
    have h2 := hf 2 _ rfl
    have h3 := hf 3 _ rfl
    have h4 := hf 4 _ rfl
    obtain ⟨l0, ⟨A0, k0, e0, g0, C0⟩, _⟩ := opens_Ints h0
    obtain ⟨l1, ⟨A1, k1, e1, g1, C1⟩, _⟩ := opens_Stages h1
    obtain ⟨a, ea, _⟩ := DataW.trod_int Tryd.underlying3 h2
    obtain ⟨b, eb, _⟩ := DataW.trod_int Tryd.underlying3 h3
    obtain ⟨c, ec, _⟩ := DataW.trod_int Tryd.underlying3 h4
    simp [cells_int, hs0, hs1] at e0 e1 ea eb ec
    subst e0 e1 ea eb ec
    exact ⟨⟨l0, l1, a, b, c⟩, k25_mk w ⟨l0, l1, a, b, c⟩ g0 C0 g1 C1, trivial⟩
theorem opens_LPlan : Opens 41 (Kd.slice 25 k25) (fun xs => (∀ x ∈ xs, True) ∧ xs.length ≤ maxLen) := Opens.slice Tryd.underlying41 (by kernel_rfl) opens_Plan
set_option maxRecDepth 100000 in
theorem opens_Ask : Opens 65 k65 (fun _ => True) := fun {H enc w base sp held fuel cs x} h => by
  obtain ⟨xs, n, _, _, hl, hlen, hf⟩ := DataW.trod_struct Tryd.underlying65 h
  have hc : Tryd.prog.cellsOf 65 = 2 := by kernel_rfl
  rw [hc] at hl
  match cs, hl, xs, hlen with
  | [c0, c1], _, [x0, x1], _ =>
    obtain ⟨a, ea, _⟩ := DataW.trod_int Tryd.underlying3 (hf 0 _ rfl)
    obtain ⟨b, eb, _⟩ := DataW.trod_int Tryd.underlying3 (hf 1 _ rfl)
    simp [cells_int] at ea eb
    subst ea eb
    exact ⟨⟨a, b⟩, k65_mk w ⟨a, b⟩, trivial⟩
theorem opens_LAsk : Opens 44 (Kd.slice 65 k65) (fun xs => (∀ x ∈ xs, True) ∧ xs.length ≤ maxLen) := Opens.slice Tryd.underlying44 (by kernel_rfl) opens_Ask
set_option maxRecDepth 100000 in
theorem sig_cells {H : Type} {enc : TypeId × Value → H} {W : World} {base : Nat} {sp : Nat → Bool} {held : Bool} {fuel : Nat} {cs : List Value} {x : DataW H × List MemPlace} (h : DataW.trod enc Tryd.prog W base sp held fuel 43 cs = some x) :
    ∃ a0 a1 a2 a3 a4 a5 a6 a7 a8 a9, cs = [.int .i64 a0, .int .i64 a1, .int .i64 a2, .int .i64 a3, .int .i64 a4, .int .i64 a5, .int .i64 a6, .int .i64 a7, .int .i64 a8, .bool a9] ∧ (-9223372036854775808 ≤ a4 ∧ a4 ≤ 9223372036854775807) := by
  obtain ⟨xs, n, _, _, hl, hlen, hf⟩ := DataW.trod_struct Tryd.underlying43 h
  have hc : Tryd.prog.cellsOf 43 = 10 := by kernel_rfl
  have hb1 : Tryd.prog.cellsOf 4 = 1 := by kernel_rfl
  rw [hc] at hl
  match cs, hl, xs, hlen with
  | [c0, c1, c2, c3, c4, c5, c6, c7, c8, c9], _, [x0, x1, x2, x3, x4, x5, x6, x7, x8, x9], _ =>
    obtain ⟨a0, e0, -⟩ := DataW.trod_int Tryd.underlying3 (hf 0 _ rfl)
    obtain ⟨a1, e1, -⟩ := DataW.trod_int Tryd.underlying3 (hf 1 _ rfl)
    obtain ⟨a2, e2, -⟩ := DataW.trod_int Tryd.underlying3 (hf 2 _ rfl)
    obtain ⟨a3, e3, -⟩ := DataW.trod_int Tryd.underlying3 (hf 3 _ rfl)
    obtain ⟨a4, e4, -, w4⟩ := DataW.trod_int Tryd.underlying3 (hf 4 _ rfl)
    obtain ⟨a5, e5, -⟩ := DataW.trod_int Tryd.underlying3 (hf 5 _ rfl)
    obtain ⟨a6, e6, -⟩ := DataW.trod_int Tryd.underlying3 (hf 6 _ rfl)
    obtain ⟨a7, e7, -⟩ := DataW.trod_int Tryd.underlying3 (hf 7 _ rfl)
    obtain ⟨a8, e8, -⟩ := DataW.trod_int Tryd.underlying3 (hf 8 _ rfl)
    obtain ⟨a9, e9, -⟩ := Opens.bool Tryd.underlying4 (hf 9 _ rfl)
    simp [cells_int, hb1] at e0 e1 e2 e3 e4 e5 e6 e7 e8 e9
    have e9 : [c9] = [Value.bool a9] := e9
    obtain rfl : c9 = Value.bool a9 := by injection e9
    subst e0 e1 e2 e3 e4 e5 e6 e7 e8
    refine ⟨a0, a1, a2, a3, a4, a5, a6, a7, a8, a9, rfl, ?_⟩
    simpa [Lit.wf, IntKind.min, IntKind.max, IntKind.bits, IntKind.signed] using w4
set_option maxRecDepth 100000 in
theorem arg_Sig {H : Type} {enc : TypeId × Value → H} {W : World} {base b0 : Nat} {r : Reach} {sp : Nat → Bool} {held : Bool} {v : Value} {D : DataW H} {p : List MemPlace} (hval : Value.okWide Tryd.prog W r b0 43 v) (h : DataW.Trod enc Tryd.prog W base sp held 43 v D p) :
    ∃ a0 a1 a2 a3 a4 a5 a6 a7 a8 a9, v = .agg #[.int .i64 a0, .int .i64 a1, .int .i64 a2, .int .i64 a3, .int .i64 a4, .int .i64 a5, .int .i64 a6, .int .i64 a7, .int .i64 a8, .bool a9] ∧ (-9223372036854775808 ≤ a4 ∧ a4 ≤ 9223372036854775807) := by
  obtain ⟨cs, rfl, _⟩ := okWide_struct Tryd.underlying43 hval
  obtain ⟨fuel, hf⟩ := h
  obtain ⟨a0, a1, a2, a3, a4, a5, a6, a7, a8, a9, e, hw⟩ := sig_cells hf
  refine ⟨a0, a1, a2, a3, a4, a5, a6, a7, a8, a9, ?_, hw⟩
  congr 1
  exact Array.toList_inj.1 e
end Go.Proofs.YtpciieagafddcaaDoor.R
