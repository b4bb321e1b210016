/- A plan, and a stage, that read as data are of the kinds of the contracts (own text). -/
import Derived.Test.YtpciieagafddcaaDoorQhR
import Derived.Deep.Strs
namespace Go.Proofs.YtpciieagafddcaaDoor.R
open Go.ChangeShapes Go.WideShapes Go.ChangeAt Go.RowKit Go.Proofs.YtpciieagafddcaaDoorW.PrintWords Go.Proofs.YtpciieagafddcaaDoor.F
theorem cells_int : Tryd.prog.cellsOf 3 = 1 := by kernel_rfl
set_option maxRecDepth 100000 in
theorem opens_Stage : Opens 87 k87 (fun _ => True) := fun {H enc w base sp held fuel cs x} h => by
  obtain ⟨y0, y1, y2, n, _, hl, h0, h1, h2⟩ := Go.Deep.trod_struct3 Tryd.underlying87 h
  have hc : Tryd.prog.cellsOf 87 = 3 := by kernel_rfl
  rw [hc] at hl
  match cs, hl with
  | [c0, c1, c2], _ =>
    obtain ⟨a, ea, _⟩ := DataW.trod_int Tryd.underlying3 h0
    obtain ⟨b, eb, _⟩ := DataW.trod_int Tryd.underlying3 h1
    obtain ⟨c, ec, _⟩ := DataW.trod_int Tryd.underlying3 h2
    simp [cells_int] at ea eb ec
    subst ea eb ec
    exact ⟨⟨a, b, c⟩, k87_mk w ⟨a, b, c⟩, trivial⟩
theorem opens_Stages : Opens 23 (Kd.slice 87 k87) (fun xs => (∀ x ∈ xs, True) ∧ xs.length ≤ maxLen) := Opens.slice Tryd.underlying23 (by kernel_rfl) opens_Stage
set_option maxRecDepth 100000 in
theorem opens_Plan : Opens 25 k25 (fun _ => True) := fun {H enc w base sp held fuel cs x} h => by
  obtain ⟨xs, n, _, _, hl, hlen, hf⟩ := DataW.trod_struct Tryd.underlying25 h
  have hc : Tryd.prog.cellsOf 25 = 5 := by kernel_rfl
  have hs0 : Tryd.prog.cellsOf 22 = 1 := by kernel_rfl
  have hs1 : Tryd.prog.cellsOf 23 = 1 := by kernel_rfl
  rw [hc] at hl
  match cs, hl, xs, hlen with
  | [c0, c1, c2, c3, c4], _, [x0, x1, x2, x3, x4], _ =>
    have h0 := hf 0 _ rfl
    have h1 := hf 1 _ rfl
    have h2 := hf 2 _ rfl
    have h3 := hf 3 _ rfl
    have h4 := hf 4 _ rfl
    obtain ⟨l0, ⟨A0, k0, e0, g0, C0⟩, _⟩ := opens_Ints h0
    obtain ⟨l1, ⟨A1, k1, e1, g1, C1⟩, _⟩ := opens_Stages h1
    obtain ⟨a, ea, _⟩ := DataW.trod_int Tryd.underlying3 h2
    obtain ⟨b, eb, _⟩ := DataW.trod_int Tryd.underlying3 h3
    obtain ⟨c, ec, _⟩ := DataW.trod_int Tryd.underlying3 h4
    simp [cells_int, hs0, hs1] at e0 e1 ea eb ec
    subst e0 e1 ea eb ec
    exact ⟨⟨l0, l1, a, b, c⟩, k25_mk w ⟨l0, l1, a, b, c⟩ g0 C0 g1 C1, trivial⟩
set_option maxRecDepth 100000 in
theorem arg_Plan {H : Type} {enc : TypeId × Value → H} {W : World} {base b0 : Nat} {r : Reach} {sp : Nat → Bool} {held : Bool} {v : Value} {D : DataW H} {p : List MemPlace} (hval : Value.okWide Tryd.prog W r b0 25 v) (h : DataW.Trod enc Tryd.prog W base sp held 25 v D p) :
    ∃ A0 c0 l0 A1 c1 l1 a2 a3 a4, v = .agg #[.slice A0 l0.length c0, .slice A1 l1.length c1, .int .i64 a2, .int .i64 a3, .int .i64 a4] ∧ l0.length ≤ c0 ∧ (Kd.int .i64).C W A0 l0.length l0 ∧ l1.length ≤ c1 ∧ k87.C W A1 l1.length l1 := by
  obtain ⟨cs, rfl, _⟩ := okWide_struct Tryd.underlying25 hval
  obtain ⟨fuel, hf⟩ := h
  obtain ⟨x, hK, _⟩ := opens_Plan hf
  obtain ⟨A0, c0, A1, c1, e, g0, C0, g1, C1⟩ := k25_open hK
  refine ⟨A0, c0, x.f0, A1, c1, x.f1, x.f2, x.f3, x.f4, ?_, g0, C0, g1, C1⟩
  congr 1
  exact Array.toList_inj.1 e
set_option maxRecDepth 100000 in
theorem opens_Ask : Opens 65 k65 (fun _ => True) := fun {H enc w base sp held fuel cs x} h => by
  obtain ⟨xs, n, _, _, hl, hlen, hf⟩ := DataW.trod_struct Tryd.underlying65 h
  have hc : Tryd.prog.cellsOf 65 = 2 := by kernel_rfl
  rw [hc] at hl
  match cs, hl, xs, hlen with
  | [c0, c1], _, [x0, x1], _ =>
    obtain ⟨a, ea, _⟩ := DataW.trod_int Tryd.underlying3 (hf 0 _ rfl)
    obtain ⟨b, eb, _⟩ := DataW.trod_int Tryd.underlying3 (hf 1 _ rfl)
    simp [cells_int] at ea eb
    subst ea eb
    exact ⟨⟨a, b⟩, k65_mk w ⟨a, b⟩, trivial⟩
theorem opens_LAsk : Opens 44 (Kd.slice 65 k65) (fun xs => (∀ x ∈ xs, True) ∧ xs.length ≤ maxLen) := Opens.slice Tryd.underlying44 (by kernel_rfl) opens_Ask
theorem opens_LLint : Opens 26 (Kd.slice 22 (Kd.slice 3 (Kd.int .i64))) (fun xs => (∀ x ∈ xs, (∀ y ∈ x, (Lit.int .i64 y).wf = true) ∧ x.length ≤ maxLen) ∧ xs.length ≤ maxLen) := Opens.slice Tryd.underlying26 (by kernel_rfl) opens_Ints
end Go.Proofs.YtpciieagafddcaaDoor.R
