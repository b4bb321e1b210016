/- A plan, and a stage, that read as data are of the kinds of the contracts (own text). -/
import Derived.Test.YtpciieagafddcaaDoorQbR
import Derived.Deep.Strs
namespace Go.Proofs.YtpciieagafddcaaDoor.R
open Go.ChangeShapes Go.WideShapes Go.ChangeAt Go.RowKit Go.Proofs.YtpciieagafddcaaDoorW.PrintWords Go.Proofs.YtpciieagafddcaaDoor.F
theorem cells_int : Tryd.prog.cellsOf 3 = 1 := by kernel_rfl
set_option maxRecDepth 100000 in
theorem opens_Stage : Opens 87 k87 (fun _ => True) := fun {H enc w base sp held fuel cs x} h => by
  obtain ⟨y0, y1, y2, n, _, hl, h0, h1, h2⟩ := Go.Deep.trod_struct3 Tryd.underlying87 h
  have hc : Tryd.prog.cellsOf 87 = 3 := by kernel_rfl
  rw [hc] at hl
  match cs, hl with
  | [c0, c1, c2], _ =>
    obtain ⟨a, ea, _⟩ := DataW.trod_int Tryd.underlying3 h0
    obtain ⟨b, eb, _⟩ := DataW.trod_int Tryd.underlying3 h1
    obtain ⟨c, ec, _⟩ := DataW.trod_int Tryd.underlying3 h2
    simp [cells_int] at ea eb ec
    subst ea eb ec
    exact ⟨⟨a, b, c⟩, k87_mk w ⟨a, b, c⟩, trivial⟩
theorem opens_Stages : Opens 23 (Kd.slice 87 k87) (fun xs => (∀ x ∈ xs, True) ∧ xs.length ≤ maxLen) := Opens.slice Tryd.underlying23 (by kernel_rfl) opens_Stage
set_option maxRecDepth 100000 in
theorem opens_Plan : Opens 25 k25 (fun _ => True) := fun {H enc w base sp held fuel cs x} h => by
  obtain ⟨xs, n, _, _, hl, hlen, hf⟩ := DataW.trod_struct Tryd.underlying25 h
  have hc : Tryd.prog.cellsOf 25 = 5 := by kernel_rfl
  have hs0 : Tryd.prog.cellsOf 22 = 1 := by kernel_rfl
  have hs1 : Tryd.prog.cellsOf 23 = 1 := by kernel_rfl
  rw [hc] at hl
  match cs, hl, xs, hlen with
  | [c0, c1, c2, c3, c4], _, [x0, x1, x2, x3, x4], _ =>
    have h0 := hf 0 _ rfl
    have h1 := hf 1 _ rfl
    have h2 := hf 2 _ rfl
    have h3 := hf 3 _ rfl
    have h4 := hf 4 _ rfl
    obtain ⟨l0, ⟨A0, k0, e0, g0, C0⟩, _⟩ := opens_Ints h0
    obtain ⟨l1, ⟨A1, k1, e1, g1, C1⟩, _⟩ := opens_Stages h1
    obtain ⟨a, ea, _⟩ := DataW.trod_int Tryd.underlying3 h2
    obtain ⟨b, eb, _⟩ := DataW.trod_int Tryd.underlying3 h3
    obtain ⟨c, ec, _⟩ := DataW.trod_int Tryd.underlying3 h4
    simp [cells_int, hs0, hs1] at e0 e1 ea eb ec
    subst e0 e1 ea eb ec
    exact ⟨⟨l0, l1, a, b, c⟩, k25_mk w ⟨l0, l1, a, b, c⟩ g0 C0 g1 C1, trivial⟩
theorem opens_LPlan : Opens 41 (Kd.slice 25 k25) (fun xs => (∀ x ∈ xs, True) ∧ xs.length ≤ maxLen) := Opens.slice Tryd.underlying41 (by kernel_rfl) opens_Plan
set_option maxRecDepth 100000 in
theorem opens_Ask : Opens 65 k65 (fun _ => True) := fun {H enc w base sp held fuel cs x} h => by
  obtain ⟨xs, n, _, _, hl, hlen, hf⟩ := DataW.trod_struct Tryd.underlying65 h
  have hc : Tryd.prog.cellsOf 65 = 2 := by kernel_rfl
  rw [hc] at hl
  match cs, hl, xs, hlen with
  | [c0, c1], _, [x0, x1], _ =>
    obtain ⟨a, ea, _⟩ := DataW.trod_int Tryd.underlying3 (hf 0 _ rfl)
    obtain ⟨b, eb, _⟩ := DataW.trod_int Tryd.underlying3 (hf 1 _ rfl)
    simp [cells_int] at ea eb
    subst ea eb
    exact ⟨⟨a, b⟩, k65_mk w ⟨a, b⟩, trivial⟩
theorem opens_LAsk : Opens 44 (Kd.slice 65 k65) (fun xs => (∀ x ∈ xs, True) ∧ xs.length ≤ maxLen) := Opens.slice Tryd.underlying44 (by kernel_rfl) opens_Ask
set_option maxRecDepth 100000 in
theorem sig_cells {H : Type} {enc : TypeId × Value → H} {W : World} {base : Nat} {sp : Nat → Bool} {held : Bool} {fuel : Nat} {cs : List Value} {x : DataW H × List MemPlace} (h : DataW.trod enc Tryd.prog W base sp held fuel 43 cs = some x) :
    ∃ a0 a1 a2 a3 a4 a5 a6 a7 a8 a9, cs = [.int .i64 a0, .int .i64 a1, .int .i64 a2, .int .i64 a3, .int .i64 a4, .int .i64 a5, .int .i64 a6, .int .i64 a7, .int .i64 a8, .bool a9] ∧ (-9223372036854775808 ≤ a4 ∧ a4 ≤ 9223372036854775807) := by
  obtain ⟨xs, n, _, _, hl, hlen, hf⟩ := DataW.trod_struct Tryd.underlying43 h
  have hc : Tryd.prog.cellsOf 43 = 10 := by kernel_rfl
  have hb1 : Tryd.prog.cellsOf 4 = 1 := by kernel_rfl
  rw [hc] at hl
  match cs, hl, xs, hlen with
  | [c0, c1, c2, c3, c4, c5, c6, c7, c8, c9], _, [x0, x1, x2, x3, x4, x5, x6, x7, x8, x9], _ =>
    obtain ⟨a0, e0, -⟩ := DataW.trod_int Tryd.underlying3 (hf 0 _ rfl)
    obtain ⟨a1, e1, -⟩ := DataW.trod_int Tryd.underlying3 (hf 1 _ rfl)
    obtain ⟨a2, e2, -⟩ := DataW.trod_int Tryd.underlying3 (hf 2 _ rfl)
    obtain ⟨a3, e3, -⟩ := DataW.trod_int Tryd.underlying3 (hf 3 _ rfl)
    obtain ⟨a4, e4, -, w4⟩ := DataW.trod_int Tryd.underlying3 (hf 4 _ rfl)
    obtain ⟨a5, e5, -⟩ := DataW.trod_int Tryd.underlying3 (hf 5 _ rfl)
    obtain ⟨a6, e6, -⟩ := DataW.trod_int Tryd.underlying3 (hf 6 _ rfl)
    obtain ⟨a7, e7, -⟩ := DataW.trod_int Tryd.underlying3 (hf 7 _ rfl)
    obtain ⟨a8, e8, -⟩ := DataW.trod_int Tryd.underlying3 (hf 8 _ rfl)
    obtain ⟨a9, e9, -⟩ := Opens.bool Tryd.underlying4 (hf 9 _ rfl)
    simp [cells_int, hb1] at e0 e1 e2 e3 e4 e5 e6 e7 e8 e9
    have e9 : [c9] = [Value.bool a9] := e9
    obtain rfl : c9 = Value.bool a9 := by injection e9
    subst e0 e1 e2 e3 e4 e5 e6 e7 e8
    refine ⟨a0, a1, a2, a3, a4, a5, a6, a7, a8, a9, rfl, ?_⟩
    simpa [Lit.wf, IntKind.min, IntKind.max, IntKind.bits, IntKind.signed] using w4
set_option maxRecDepth 100000 in
theorem arg_Sig {H : Type} {enc : TypeId × Value → H} {W : World} {base b0 : Nat} {r : Reach} {sp : Nat → Bool} {held : Bool} {v : Value} {D : DataW H} {p : List MemPlace} (hval : Value.okWide Tryd.prog W r b0 43 v) (h : DataW.Trod enc Tryd.prog W base sp held 43 v D p) :
    ∃ a0 a1 a2 a3 a4 a5 a6 a7 a8 a9, v = .agg #[.int .i64 a0, .int .i64 a1, .int .i64 a2, .int .i64 a3, .int .i64 a4, .int .i64 a5, .int .i64 a6, .int .i64 a7, .int .i64 a8, .bool a9] ∧ (-9223372036854775808 ≤ a4 ∧ a4 ≤ 9223372036854775807) := by
  obtain ⟨cs, rfl, _⟩ := okWide_struct Tryd.underlying43 hval
  obtain ⟨fuel, hf⟩ := h
  obtain ⟨a0, a1, a2, a3, a4, a5, a6, a7, a8, a9, e, hw⟩ := sig_cells hf
  refine ⟨a0, a1, a2, a3, a4, a5, a6, a7, a8, a9, ?_, hw⟩
  congr 1
  exact Array.toList_inj.1 e
end Go.Proofs.YtpciieagafddcaaDoor.R
