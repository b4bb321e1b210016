/- Rows of lamps that are the same, walked by the engine (own text). -/
import Derived.Test.YtpciieagafddcaaDoorQhEB
import Derived.Test.YtpciieagafddcaaDoorQhPG
import Derived.Test.YtpciieagafddcaaDoorQhETY
namespace Go.Proofs.YtpciieagafddcaaDoor.E
open Go Go.RowKit Go.Proofs Go.Proofs.YtpciieagafddcaaDoorW.PrintWords Go.Proofs.YtpciieagafddcaaDoorW.PrintLast Go.Proofs.YtpciieagafddcaaDoorW.PrintMore Go.Proofs.YtpciieagafddcaaDoor.F
set_option linter.unusedVariables false
set_option linter.unusedSimpArgs false
set_option maxRecDepth 100000
set_option maxHeartbeats 8000000
attribute [local irreducible] acode callR
namespace Rw
theorem wr64 {x : Int} (h0 : -9223372036854775808 ≤ x) (h1 : x ≤ 9223372036854775807) : IntKind.i64.wrap x = x := (i64_w x).trans (PG.wr h0 h1)
theorem fI_eq {a b : Int} (h : a = b) : some (fI a) = some (fI b) := by rw [h]
def fRows (x : List (List Int)) : FV := .t (.one (cRows x))
theorem S_el {w : World} {I : Nat → Prop} {n sz : Nat} {el el' : Nat → Nat → CV} {y : Value} (h : (CV.sl n sz el).S w I y) (he : ∀ i j, i < n → j < sz → el i j = el' i j) : (CV.sl n sz el').S w I y := by
  obtain ⟨A, c, rfl, h1, h2, h3⟩ := h
  refine ⟨A, c, rfl, h1, h2, fun i j hi hj => ?_⟩
  obtain ⟨a, u, h4, h5, h6, h7, h8⟩ := h3 i j hi hj
  exact ⟨a, u, h4, h5, h6, by rw [← he i j hi hj]; exact h7, h8⟩
theorem SpecOk.pre {P : Program} {f : Nat} {G G' : List FV → FV → Prop} (h : SpecOk P f (.pure G)) (hw : ∀ a r, G' a r → ∃ b, G b r ∧ ∀ (c : Cx) ys, all2 (FV.R c) a ys → all2 (FV.R c) b ys) : SpecOk P f (.pure G') := by
  rintro args pre r post ⟨hG, rfl, rfl⟩ c ys hgl hy hI hZ hpre hdj
  obtain ⟨b, h1, h2⟩ := hw _ _ hG
  exact h b [] r [] ⟨h1, rfl, rfl⟩ c ys hgl (h2 c ys hy) hI hZ hpre hdj
def slF (n : Nat) (el : Nat → Nat → CV) : FV := .t (.one (.sl n 1 el))
end Rw
end Go.Proofs.YtpciieagafddcaaDoor.E
/- The types that more walked functions name, as the engine's table (written by wip/eng/mkeng.py). -/
namespace Go.Proofs.YtpciieagafddcaaDoor.E
open Go Go.RowKit Go.Proofs
def TZ : TT := [
(1, ⟨.other, 1, 8, [.nilFunc]⟩),
(2, ⟨.int .i64, 1, 8, [.int .i64 0]⟩),
(3, ⟨.int .i64, 1, 8, [.int .i64 0]⟩),
(4, ⟨.bool, 1, 1, [.bool false]⟩),
(5, ⟨.int .u8, 1, 1, [.int .u8 0]⟩),
(6, ⟨.int .u8, 1, 1, [.int .u8 0]⟩),
(12, ⟨.int .u64, 1, 8, [.int .u64 0]⟩),
(22, ⟨.slice 3, 1, 24, [.slice none 0 0]⟩),
(23, ⟨.slice 87, 1, 24, [.slice none 0 0]⟩),
(24, ⟨.struct [(0, 22), (1, 23), (2, 3), (3, 3), (4, 3)], 5, 72, [.slice none 0 0, .slice none 0 0, .int .i64 0, .int .i64 0, .int .i64 0]⟩),
(25, ⟨.struct [(0, 22), (1, 23), (2, 3), (3, 3), (4, 3)], 5, 72, [.slice none 0 0, .slice none 0 0, .int .i64 0, .int .i64 0, .int .i64 0]⟩),
(26, ⟨.slice 22, 1, 24, [.slice none 0 0]⟩),
(32, ⟨.struct [(0, 3), (1, 3), (2, 3)], 3, 24, [.int .i64 0, .int .i64 0, .int .i64 0]⟩),
(33, ⟨.struct [(0, 3), (1, 3), (2, 3)], 3, 24, [.int .i64 0, .int .i64 0, .int .i64 0]⟩),
(41, ⟨.slice 25, 1, 24, [.slice none 0 0]⟩),
(42, ⟨.struct [(0, 3), (1, 3), (2, 3), (3, 3), (4, 3), (5, 3), (6, 3), (7, 3), (8, 3), (9, 4)], 10, 80, [.int .i64 0, .int .i64 0, .int .i64 0, .int .i64 0, .int .i64 0, .int .i64 0, .int .i64 0, .int .i64 0, .int .i64 0, .bool false]⟩),
(43, ⟨.struct [(0, 3), (1, 3), (2, 3), (3, 3), (4, 3), (5, 3), (6, 3), (7, 3), (8, 3), (9, 4)], 10, 80, [.int .i64 0, .int .i64 0, .int .i64 0, .int .i64 0, .int .i64 0, .int .i64 0, .int .i64 0, .int .i64 0, .int .i64 0, .bool false]⟩),
(44, ⟨.slice 65, 1, 24, [.slice none 0 0]⟩),
(64, ⟨.struct [(0, 3), (1, 3)], 2, 16, [.int .i64 0, .int .i64 0]⟩),
(65, ⟨.struct [(0, 3), (1, 3)], 2, 16, [.int .i64 0, .int .i64 0]⟩),
(74, ⟨.struct [(0, 3), (1, 3), (2, 3)], 3, 24, [.int .i64 0, .int .i64 0, .int .i64 0]⟩),
(75, ⟨.struct [(0, 3), (1, 3), (2, 3)], 3, 24, [.int .i64 0, .int .i64 0, .int .i64 0]⟩),
(76, ⟨.other, 1, 8, [.nilFunc]⟩),
(86, ⟨.struct [(0, 3), (1, 3), (2, 3)], 3, 24, [.int .i64 0, .int .i64 0, .int .i64 0]⟩),
(87, ⟨.struct [(0, 3), (1, 3), (2, 3)], 3, 24, [.int .i64 0, .int .i64 0, .int .i64 0]⟩),
(106, ⟨.arr 3 3, 3, 24, [.int .i64 0, .int .i64 0, .int .i64 0]⟩)
]
theorem TZok : TOk Tryd.prog TZ := tok_of (by kernel_rfl) (by kernel_rfl)
end Go.Proofs.YtpciieagafddcaaDoor.E
