/- The types that the walked functions name, as the engine's table (written by wip/eng/mkeng.py). -/
import Derived.Test.YtechgjbhgeddjaaDoorQeEc
import Derived.Test.YtechgjbhgeddjaaDoorProg
namespace Go.Proofs.YtechgjbhgeddjaaDoor.E
open Go Go.RowKit Go.Proofs
def TY : TT := [
(1, ⟨.other, 1, 8, [.nilFunc]⟩),
(2, ⟨.int .i64, 1, 8, [.int .i64 0]⟩),
(3, ⟨.int .i64, 1, 8, [.int .i64 0]⟩),
(4, ⟨.bool, 1, 1, [.bool false]⟩),
(5, ⟨.int .u8, 1, 1, [.int .u8 0]⟩),
(6, ⟨.int .u8, 1, 1, [.int .u8 0]⟩),
(7, ⟨.struct [(0, 2), (1, 3), (2, 4), (3, 6)], 4, 24, [.int .i64 0, .int .i64 0, .bool false, .int .u8 0]⟩),
(8, ⟨.struct [(0, 2), (1, 3), (2, 4), (3, 6)], 4, 24, [.int .i64 0, .int .i64 0, .bool false, .int .u8 0]⟩),
(9, ⟨.str, 1, 16, [.string ⟨#[]⟩]⟩),
(22, ⟨.slice 39, 1, 24, [.slice none 0 0]⟩),
(23, ⟨.struct [(0, 3), (1, 3), (2, 3), (3, 3), (4, 3), (5, 3), (6, 3), (7, 3), (8, 3), (9, 4)], 10, 80, [.int .i64 0, .int .i64 0, .int .i64 0, .int .i64 0, .int .i64 0, .int .i64 0, .int .i64 0, .int .i64 0, .int .i64 0, .bool false]⟩),
(24, ⟨.struct [(0, 3), (1, 3), (2, 3), (3, 3), (4, 3), (5, 3), (6, 3), (7, 3), (8, 3), (9, 4)], 10, 80, [.int .i64 0, .int .i64 0, .int .i64 0, .int .i64 0, .int .i64 0, .int .i64 0, .int .i64 0, .int .i64 0, .int .i64 0, .bool false]⟩),
(28, ⟨.slice 32, 1, 24, [.slice none 0 0]⟩),
(32, ⟨.slice 3, 1, 24, [.slice none 0 0]⟩),
(37, ⟨.slice 41, 1, 24, [.slice none 0 0]⟩),
(38, ⟨.struct [(0, 32), (1, 37), (2, 3), (3, 3), (4, 3)], 5, 72, [.slice none 0 0, .slice none 0 0, .int .i64 0, .int .i64 0, .int .i64 0]⟩),
(39, ⟨.struct [(0, 32), (1, 37), (2, 3), (3, 3), (4, 3)], 5, 72, [.slice none 0 0, .slice none 0 0, .int .i64 0, .int .i64 0, .int .i64 0]⟩),
(40, ⟨.struct [(0, 3), (1, 3), (2, 3)], 3, 24, [.int .i64 0, .int .i64 0, .int .i64 0]⟩),
(41, ⟨.struct [(0, 3), (1, 3), (2, 3)], 3, 24, [.int .i64 0, .int .i64 0, .int .i64 0]⟩)
]
theorem TYok : TOk Tryd.prog TY := tok_of (by kernel_rfl) (by kernel_rfl)
theorem mixed : Tryd.prog.follows .mixedOrders = true := by kernel_rfl
end Go.Proofs.YtechgjbhgeddjaaDoor.E
