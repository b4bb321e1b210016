/- The types that the walked functions name, as the engine's table (written by wip/eng/mkeng.py). -/
import Derived.Test.YtpciieagafddcaaDoorQiEd
import Derived.Test.YtpciieagafddcaaDoorProg
namespace Go.Proofs.YtpciieagafddcaaDoor.E
open Go Go.RowKit Go.Proofs
def TY : TT := [
(1, ⟨.other, 1, 8, [.nilFunc]⟩),
(2, ⟨.int .i64, 1, 8, [.int .i64 0]⟩),
(3, ⟨.int .i64, 1, 8, [.int .i64 0]⟩),
(4, ⟨.bool, 1, 1, [.bool false]⟩),
(5, ⟨.int .u8, 1, 1, [.int .u8 0]⟩),
(6, ⟨.int .u8, 1, 1, [.int .u8 0]⟩),
(7, ⟨.struct [(0, 2), (1, 3), (2, 4), (3, 6)], 4, 24, [.int .i64 0, .int .i64 0, .bool false, .int .u8 0]⟩),
(8, ⟨.struct [(0, 2), (1, 3), (2, 4), (3, 6)], 4, 24, [.int .i64 0, .int .i64 0, .bool false, .int .u8 0]⟩),
(9, ⟨.str, 1, 16, [.string ⟨#[]⟩]⟩),
(20, ⟨.iface, 1, 16, [.nilIface]⟩),
(22, ⟨.slice 3, 1, 24, [.slice none 0 0]⟩),
(23, ⟨.slice 87, 1, 24, [.slice none 0 0]⟩),
(24, ⟨.struct [(0, 22), (1, 23), (2, 3), (3, 3), (4, 3)], 5, 72, [.slice none 0 0, .slice none 0 0, .int .i64 0, .int .i64 0, .int .i64 0]⟩),
(25, ⟨.struct [(0, 22), (1, 23), (2, 3), (3, 3), (4, 3)], 5, 72, [.slice none 0 0, .slice none 0 0, .int .i64 0, .int .i64 0, .int .i64 0]⟩),
(26, ⟨.slice 22, 1, 24, [.slice none 0 0]⟩),
(41, ⟨.slice 25, 1, 24, [.slice none 0 0]⟩),
(42, ⟨.struct [(0, 3), (1, 3), (2, 3), (3, 3), (4, 3), (5, 3), (6, 3), (7, 3), (8, 3), (9, 4)], 10, 80, [.int .i64 0, .int .i64 0, .int .i64 0, .int .i64 0, .int .i64 0, .int .i64 0, .int .i64 0, .int .i64 0, .int .i64 0, .bool false]⟩),
(43, ⟨.struct [(0, 3), (1, 3), (2, 3), (3, 3), (4, 3), (5, 3), (6, 3), (7, 3), (8, 3), (9, 4)], 10, 80, [.int .i64 0, .int .i64 0, .int .i64 0, .int .i64 0, .int .i64 0, .int .i64 0, .int .i64 0, .int .i64 0, .int .i64 0, .bool false]⟩),
(44, ⟨.slice 65, 1, 24, [.slice none 0 0]⟩),
(46, ⟨.int .i64, 1, 8, [.int .i64 0]⟩),
(49, ⟨.slice 46, 1, 24, [.slice none 0 0]⟩),
(64, ⟨.struct [(0, 3), (1, 3)], 2, 16, [.int .i64 0, .int .i64 0]⟩),
(65, ⟨.struct [(0, 3), (1, 3)], 2, 16, [.int .i64 0, .int .i64 0]⟩),
(86, ⟨.struct [(0, 3), (1, 3), (2, 3)], 3, 24, [.int .i64 0, .int .i64 0, .int .i64 0]⟩),
(87, ⟨.struct [(0, 3), (1, 3), (2, 3)], 3, 24, [.int .i64 0, .int .i64 0, .int .i64 0]⟩),
(89, ⟨.struct [(0, 46)], 1, 8, [.int .i64 0]⟩),
(90, ⟨.struct [(0, 46)], 1, 8, [.int .i64 0]⟩),
(92, ⟨.ptr 94, 1, 8, [.pointer none]⟩),
(93, ⟨.struct [(0, 41), (1, 43), (11, 3)], 12, 112, [.slice none 0 0, .int .i64 0, .int .i64 0, .int .i64 0, .int .i64 0, .int .i64 0, .int .i64 0, .int .i64 0, .int .i64 0, .int .i64 0, .bool false, .int .i64 0]⟩),
(94, ⟨.struct [(0, 41), (1, 43), (11, 3)], 12, 112, [.slice none 0 0, .int .i64 0, .int .i64 0, .int .i64 0, .int .i64 0, .int .i64 0, .int .i64 0, .int .i64 0, .int .i64 0, .int .i64 0, .bool false, .int .i64 0]⟩),
(95, ⟨.arr 8 1, 8, 64, [.nilFunc, .nilFunc, .nilFunc, .nilFunc, .nilFunc, .nilFunc, .nilFunc, .nilFunc]⟩),
(99, ⟨.other, 1, 8, [.nilFunc]⟩),
(100, ⟨.ptr 103, 1, 8, [.pointer none]⟩),
(101, ⟨.arr 3 99, 3, 24, [.nilFunc, .nilFunc, .nilFunc]⟩),
(102, ⟨.struct [(0, 41), (1, 43)], 11, 104, [.slice none 0 0, .int .i64 0, .int .i64 0, .int .i64 0, .int .i64 0, .int .i64 0, .int .i64 0, .int .i64 0, .int .i64 0, .int .i64 0, .bool false]⟩),
(103, ⟨.struct [(0, 41), (1, 43)], 11, 104, [.slice none 0 0, .int .i64 0, .int .i64 0, .int .i64 0, .int .i64 0, .int .i64 0, .int .i64 0, .int .i64 0, .int .i64 0, .int .i64 0, .bool false]⟩)
]
theorem TYok : TOk Tryd.prog TY := tok_of (by kernel_rfl) (by kernel_rfl)
theorem mixed : Tryd.prog.follows .mixedOrders = true := by kernel_rfl
end Go.Proofs.YtpciieagafddcaaDoor.E
