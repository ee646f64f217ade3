/- LxF3 -/
import Derived.Test.YtdfpjodlbimgdaaDoorLxS
import Derived.Test.YtdfpjodlbimgdaaDoorProg
set_option linter.unusedSimpArgs false
set_option linter.unusedVariables false
set_option linter.unusedSectionVars false
set_option linter.unnecessarySimpa false
namespace Go.LX
open Go Go.Proofs

theorem f_u2 : Tryd.prog.underlying 2 = some (.int .i64) := by kernel_rfl
theorem f_a2 : isAggB Tryd.prog 2 = some false := by kernel_rfl
theorem f_c2 : Tryd.prog.cellsOf 2 = 1 := by kernel_rfl
theorem f_z2 : zeroPV Tryd.prog 2 = some [.int .i64 0] := by kernel_rfl
theorem f_b2 : bytesOf' Tryd.prog 2 = some 8 := by kernel_rfl
theorem f_u3 : Tryd.prog.underlying 3 = some (.int .i64) := by kernel_rfl
theorem f_a3 : isAggB Tryd.prog 3 = some false := by kernel_rfl
theorem f_c3 : Tryd.prog.cellsOf 3 = 1 := by kernel_rfl
theorem f_z3 : zeroPV Tryd.prog 3 = some [.int .i64 0] := by kernel_rfl
theorem f_b3 : bytesOf' Tryd.prog 3 = some 8 := by kernel_rfl
theorem f_u4 : Tryd.prog.underlying 4 = some (.bool) := by kernel_rfl
theorem f_a4 : isAggB Tryd.prog 4 = some false := by kernel_rfl
theorem f_c4 : Tryd.prog.cellsOf 4 = 1 := by kernel_rfl
theorem f_z4 : zeroPV Tryd.prog 4 = some [.bool false] := by kernel_rfl
theorem f_b4 : bytesOf' Tryd.prog 4 = some 1 := by kernel_rfl
theorem f_u5 : Tryd.prog.underlying 5 = some (.int .u8) := by kernel_rfl
theorem f_a5 : isAggB Tryd.prog 5 = some false := by kernel_rfl
theorem f_c5 : Tryd.prog.cellsOf 5 = 1 := by kernel_rfl
theorem f_z5 : zeroPV Tryd.prog 5 = some [.int .u8 0] := by kernel_rfl
theorem f_b5 : bytesOf' Tryd.prog 5 = some 1 := by kernel_rfl
theorem f_u9 : Tryd.prog.underlying 9 = some (.string) := by kernel_rfl
theorem f_a9 : isAggB Tryd.prog 9 = some false := by kernel_rfl
theorem f_c9 : Tryd.prog.cellsOf 9 = 1 := by kernel_rfl
theorem f_z9 : zeroPV Tryd.prog 9 = some [.str []] := by kernel_rfl
theorem f_b9 : bytesOf' Tryd.prog 9 = some 16 := by kernel_rfl
theorem f_u21 : Tryd.prog.underlying 21 = some (.int .i32) := by kernel_rfl
theorem f_a21 : isAggB Tryd.prog 21 = some false := by kernel_rfl
theorem f_c21 : Tryd.prog.cellsOf 21 = 1 := by kernel_rfl
theorem f_z21 : zeroPV Tryd.prog 21 = some [.int .i32 0] := by kernel_rfl
theorem f_b21 : bytesOf' Tryd.prog 21 = some 4 := by kernel_rfl
theorem f_a23 : isAggB Tryd.prog 23 = some true := by kernel_rfl
theorem f_c23 : Tryd.prog.cellsOf 23 = 6 := by kernel_rfl
theorem f_f23_0 : fld Tryd.prog 23 0 = some (0, 3) := by kernel_rfl
theorem f_f23_1 : fld Tryd.prog 23 1 = some (1, 3) := by kernel_rfl
theorem f_f23_2 : fld Tryd.prog 23 2 = some (2, 9) := by kernel_rfl
theorem f_f23_3 : fld Tryd.prog 23 3 = some (3, 9) := by kernel_rfl
theorem f_f23_4 : fld Tryd.prog 23 4 = some (4, 4) := by kernel_rfl
theorem f_f23_5 : fld Tryd.prog 23 5 = some (5, 3) := by kernel_rfl
theorem f_ff23 : fieldsFull Tryd.prog 23 = true := by kernel_rfl
theorem f_t23 : tagsOf Tryd.prog 23 = some [.int, .int, .str, .str, .bool, .int] := by kernel_rfl
theorem f_z23 : zeroPV Tryd.prog 23 = some [.int .i64 0, .int .i64 0, .str [], .str [], .bool false, .int .i64 0] := by kernel_rfl
theorem f_b23 : bytesOf' Tryd.prog 23 = some 64 := by kernel_rfl
theorem f_u25 : Tryd.prog.underlying 25 = some (.int .i64) := by kernel_rfl
theorem f_a25 : isAggB Tryd.prog 25 = some false := by kernel_rfl
theorem f_c25 : Tryd.prog.cellsOf 25 = 1 := by kernel_rfl
theorem f_z25 : zeroPV Tryd.prog 25 = some [.int .i64 0] := by kernel_rfl
theorem f_b25 : bytesOf' Tryd.prog 25 = some 8 := by kernel_rfl
theorem f_u38 : Tryd.prog.underlying 38 = some (.array 2 5) := by kernel_rfl
theorem f_a38 : isAggB Tryd.prog 38 = some true := by kernel_rfl
theorem f_c38 : Tryd.prog.cellsOf 38 = 2 := by kernel_rfl
theorem f_ar38 : arE Tryd.prog 38 = some (2, 5, 1) := by kernel_rfl
theorem f_z38 : zeroPV Tryd.prog 38 = some [.int .u8 0, .int .u8 0] := by kernel_rfl
theorem f_b38 : bytesOf' Tryd.prog 38 = some 2 := by kernel_rfl
theorem f_u59 : Tryd.prog.underlying 59 = some (.slice 5) := by kernel_rfl
theorem f_a59 : isAggB Tryd.prog 59 = some false := by kernel_rfl
theorem f_c59 : Tryd.prog.cellsOf 59 = 1 := by kernel_rfl
theorem f_s59 : slE Tryd.prog 59 = some (5, 1) := by kernel_rfl
theorem f_z59 : zeroPV Tryd.prog 59 = some [.snil] := by kernel_rfl
theorem f_b59 : bytesOf' Tryd.prog 59 = some 24 := by kernel_rfl
theorem hm : Tryd.prog.follows .mixedOrders = true := by kernel_rfl
end Go.LX
