/- LxFa -/
import Derived.Test.YteiencnfglbnkaaDoorLxS
import Derived.Test.YteiencnfglbnkaaDoorProg
set_option linter.unusedSimpArgs false
set_option linter.unusedVariables false
set_option linter.unusedSectionVars false
set_option linter.unnecessarySimpa false
namespace Go.LX
open Go Go.Proofs

theorem f_u2 : Tryd.prog.underlying 2 = some (.int .i64) := by kernel_rfl
theorem f_a2 : isAggB Tryd.prog 2 = some false := by kernel_rfl
theorem f_c2 : Tryd.prog.cellsOf 2 = 1 := by kernel_rfl
theorem f_z2 : zeroPV Tryd.prog 2 = some [.int .i64 0] := by kernel_rfl
theorem f_zo2 : zeroOne Tryd.prog 2 = some (.int .i64 0) := by kernel_rfl
theorem f_b2 : bytesOf' Tryd.prog 2 = some 8 := by kernel_rfl
theorem f_u3 : Tryd.prog.underlying 3 = some (.int .i64) := by kernel_rfl
theorem f_a3 : isAggB Tryd.prog 3 = some false := by kernel_rfl
theorem f_c3 : Tryd.prog.cellsOf 3 = 1 := by kernel_rfl
theorem f_z3 : zeroPV Tryd.prog 3 = some [.int .i64 0] := by kernel_rfl
theorem f_zo3 : zeroOne Tryd.prog 3 = some (.int .i64 0) := by kernel_rfl
theorem f_b3 : bytesOf' Tryd.prog 3 = some 8 := by kernel_rfl
theorem f_u4 : Tryd.prog.underlying 4 = some (.bool) := by kernel_rfl
theorem f_a4 : isAggB Tryd.prog 4 = some false := by kernel_rfl
theorem f_c4 : Tryd.prog.cellsOf 4 = 1 := by kernel_rfl
theorem f_z4 : zeroPV Tryd.prog 4 = some [.bool false] := by kernel_rfl
theorem f_zo4 : zeroOne Tryd.prog 4 = some (.bool false) := by kernel_rfl
theorem f_b4 : bytesOf' Tryd.prog 4 = some 1 := by kernel_rfl
theorem f_u5 : Tryd.prog.underlying 5 = some (.int .u8) := by kernel_rfl
theorem f_a5 : isAggB Tryd.prog 5 = some false := by kernel_rfl
theorem f_c5 : Tryd.prog.cellsOf 5 = 1 := by kernel_rfl
theorem f_z5 : zeroPV Tryd.prog 5 = some [.int .u8 0] := by kernel_rfl
theorem f_zo5 : zeroOne Tryd.prog 5 = some (.int .u8 0) := by kernel_rfl
theorem f_b5 : bytesOf' Tryd.prog 5 = some 1 := by kernel_rfl
theorem f_u9 : Tryd.prog.underlying 9 = some (.string) := by kernel_rfl
theorem f_a9 : isAggB Tryd.prog 9 = some false := by kernel_rfl
theorem f_c9 : Tryd.prog.cellsOf 9 = 1 := by kernel_rfl
theorem f_z9 : zeroPV Tryd.prog 9 = some [.str []] := by kernel_rfl
theorem f_zo9 : zeroOne Tryd.prog 9 = some (.str []) := by kernel_rfl
theorem f_b9 : bytesOf' Tryd.prog 9 = some 16 := by kernel_rfl
theorem f_u21 : Tryd.prog.underlying 21 = some (.int .i32) := by kernel_rfl
theorem f_a21 : isAggB Tryd.prog 21 = some false := by kernel_rfl
theorem f_c21 : Tryd.prog.cellsOf 21 = 1 := by kernel_rfl
theorem f_z21 : zeroPV Tryd.prog 21 = some [.int .i32 0] := by kernel_rfl
theorem f_zo21 : zeroOne Tryd.prog 21 = some (.int .i32 0) := by kernel_rfl
theorem f_b21 : bytesOf' Tryd.prog 21 = some 4 := by kernel_rfl
theorem f_u36 : Tryd.prog.underlying 36 = some (.slice 37) := by kernel_rfl
theorem f_a36 : isAggB Tryd.prog 36 = some false := by kernel_rfl
theorem f_c36 : Tryd.prog.cellsOf 36 = 1 := by kernel_rfl
theorem f_s36 : slE Tryd.prog 36 = some (37, 2) := by kernel_rfl
theorem f_z36 : zeroPV Tryd.prog 36 = some [.snil] := by kernel_rfl
theorem f_zo36 : zeroOne Tryd.prog 36 = some (.snil) := by kernel_rfl
theorem f_b36 : bytesOf' Tryd.prog 36 = some 24 := by kernel_rfl
theorem f_u37 : Tryd.prog.underlying 37 = some (.array 2 5) := by kernel_rfl
theorem f_a37 : isAggB Tryd.prog 37 = some true := by kernel_rfl
theorem f_c37 : Tryd.prog.cellsOf 37 = 2 := by kernel_rfl
theorem f_ar37 : arE Tryd.prog 37 = some (2, 5, 1) := by kernel_rfl
theorem f_z37 : zeroPV Tryd.prog 37 = some [.int .u8 0, .int .u8 0] := by kernel_rfl
theorem f_zo37 : zeroOne Tryd.prog 37 = some (.agg [.int .u8 0, .int .u8 0]) := by kernel_rfl
theorem f_b37 : bytesOf' Tryd.prog 37 = some 2 := by kernel_rfl
theorem f_u41 : Tryd.prog.underlying 41 = some (.slice 5) := by kernel_rfl
theorem f_a41 : isAggB Tryd.prog 41 = some false := by kernel_rfl
theorem f_c41 : Tryd.prog.cellsOf 41 = 1 := by kernel_rfl
theorem f_s41 : slE Tryd.prog 41 = some (5, 1) := by kernel_rfl
theorem f_z41 : zeroPV Tryd.prog 41 = some [.snil] := by kernel_rfl
theorem f_zo41 : zeroOne Tryd.prog 41 = some (.snil) := by kernel_rfl
theorem f_b41 : bytesOf' Tryd.prog 41 = some 24 := by kernel_rfl
theorem f_u44 : Tryd.prog.underlying 44 = some (.int .i64) := by kernel_rfl
theorem f_a44 : isAggB Tryd.prog 44 = some false := by kernel_rfl
theorem f_c44 : Tryd.prog.cellsOf 44 = 1 := by kernel_rfl
theorem f_z44 : zeroPV Tryd.prog 44 = some [.int .i64 0] := by kernel_rfl
theorem f_zo44 : zeroOne Tryd.prog 44 = some (.int .i64 0) := by kernel_rfl
theorem f_b44 : bytesOf' Tryd.prog 44 = some 8 := by kernel_rfl
theorem f_u52 : Tryd.prog.underlying 52 = some (.int .u32) := by kernel_rfl
theorem f_a52 : isAggB Tryd.prog 52 = some false := by kernel_rfl
theorem f_c52 : Tryd.prog.cellsOf 52 = 1 := by kernel_rfl
theorem f_z52 : zeroPV Tryd.prog 52 = some [.int .u32 0] := by kernel_rfl
theorem f_zo52 : zeroOne Tryd.prog 52 = some (.int .u32 0) := by kernel_rfl
theorem f_b52 : bytesOf' Tryd.prog 52 = some 4 := by kernel_rfl
theorem f_u66 : Tryd.prog.underlying 66 = some (.pointer 68) := by kernel_rfl
theorem f_a66 : isAggB Tryd.prog 66 = some false := by kernel_rfl
theorem f_c66 : Tryd.prog.cellsOf 66 = 1 := by kernel_rfl
theorem f_z66 : zeroPV Tryd.prog 66 = some [.nptr] := by kernel_rfl
theorem f_zo66 : zeroOne Tryd.prog 66 = some (.nptr) := by kernel_rfl
theorem f_i66 : (Tryd.prog.info? 66).isSome = true := by kernel_rfl
theorem f_b66 : bytesOf' Tryd.prog 66 = some 8 := by kernel_rfl
theorem f_a68 : isAggB Tryd.prog 68 = some true := by kernel_rfl
theorem f_c68 : Tryd.prog.cellsOf 68 = 2 := by kernel_rfl
theorem f_f68_0 : fld Tryd.prog 68 0 = some (0, 66) := by kernel_rfl
theorem f_f68_1 : fld Tryd.prog 68 1 = some (1, 41) := by kernel_rfl
theorem f_ff68 : fieldsFull Tryd.prog 68 = true := by kernel_rfl
theorem f_z68 : zeroPV Tryd.prog 68 = some [.nptr, .snil] := by kernel_rfl
theorem f_zo68 : zeroOne Tryd.prog 68 = some (.agg [.nptr, .snil]) := by kernel_rfl
theorem f_i68 : (Tryd.prog.info? 68).isSome = true := by kernel_rfl
theorem f_b68 : bytesOf' Tryd.prog 68 = some 32 := by kernel_rfl
theorem f_u73 : Tryd.prog.underlying 73 = some (.interface #[("Error", 71)]) := by kernel_rfl
theorem f_a73 : isAggB Tryd.prog 73 = some false := by kernel_rfl
theorem f_c73 : Tryd.prog.cellsOf 73 = 1 := by kernel_rfl
theorem f_b73 : bytesOf' Tryd.prog 73 = some 16 := by kernel_rfl
theorem f_u79 : Tryd.prog.underlying 79 = some (.map 21 5) := by kernel_rfl
theorem f_a79 : isAggB Tryd.prog 79 = some false := by kernel_rfl
theorem f_c79 : Tryd.prog.cellsOf 79 = 1 := by kernel_rfl
theorem f_z79 : zeroPV Tryd.prog 79 = some [.nmap] := by kernel_rfl
theorem f_zo79 : zeroOne Tryd.prog 79 = some (.nmap) := by kernel_rfl
theorem f_m79 : mapT Tryd.prog 79 = some (21, 5) := by kernel_rfl
theorem f_b79 : bytesOf' Tryd.prog 79 = some 8 := by kernel_rfl
theorem f_u89 : Tryd.prog.underlying 89 = some (.int .u64) := by kernel_rfl
theorem f_a89 : isAggB Tryd.prog 89 = some false := by kernel_rfl
theorem f_c89 : Tryd.prog.cellsOf 89 = 1 := by kernel_rfl
theorem f_z89 : zeroPV Tryd.prog 89 = some [.int .u64 0] := by kernel_rfl
theorem f_zo89 : zeroOne Tryd.prog 89 = some (.int .u64 0) := by kernel_rfl
theorem f_b89 : bytesOf' Tryd.prog 89 = some 8 := by kernel_rfl
theorem f_u97 : Tryd.prog.underlying 97 = some (.pointer 5) := by kernel_rfl
theorem f_a97 : isAggB Tryd.prog 97 = some false := by kernel_rfl
theorem f_c97 : Tryd.prog.cellsOf 97 = 1 := by kernel_rfl
theorem f_z97 : zeroPV Tryd.prog 97 = some [.nptr] := by kernel_rfl
theorem f_zo97 : zeroOne Tryd.prog 97 = some (.nptr) := by kernel_rfl
theorem f_i97 : (Tryd.prog.info? 97).isSome = true := by kernel_rfl
theorem f_b97 : bytesOf' Tryd.prog 97 = some 8 := by kernel_rfl
theorem f_u99 : Tryd.prog.underlying 99 = some (.map 5 21) := by kernel_rfl
theorem f_a99 : isAggB Tryd.prog 99 = some false := by kernel_rfl
theorem f_c99 : Tryd.prog.cellsOf 99 = 1 := by kernel_rfl
theorem f_z99 : zeroPV Tryd.prog 99 = some [.nmap] := by kernel_rfl
theorem f_zo99 : zeroOne Tryd.prog 99 = some (.nmap) := by kernel_rfl
theorem f_m99 : mapT Tryd.prog 99 = some (5, 21) := by kernel_rfl
theorem f_b99 : bytesOf' Tryd.prog 99 = some 8 := by kernel_rfl
theorem f_u109 : Tryd.prog.underlying 109 = some (.int .u64) := by kernel_rfl
theorem f_a109 : isAggB Tryd.prog 109 = some false := by kernel_rfl
theorem f_c109 : Tryd.prog.cellsOf 109 = 1 := by kernel_rfl
theorem f_z109 : zeroPV Tryd.prog 109 = some [.int .u64 0] := by kernel_rfl
theorem f_zo109 : zeroOne Tryd.prog 109 = some (.int .u64 0) := by kernel_rfl
theorem f_b109 : bytesOf' Tryd.prog 109 = some 8 := by kernel_rfl
theorem f_u113 : Tryd.prog.underlying 113 = some (.array 256 5) := by kernel_rfl
theorem f_a113 : isAggB Tryd.prog 113 = some true := by kernel_rfl
theorem f_c113 : Tryd.prog.cellsOf 113 = 256 := by kernel_rfl
theorem f_ar113 : arE Tryd.prog 113 = some (256, 5, 1) := by kernel_rfl
theorem f_b113 : bytesOf' Tryd.prog 113 = some 256 := by kernel_rfl
theorem f_a114 : isAggB Tryd.prog 114 = some true := by kernel_rfl
theorem f_c114 : Tryd.prog.cellsOf 114 = 2 := by kernel_rfl
theorem f_f114_0 : fld Tryd.prog 114 0 = some (0, 5) := by kernel_rfl
theorem f_f114_1 : fld Tryd.prog 114 1 = some (1, 5) := by kernel_rfl
theorem f_ff114 : fieldsFull Tryd.prog 114 = true := by kernel_rfl
theorem f_z114 : zeroPV Tryd.prog 114 = some [.int .u8 0, .int .u8 0] := by kernel_rfl
theorem f_zo114 : zeroOne Tryd.prog 114 = some (.agg [.int .u8 0, .int .u8 0]) := by kernel_rfl
theorem f_i114 : (Tryd.prog.info? 114).isSome = true := by kernel_rfl
theorem f_b114 : bytesOf' Tryd.prog 114 = some 2 := by kernel_rfl
theorem f_a115 : isAggB Tryd.prog 115 = some true := by kernel_rfl
theorem f_c115 : Tryd.prog.cellsOf 115 = 2 := by kernel_rfl
theorem f_f115_0 : fld Tryd.prog 115 0 = some (0, 5) := by kernel_rfl
theorem f_f115_1 : fld Tryd.prog 115 1 = some (1, 5) := by kernel_rfl
theorem f_ff115 : fieldsFull Tryd.prog 115 = true := by kernel_rfl
theorem f_t115 : tagsOf Tryd.prog 115 = some [.int, .int] := by kernel_rfl
theorem f_z115 : zeroPV Tryd.prog 115 = some [.int .u8 0, .int .u8 0] := by kernel_rfl
theorem f_zo115 : zeroOne Tryd.prog 115 = some (.agg [.int .u8 0, .int .u8 0]) := by kernel_rfl
theorem f_i115 : (Tryd.prog.info? 115).isSome = true := by kernel_rfl
theorem f_b115 : bytesOf' Tryd.prog 115 = some 2 := by kernel_rfl
theorem f_u116 : Tryd.prog.underlying 116 = some (.array 16 115) := by kernel_rfl
theorem f_a116 : isAggB Tryd.prog 116 = some true := by kernel_rfl
theorem f_c116 : Tryd.prog.cellsOf 116 = 32 := by kernel_rfl
theorem f_ar116 : arE Tryd.prog 116 = some (16, 115, 2) := by kernel_rfl
theorem f_b116 : bytesOf' Tryd.prog 116 = some 32 := by kernel_rfl
theorem f_u119 : Tryd.prog.underlying 119 = some (.unsafePointer) := by kernel_rfl
theorem f_a119 : isAggB Tryd.prog 119 = some false := by kernel_rfl
theorem f_c119 : Tryd.prog.cellsOf 119 = 1 := by kernel_rfl
theorem f_z119 : zeroPV Tryd.prog 119 = some [.nptr] := by kernel_rfl
theorem f_zo119 : zeroOne Tryd.prog 119 = some (.nptr) := by kernel_rfl
theorem f_b119 : bytesOf' Tryd.prog 119 = some 8 := by kernel_rfl
theorem f_u133 : Tryd.prog.underlying 133 = some (.array 65 5) := by kernel_rfl
theorem f_a133 : isAggB Tryd.prog 133 = some true := by kernel_rfl
theorem f_c133 : Tryd.prog.cellsOf 133 = 65 := by kernel_rfl
theorem f_ar133 : arE Tryd.prog 133 = some (65, 5, 1) := by kernel_rfl
theorem f_b133 : bytesOf' Tryd.prog 133 = some 65 := by kernel_rfl
theorem f_u138 : Tryd.prog.underlying 138 = some (.array 256 4) := by kernel_rfl
theorem f_a138 : isAggB Tryd.prog 138 = some true := by kernel_rfl
theorem f_c138 : Tryd.prog.cellsOf 138 = 256 := by kernel_rfl
theorem f_ar138 : arE Tryd.prog 138 = some (256, 4, 1) := by kernel_rfl
theorem f_b138 : bytesOf' Tryd.prog 138 = some 256 := by kernel_rfl
theorem f_u139 : Tryd.prog.underlying 139 = some (.array 256 4) := by kernel_rfl
theorem f_a139 : isAggB Tryd.prog 139 = some true := by kernel_rfl
theorem f_c139 : Tryd.prog.cellsOf 139 = 256 := by kernel_rfl
theorem f_ar139 : arE Tryd.prog 139 = some (256, 4, 1) := by kernel_rfl
theorem f_b139 : bytesOf' Tryd.prog 139 = some 256 := by kernel_rfl
theorem f_u143 : Tryd.prog.underlying 143 = some (.int .i64) := by kernel_rfl
theorem f_a143 : isAggB Tryd.prog 143 = some false := by kernel_rfl
theorem f_c143 : Tryd.prog.cellsOf 143 = 1 := by kernel_rfl
theorem f_z143 : zeroPV Tryd.prog 143 = some [.int .i64 0] := by kernel_rfl
theorem f_zo143 : zeroOne Tryd.prog 143 = some (.int .i64 0) := by kernel_rfl
theorem f_b143 : bytesOf' Tryd.prog 143 = some 8 := by kernel_rfl
theorem f_u145 : Tryd.prog.underlying 145 = some (.pointer 153) := by kernel_rfl
theorem f_a145 : isAggB Tryd.prog 145 = some false := by kernel_rfl
theorem f_c145 : Tryd.prog.cellsOf 145 = 1 := by kernel_rfl
theorem f_z145 : zeroPV Tryd.prog 145 = some [.nptr] := by kernel_rfl
theorem f_zo145 : zeroOne Tryd.prog 145 = some (.nptr) := by kernel_rfl
theorem f_i145 : (Tryd.prog.info? 145).isSome = true := by kernel_rfl
theorem f_b145 : bytesOf' Tryd.prog 145 = some 8 := by kernel_rfl
theorem f_u151 : Tryd.prog.underlying 151 = some (.pointer 139) := by kernel_rfl
theorem f_a151 : isAggB Tryd.prog 151 = some false := by kernel_rfl
theorem f_c151 : Tryd.prog.cellsOf 151 = 1 := by kernel_rfl
theorem f_z151 : zeroPV Tryd.prog 151 = some [.nptr] := by kernel_rfl
theorem f_zo151 : zeroOne Tryd.prog 151 = some (.nptr) := by kernel_rfl
theorem f_i151 : (Tryd.prog.info? 151).isSome = true := by kernel_rfl
theorem f_b151 : bytesOf' Tryd.prog 151 = some 8 := by kernel_rfl
theorem f_a152 : isAggB Tryd.prog 152 = some true := by kernel_rfl
theorem f_c152 : Tryd.prog.cellsOf 152 = 3 := by kernel_rfl
theorem f_f152_0 : fld Tryd.prog 152 0 = some (0, 9) := by kernel_rfl
theorem f_f152_1 : fld Tryd.prog 152 1 = some (1, 9) := by kernel_rfl
theorem f_f152_2 : fld Tryd.prog 152 2 = some (2, 73) := by kernel_rfl
theorem f_ff152 : fieldsFull Tryd.prog 152 = true := by kernel_rfl
theorem f_i152 : (Tryd.prog.info? 152).isSome = true := by kernel_rfl
theorem f_b152 : bytesOf' Tryd.prog 152 = some 48 := by kernel_rfl
theorem f_a153 : isAggB Tryd.prog 153 = some true := by kernel_rfl
theorem f_c153 : Tryd.prog.cellsOf 153 = 3 := by kernel_rfl
theorem f_f153_0 : fld Tryd.prog 153 0 = some (0, 9) := by kernel_rfl
theorem f_f153_1 : fld Tryd.prog 153 1 = some (1, 9) := by kernel_rfl
theorem f_f153_2 : fld Tryd.prog 153 2 = some (2, 73) := by kernel_rfl
theorem f_ff153 : fieldsFull Tryd.prog 153 = true := by kernel_rfl
theorem f_i153 : (Tryd.prog.info? 153).isSome = true := by kernel_rfl
theorem f_b153 : bytesOf' Tryd.prog 153 = some 48 := by kernel_rfl
theorem hm : Tryd.prog.follows .mixedOrders = true := by kernel_rfl
end Go.LX
