/- Sa -/
import Derived.Test.YtehegheohogbpaaGreatProg
import Derived.Test.YtehegheohogbpaaGreatVD
import Derived.Test.YtehegheohogbpaaGreatPu
open Go.V Go.Pu
open Go.V renaming xA4 → zA, nl → zB, xAQ → zC, rg → zD, xAK → zE, bq → zF, xAB → zG, xAE → zH, xJc → zI, cndt → zJ, cndf → zK, xBD → zL, xBE → zM, xBs → zN, xCp → zT, xCo → zW, xBt → zX, xFT → zc, xCF → zd, xA7 → zg, xBa → zj, xBb → zk, xDY → zl, skF → zw, skU → zx
set_option linter.unusedVariables false
set_option linter.unusedSimpArgs false
set_option maxRecDepth 20000
namespace Go.Proofs
def vc174 : VCode :=
 (.seq
 (.region 0 false [
 .e 2 (.box (.t 0)) 0,
 .e 4 (.copy (.c (.bool false))) 8])
 (.seq
 (.region 1 false [
 .e 5 (.copy (.t 1)) 8192,
 .e 6 (.faddr 0 (.t 2)) 8200,
 .e 7 (.load false 1 (.t 6)) 8208,
 .e 8 (.bin .geq (.t 5) (.t 7)) 8216,
 .e 9 (.copy (.t 8)) 8224,
 .g 10 (.faddr 1 (.t 2)) 4 9 true 8232 [],
 .g 11 (.load false 1 (.t 10)) 4 9 true 8240 [],
 .g 12 (.bin .eql (.t 11) (.c (.str []))) 4 9 true 8248 [],
 .g 13 (.copy (.t 12)) 4 9 true 8256 [],
 .g 14 (.copy (.t 1)) 8 13 false 8264 [],
 .g 15 (.faddr 1 (.t 2)) 8 13 false 8272 [],
 .g 16 (.load false 1 (.t 15)) 8 13 false 8280 [],
 .g 17 (.bin .lss (.t 14) (.t 16)) 8 13 false 8288 [],
 .g 18 (.pick (.t 13) (.c (.bool true)) (.t 17)) 4 9 true 8296 [],
 .e 19 (.pick (.t 9) (.t 18) (.c (.bool false))) 8304,
 .e 4 (.copy (.t 19)) 8312])
 .ret))
theorem vf174 : VF Tryz.prog 174 = some (20, vc174, [.tmp 4]) := by kernel_rfl
def vc48 : VCode :=
 (.seq
 (.region 0 false [
 .e 2 (.box (.t 0)) 0,
 .e 4 (.copy (.c (.bool false))) 8])
 (.seq
 (.region 1 false [
 .e 5 (.copy (.t 1)) 8192,
 .e 6 (.faddr 0 (.t 2)) 8200,
 .e 7 (.load false 1 (.t 6)) 8208,
 .e 8 (.bin .geq (.t 5) (.t 7)) 8216,
 .e 9 (.copy (.t 8)) 8224,
 .g 10 (.faddr 1 (.t 2)) 4 9 true 8232 [],
 .g 11 (.load false 1 (.t 10)) 4 9 true 8240 [],
 .g 12 (.bin .eql (.t 11) (.c (.str []))) 4 9 true 8248 [],
 .g 13 (.copy (.t 12)) 4 9 true 8256 [],
 .g 14 (.copy (.t 1)) 8 13 false 8264 [],
 .g 15 (.faddr 1 (.t 2)) 8 13 false 8272 [],
 .g 16 (.load false 1 (.t 15)) 8 13 false 8280 [],
 .g 17 (.bin .lss (.t 14) (.t 16)) 8 13 false 8288 [],
 .g 18 (.pick (.t 13) (.c (.bool true)) (.t 17)) 4 9 true 8296 [],
 .e 19 (.pick (.t 9) (.t 18) (.c (.bool false))) 8304,
 .e 4 (.copy (.t 19)) 8312])
 .ret))
theorem vf48 : VF Tryz.prog 48 = some (20, vc48, [.tmp 4]) := by kernel_rfl
def vc51 : VCode :=
 (.seq
 (.region 0 false [
 .e 1 (.box (.t 0)) 0,
 .e 2 (.copy (.c (.bool false))) 8])
 (.seq
 (.region 1 false [
 .e 3 (.faddr 1 (.t 1)) 8192,
 .e 4 (.load false 1 (.t 3)) 8200,
 .e 5 (.bin .neq (.t 4) (.c (.str []))) 8208,
 .e 6 (.copy (.t 5)) 8216,
 .g 7 (.faddr 1 (.t 1)) 3 6 true 8224 [],
 .g 8 (.load false 1 (.t 7)) 3 6 true 8232 [],
 .g 9 (.faddr 0 (.t 1)) 3 6 true 8240 [],
 .g 10 (.load false 1 (.t 9)) 3 6 true 8248 [],
 .g 11 (.bin .leq (.t 8) (.t 10)) 3 6 true 8256 [],
 .e 12 (.pick (.t 6) (.t 11) (.c (.bool false))) 8264,
 .e 2 (.copy (.t 12)) 8272])
 .ret))
theorem vf51 : VF Tryz.prog 51 = some (13, vc51, [.tmp 2]) := by kernel_rfl
def vc64 : VCode :=
 (.seq
 (.region 0 false [
 .e 1 (.box (.t 0)) 0,
 .e 2 (.copy (.c (.bool false))) 8])
 (.seq
 (.region 1 false [
 .e 3 (.faddr 1 (.t 1)) 8192,
 .e 4 (.load false 1 (.t 3)) 8200,
 .e 5 (.bin .neq (.t 4) (.c (.str []))) 8208,
 .e 6 (.copy (.t 5)) 8216,
 .g 7 (.faddr 1 (.t 1)) 3 6 true 8224 [],
 .g 8 (.load false 1 (.t 7)) 3 6 true 8232 [],
 .g 9 (.faddr 0 (.t 1)) 3 6 true 8240 [],
 .g 10 (.load false 1 (.t 9)) 3 6 true 8248 [],
 .g 11 (.bin .leq (.t 8) (.t 10)) 3 6 true 8256 [],
 .e 12 (.pick (.t 6) (.t 11) (.c (.bool false))) 8264,
 .e 2 (.copy (.t 12)) 8272])
 .ret))
theorem vf64 : VF Tryz.prog 64 = some (13, vc64, [.tmp 2]) := by kernel_rfl
def vc119 : VCode :=
 (.seq
 (.region 0 false [
 .e 2 (.alloc [(.str []), (.str [])]) 0])
 (.seq
 (.region 1 false [
 .e 3 (.copy (.t 0)) 8192,
 .e 4 (.copy (.t 0)) 8200,
 .e 5 (.bin .add (.t 4) (.c (.str [0]))) 8208,
 .e 6 (.build [(.str []), (.str [])] [(0, 1, (.t 3)), (1, 1, (.t 5))]) 8216,
 .h (.store 2 (.t 2) (.t 6)) 8224 []])
 .ret))
theorem vf119 : VF Tryz.prog 119 = some (7, vc119, [.cell true 2 2]) := by kernel_rfl
def vc42 : VCode :=
 (.seq
 (.region 0 false [
 .e 2 (.alloc [(.str []), (.str [])]) 0])
 (.seq
 (.region 1 false [
 .e 3 (.copy (.t 0)) 8192,
 .e 4 (.copy (.t 0)) 8200,
 .e 5 (.bin .add (.t 4) (.c (.str [0]))) 8208,
 .e 6 (.build [(.str []), (.str [])] [(0, 1, (.t 3)), (1, 1, (.t 5))]) 8216,
 .h (.store 2 (.t 2) (.t 6)) 8224 []])
 .ret))
theorem vf42 : VF Tryz.prog 42 = some (7, vc42, [.cell true 2 2]) := by kernel_rfl
def vc77 : VCode :=
 (.seq
 (.region 0 false [
 .e 0 (.alloc [(.str []), (.str [])]) 0])
 (.seq
 (.region 1 false [
 .e 1 (.build [(.str []), (.str [])] [(0, 1, (.c (.str [97]))), (1, 1, (.c (.str [97])))]) 8192,
 .h (.store 2 (.t 0) (.t 1)) 8200 []])
 .ret))
theorem vf77 : VF Tryz.prog 77 = some (2, vc77, [.cell true 2 0]) := by kernel_rfl
def vc55 : VCode :=
 (.seq
 (.region 0 false [
 .e 4 (.copy (.c (.int .i64 0))) 0])
 (.seq
 (.block 0
 (.seq
 (.region 1 false [
 .e 6 (.copy (.t 0)) 8192,
 .e 7 (.copy (.t 1)) 8200,
 .e 8 (.bin .eql (.t 6) (.t 7)) 8208,
 .e 5 (.copy (.t 8)) 8216])
 (.cond (.t 5)
 (.seq
 (.region 2 false [
 .e 4 (.copy (.c (.int .i64 0))) 16384])
 .ret)
 (.seq
 (.region 3 false [
 .e 10 (.copy (.t 0)) 24576,
 .e 11 (.bin .eql (.t 10) (.c (.str []))) 24584,
 .e 9 (.copy (.t 11)) 24592])
 (.cond (.t 9)
 (.seq
 (.region 4 false [
 .e 4 (.copy (.c (.int .i64 1))) 32768])
 .ret)
 (.seq
 (.region 5 false [
 .e 13 (.copy (.t 1)) 40960,
 .e 14 (.bin .eql (.t 13) (.c (.str []))) 40968,
 .e 12 (.copy (.t 14)) 40976])
 (.cond (.t 12)
 (.seq
 (.region 6 false [
 .e 4 (.copy (.c (.int .i64 (-1)))) 49152])
 .ret)
 .skip)))))))
 (.seq
 (.region 7 false [
 .e 15 (.copy (.t 0)) 57344,
 .e 16 (.copy (.t 1)) 57352,
 .e 17 (.call (.c (.fn 73 [])) [(.t 15), (.t 16)]) 57360,
 .e 4 (.copy (.t 17)) 57368])
 .ret)))
theorem vf55 : VF Tryz.prog 55 = some (18, vc55, [.tmp 4]) := by kernel_rfl
def vc73 : VCode :=
 (.seq
 (.region 0 false [
 .e 4 (.copy (.c (.int .i64 0))) 0])
 (.seq
 (.region 1 false [
 .e 7 (.copy (.t 0)) 8192,
 .e 8 (.call (.c (.fn 88 [])) [(.t 7)]) 8200,
 .e 5 (.copy (.t 8)) 8208])
 (.seq
 (.region 2 false [
 .e 9 (.copy (.t 1)) 16384,
 .e 10 (.call (.c (.fn 88 [])) [(.t 9)]) 16392,
 .e 6 (.copy (.t 10)) 16400])
 (.seq
 (.seq
 (.region 3 false [
 .e 11 (.copy (.t 5)) 24576])
 (.cond (.t 11)
 (.seq
 (.seq
 (.region 4 false [
 .e 12 (.copy (.t 6)) 32768])
 (.cond (.t 12)
 (.seq
 (.region 5 false [
 .e 4 (.copy (.c (.int .i64 0))) 40960])
 .ret)
 .skip))
 (.seq
 (.region 6 false [
 .e 4 (.copy (.c (.int .i64 (-1)))) 49152])
 .ret))
 .skip))
 (.seq
 (.seq
 (.region 7 false [
 .e 13 (.copy (.t 6)) 57344])
 (.cond (.t 13)
 (.seq
 (.region 8 false [
 .e 4 (.copy (.c (.int .i64 1))) 65536])
 .ret)
 .skip))
 (.seq
 (.seq
 (.region 9 false [
 .e 14 (.copy (.t 0)) 73728,
 .e 15 (.copy (.t 1)) 73736,
 .e 16 (.bin .lss (.t 14) (.t 15)) 73744])
 (.cond (.t 16)
 (.seq
 (.region 10 false [
 .e 4 (.copy (.c (.int .i64 (-1)))) 81920])
 .ret)
 .skip))
 (.seq
 (.seq
 (.region 11 false [
 .e 17 (.copy (.t 0)) 90112,
 .e 18 (.copy (.t 1)) 90120,
 .e 19 (.bin .gtr (.t 17) (.t 18)) 90128])
 (.cond (.t 19)
 (.seq
 (.region 12 false [
 .e 4 (.copy (.c (.int .i64 1))) 98304])
 .ret)
 .skip))
 (.seq
 (.region 13 false [
 .e 4 (.copy (.c (.int .i64 0))) 106496])
 .ret))))))))
theorem vf73 : VF Tryz.prog 73 = some (20, vc73, [.tmp 4]) := by kernel_rfl
def vc88 : VCode :=
 (.seq
 (.region 0 false [
 .e 2 (.copy (.c (.bool false))) 0])
 (.seq
 (.region 1 false [
 .e 3 (.copy (.t 0)) 8192,
 .e 4 (.copy (.t 0)) 8200,
 .e 5 (.bin .neq (.t 3) (.t 4)) 8208,
 .e 2 (.copy (.t 5)) 8216])
 .ret))
theorem vf88 : VF Tryz.prog 88 = some (6, vc88, [.tmp 2]) := by kernel_rfl
def vc54 : VCode :=
 (.seq
 (.region 0 false [
 .e 4 (.copy (.c (.int .i64 0))) 0])
 (.seq
 (.region 1 false [
 .e 7 (.copy (.t 0)) 8192,
 .e 8 (.call (.c (.fn 72 [])) [(.t 7)]) 8200,
 .e 5 (.copy (.t 8)) 8208])
 (.seq
 (.region 2 false [
 .e 9 (.copy (.t 1)) 16384,
 .e 10 (.call (.c (.fn 72 [])) [(.t 9)]) 16392,
 .e 6 (.copy (.t 10)) 16400])
 (.seq
 (.seq
 (.region 3 false [
 .e 11 (.copy (.t 5)) 24576])
 (.cond (.t 11)
 (.seq
 (.seq
 (.region 4 false [
 .e 12 (.copy (.t 6)) 32768])
 (.cond (.t 12)
 (.seq
 (.region 5 false [
 .e 4 (.copy (.c (.int .i64 0))) 40960])
 .ret)
 .skip))
 (.seq
 (.region 6 false [
 .e 4 (.copy (.c (.int .i64 (-1)))) 49152])
 .ret))
 .skip))
 (.seq
 (.seq
 (.region 7 false [
 .e 13 (.copy (.t 6)) 57344])
 (.cond (.t 13)
 (.seq
 (.region 8 false [
 .e 4 (.copy (.c (.int .i64 1))) 65536])
 .ret)
 .skip))
 (.seq
 (.seq
 (.region 9 false [
 .e 14 (.copy (.t 0)) 73728,
 .e 15 (.copy (.t 1)) 73736,
 .e 16 (.bin .lss (.t 14) (.t 15)) 73744])
 (.cond (.t 16)
 (.seq
 (.region 10 false [
 .e 4 (.copy (.c (.int .i64 (-1)))) 81920])
 .ret)
 .skip))
 (.seq
 (.seq
 (.region 11 false [
 .e 17 (.copy (.t 0)) 90112,
 .e 18 (.copy (.t 1)) 90120,
 .e 19 (.bin .gtr (.t 17) (.t 18)) 90128])
 (.cond (.t 19)
 (.seq
 (.region 12 false [
 .e 4 (.copy (.c (.int .i64 1))) 98304])
 .ret)
 .skip))
 (.seq
 (.region 13 false [
 .e 4 (.copy (.c (.int .i64 0))) 106496])
 .ret))))))))
theorem vf54 : VF Tryz.prog 54 = some (20, vc54, [.tmp 4]) := by kernel_rfl
def vc72 : VCode :=
 (.seq
 (.region 0 false [
 .e 2 (.copy (.c (.bool false))) 0])
 (.seq
 (.region 1 false [
 .e 3 (.copy (.t 0)) 8192,
 .e 4 (.copy (.t 0)) 8200,
 .e 5 (.bin .neq (.t 3) (.t 4)) 8208,
 .e 2 (.copy (.t 5)) 8216])
 .ret))
theorem vf72 : VF Tryz.prog 72 = some (6, vc72, [.tmp 2]) := by kernel_rfl
def vc95 : VCode :=
 (.seq
 (.region 0 false [
 .e 4 (.copy (.c (.str []))) 0])
 (.seq
 (.seq
 (.region 1 false [
 .e 7 (.copy (.t 0)) 8192,
 .e 8 (.len (.t 7)) 8200,
 .e 9 (.bin .lss (.t 8) (.c (.int .i64 1))) 8208])
 (.cond (.t 9)
 (.region 2 false [
 .e 10 (.mkifc 9 (.c (.str [115, 108, 105, 99, 101, 115, 46, 77, 105, 110, 70, 117, 110, 99, 58, 32, 101, 109, 112, 116, 121, 32, 108, 105, 115, 116]))) 16384,
 .h (.bad) 16392 []])
 .skip))
 (.seq
 (.region 3 false [
 .e 11 (.copy (.t 0)) 24576,
 .e 12 (.iaddr 1 (.t 11) (.c (.int .i64 0))) 24584,
 .e 13 (.load false 1 (.t 12)) 24592,
 .e 5 (.copy (.t 13)) 24600])
 (.seq
 (.seq
 (.region 4 false [
 .e 6 (.copy (.c (.int .i64 1))) 32768])
 (.block 0
 (.loop
 (.seq
 (.seq
 (.region 5 false [
 .e 14 (.copy (.t 6)) 40960,
 .e 15 (.copy (.t 0)) 40968,
 .e 16 (.len (.t 15)) 40976,
 .e 17 (.bin .lss (.t 14) (.t 16)) 40984])
 (.cond (.t 17)
 .skip
 (.exit 0)))
 (.seq
 (.block 1
 (.seq
 (.region 7 false [
 .e 20 (.copy (.t 1)) 57344,
 .e 21 (.copy (.t 0)) 57352,
 .e 22 (.copy (.t 6)) 57360,
 .e 23 (.iaddr 1 (.t 21) (.t 22)) 57368,
 .e 24 (.load false 1 (.t 23)) 57376,
 .e 25 (.copy (.t 5)) 57384,
 .e 26 (.call (.t 20) [(.t 24), (.t 25)]) 57392,
 .e 27 (.bin .lss (.t 26) (.c (.int .i64 0))) 57400])
 (.cond (.t 27)
 (.region 8 false [
 .e 28 (.copy (.t 0)) 65536,
 .e 29 (.copy (.t 6)) 65544,
 .e 30 (.iaddr 1 (.t 28) (.t 29)) 65552,
 .e 31 (.load false 1 (.t 30)) 65560,
 .e 5 (.copy (.t 31)) 65568])
 .skip)))
 (.region 6 false [
 .e 18 (.copy (.t 6)) 49152,
 .e 19 (.bin .add (.t 18) (.c (.int .i64 1))) 49160,
 .e 6 (.copy (.t 19)) 49168]))))))
 (.seq
 (.region 9 false [
 .e 32 (.copy (.t 5)) 73728,
 .e 4 (.copy (.t 32)) 73736])
 .ret)))))
theorem vf95 : VF Tryz.prog 95 = some (33, vc95, [.tmp 4]) := by kernel_rfl
def vc89 : VCode :=
 (.seq
 (.region 0 false [
 .e 2 (.copy (.c (.str []))) 0])
 (.seq
 (.region 1 false [
 .e 3 (.copy (.t 0)) 8192,
 .e 4 (.call (.c (.fn 95 [])) [(.t 3), (.c (.fn 55 []))]) 8200,
 .e 2 (.copy (.t 4)) 8208])
 .ret))
theorem vf89 : VF Tryz.prog 89 = some (5, vc89, [.tmp 2]) := by kernel_rfl
def vc75 : VCode :=
 (.seq
 (.region 0 false [
 .e 2 (.box (.t 0)) 0,
 .e 3 (.box (.t 1)) 8,
 .e 4 (.alloc [(.str []), (.str [])]) 16])
 (.seq
 (.region 1 true [
 .e 6 (.faddr 0 (.t 2)) 8192,
 .f 7 (.load false 1 (.t 6)) 8200 [0],
 .e 8 (.faddr 0 (.t 3)) 8208,
 .f 9 (.load false 1 (.t 8)) 8216 [2],
 .f 10 (.minmax true (.t 7) (.t 9)) 8224 [1, 0, 3, 2],
 .e 11 (.faddr 1 (.t 2)) 8232,
 .f 12 (.load false 1 (.t 11)) 8240 [5],
 .e 13 (.faddr 1 (.t 3)) 8248,
 .f 14 (.load false 1 (.t 13)) 8256 [7],
 .f 15 (.bslice 1 [(.str [])] 2 [(0, (.t 12)), (1, (.t 14))]) 8264 [6, 5, 8, 7],
 .f 16 (.call (.c (.fn 89 [])) [(.t 15)]) 8272 [9, 6, 5, 8, 7],
 .f 17 (.build [(.str []), (.str [])] [(0, 1, (.t 10)), (1, 1, (.t 16))]) 8280 [4, 1, 0, 3, 2, 10, 9, 6, 5, 8, 7],
 .e 5 (.alloc [(.str []), (.str [])]) 8288,
 .h (.store 2 (.t 5) (.t 17)) 8296 [12, 11, 4, 1, 0, 3, 2, 10, 9, 6, 5, 8, 7]])
 (.seq
 (.seq
 (.region 2 false [
 .e 18 (.load true 2 (.t 5)) 16384,
 .e 19 (.call (.c (.fn 51 [])) [(.t 18)]) 16392])
 (.cond (.t 19)
 (.seq
 (.region 3 false [
 .e 20 (.build [(.str []), (.str [])] [(0, 1, (.c (.str [97]))), (1, 1, (.c (.str [97])))]) 24576,
 .h (.store 2 (.t 4) (.t 20)) 24584 []])
 .ret)
 .skip))
 (.seq
 (.region 4 false [
 .e 21 (.load true 2 (.t 5)) 32768,
 .h (.store 2 (.t 4) (.t 21)) 32776 []])
 .ret))))
theorem vf75 : VF Tryz.prog 75 = some (22, vc75, [.cell true 2 4]) := by kernel_rfl
def vc63 : VCode :=
 (.seq
 (.region 0 false [
 .e 4 (.copy (.c (.bool false))) 0])
 (.seq
 (.region 1 false [
 .e 5 (.copy (.t 0)) 8192,
 .e 6 (.bin .neq (.t 5) (.c (.str []))) 8200,
 .e 7 (.copy (.t 6)) 8208,
 .g 8 (.copy (.t 1)) 2 7 true 8216 [],
 .g 9 (.bin .eql (.t 8) (.c (.str []))) 2 7 true 8224 [],
 .g 10 (.copy (.t 9)) 2 7 true 8232 [],
 .g 11 (.copy (.t 0)) 5 10 false 8240 [],
 .g 12 (.copy (.t 1)) 5 10 false 8248 [],
 .g 13 (.bin .lss (.t 11) (.t 12)) 5 10 false 8256 [],
 .g 14 (.pick (.t 10) (.c (.bool true)) (.t 13)) 2 7 true 8264 [],
 .e 15 (.pick (.t 7) (.t 14) (.c (.bool false))) 8272,
 .e 4 (.copy (.t 15)) 8280])
 .ret))
theorem vf63 : VF Tryz.prog 63 = some (16, vc63, [.tmp 4]) := by kernel_rfl
def vc65 : VCode :=
 (.seq
 (.region 0 false [
 .e 2 (.box (.t 0)) 0,
 .e 3 (.box (.t 1)) 8,
 .e 4 (.alloc [(.str []), (.str [])]) 16])
 (.seq
 (.region 1 false [
 .e 6 (.faddr 0 (.t 2)) 8192,
 .e 7 (.load false 1 (.t 6)) 8200,
 .e 8 (.faddr 0 (.t 3)) 8208,
 .e 9 (.load false 1 (.t 8)) 8216,
 .e 10 (.minmax true (.t 7) (.t 9)) 8224,
 .e 11 (.faddr 1 (.t 2)) 8232,
 .e 12 (.load false 1 (.t 11)) 8240,
 .e 13 (.build [(.str []), (.str [])] [(0, 1, (.t 10)), (1, 1, (.t 12))]) 8248,
 .e 5 (.alloc [(.str []), (.str [])]) 8256,
 .h (.store 2 (.t 5) (.t 13)) 8264 []])
 (.seq
 (.seq
 (.region 2 false [
 .e 14 (.faddr 1 (.t 3)) 16384,
 .e 15 (.load false 1 (.t 14)) 16392,
 .e 16 (.faddr 1 (.t 2)) 16400,
 .e 17 (.load false 1 (.t 16)) 16408,
 .e 18 (.call (.c (.fn 63 [])) [(.t 15), (.t 17)]) 16416])
 (.cond (.t 18)
 (.region 3 false [
 .e 19 (.faddr 1 (.t 3)) 24576,
 .e 20 (.load false 1 (.t 19)) 24584,
 .e 21 (.faddr 1 (.t 5)) 24592,
 .h (.store 1 (.t 21) (.t 20)) 24600 []])
 .skip))
 (.seq
 (.seq
 (.region 4 false [
 .e 22 (.load true 2 (.t 5)) 32768,
 .e 23 (.call (.c (.fn 64 [])) [(.t 22)]) 32776])
 (.cond (.t 23)
 (.seq
 (.region 5 false [
 .e 24 (.call (.c (.fn 77 [])) []) 40960,
 .h (.store 2 (.t 4) (.t 24)) 40968 []])
 .ret)
 .skip))
 (.seq
 (.region 6 false [
 .e 25 (.load true 2 (.t 5)) 49152,
 .h (.store 2 (.t 4) (.t 25)) 49160 []])
 .ret)))))
theorem vf65 : VF Tryz.prog 65 = some (26, vc65, [.cell true 2 4]) := by kernel_rfl
def vc162 : VCode :=
 (.seq
 (.region 0 false [
 .e 4 (.copy (.c (.bool false))) 0])
 (.seq
 (.region 1 false [
 .e 5 (.copy (.t 0)) 8192,
 .e 6 (.lenS (.t 5)) 8200,
 .e 7 (.copy (.t 1)) 8208,
 .e 8 (.lenS (.t 7)) 8216,
 .e 9 (.bin .geq (.t 6) (.t 8)) 8224,
 .e 10 (.copy (.t 9)) 8232,
 .g 11 (.copy (.t 0)) 5 10 true 8240 [],
 .g 12 (.copy (.t 1)) 5 10 true 8248 [],
 .g 13 (.lenS (.t 12)) 5 10 true 8256 [],
 .g 14 (.slstr (.t 11) none (some (.t 13))) 5 10 true 8264 [],
 .g 15 (.copy (.t 1)) 5 10 true 8272 [],
 .g 16 (.bin .eql (.t 14) (.t 15)) 5 10 true 8280 [],
 .e 17 (.pick (.t 10) (.t 16) (.c (.bool false))) 8288,
 .e 4 (.copy (.t 17)) 8296])
 .ret))
theorem vf162 : VF Tryz.prog 162 = some (18, vc162, [.tmp 4]) := by kernel_rfl
def vc161 : VCode :=
 (.seq
 (.region 0 false [
 .e 4 (.copy (.c (.str []))) 0,
 .e 5 (.copy (.c (.bool false))) 8])
 (.seq
 (.seq
 (.region 1 false [
 .e 6 (.copy (.t 0)) 8192,
 .e 7 (.copy (.t 1)) 8200,
 .e 8 (.call (.c (.fn 162 [])) [(.t 6), (.t 7)]) 8208,
 .e 9 (.not (.t 8)) 8216])
 (.cond (.t 9)
 (.seq
 (.region 2 false [
 .e 10 (.copy (.t 0)) 16384,
 .e 4 (.copy (.t 10)) 16392,
 .e 5 (.copy (.c (.bool false))) 16400])
 .ret)
 .skip))
 (.seq
 (.region 3 false [
 .e 11 (.copy (.t 0)) 24576,
 .e 12 (.copy (.t 1)) 24584,
 .e 13 (.lenS (.t 12)) 24592,
 .e 14 (.slstr (.t 11) (some (.t 13)) none) 24600,
 .e 4 (.copy (.t 14)) 24608,
 .e 5 (.copy (.c (.bool true))) 24616])
 .ret)))
theorem vf161 : VF Tryz.prog 161 = some (15, vc161, [.tmp 4, .tmp 5]) := by kernel_rfl
def vc160 : VCode :=
 (.seq
 (.region 0 false [
 .e 4 (.copy (.c (.str []))) 0,
 .e 5 (.copy (.c (.bool false))) 8])
 (.seq
 (.region 1 false [
 .e 6 (.copy (.t 0)) 8192,
 .e 7 (.copy (.t 1)) 8200,
 .e 8 (.call (.c (.fn 161 [])) [(.t 6), (.t 7)]) 8208,
 .e 9 (.extract (.t 8) 0) 8216,
 .e 10 (.extract (.t 8) 1) 8224,
 .e 4 (.copy (.t 9)) 8232,
 .e 5 (.copy (.t 10)) 8240])
 .ret))
theorem vf160 : VF Tryz.prog 160 = some (11, vc160, [.tmp 4, .tmp 5]) := by kernel_rfl
def vc159 : VCode :=
 (.seq
 (.region 0 false [
 .e 6 (.copy (.c (.str []))) 0,
 .e 7 (.copy (.c (.bool false))) 8])
 (.seq
 (.region 1 false [
 .e 11 (.copy (.t 0)) 8192,
 .e 12 (.copy (.t 1)) 8200,
 .e 13 (.call (.c (.fn 160 [])) [(.t 11), (.t 12)]) 8208,
 .e 10 (.copy (.t 13)) 8216,
 .e 14 (.extract (.t 10) 0) 8224,
 .e 15 (.extract (.t 10) 1) 8232,
 .e 8 (.copy (.t 14)) 8240,
 .e 9 (.copy (.t 15)) 8248])
 (.seq
 (.seq
 (.region 2 false [
 .e 16 (.copy (.t 9)) 16384,
 .e 17 (.not (.t 16)) 16392])
 (.cond (.t 17)
 (.seq
 (.region 3 false [
 .e 6 (.copy (.c (.str []))) 24576,
 .e 7 (.copy (.c (.bool false))) 24584])
 .ret)
 .skip))
 (.seq
 (.region 4 false [
 .e 18 (.copy (.t 2)) 32768,
 .e 19 (.copy (.t 8)) 32776,
 .e 20 (.bin .add (.t 18) (.t 19)) 32784,
 .e 6 (.copy (.t 20)) 32792,
 .e 7 (.copy (.c (.bool true))) 32800])
 .ret))))
theorem vf159 : VF Tryz.prog 159 = some (21, vc159, [.tmp 6, .tmp 7]) := by kernel_rfl
def vc43 : VCode :=
 (.seq
 (.region 0 false [
 .e 4 (.copy (.c (.bool false))) 0])
 (.seq
 (.region 1 false [
 .e 5 (.copy (.t 0)) 8192,
 .e 6 (.lenS (.t 5)) 8200,
 .e 7 (.copy (.t 1)) 8208,
 .e 8 (.lenS (.t 7)) 8216,
 .e 9 (.bin .geq (.t 6) (.t 8)) 8224,
 .e 10 (.copy (.t 9)) 8232,
 .g 11 (.copy (.t 0)) 5 10 true 8240 [],
 .g 12 (.copy (.t 1)) 5 10 true 8248 [],
 .g 13 (.lenS (.t 12)) 5 10 true 8256 [],
 .g 14 (.slstr (.t 11) none (some (.t 13))) 5 10 true 8264 [],
 .g 15 (.copy (.t 1)) 5 10 true 8272 [],
 .g 16 (.bin .eql (.t 14) (.t 15)) 5 10 true 8280 [],
 .e 17 (.pick (.t 10) (.t 16) (.c (.bool false))) 8288,
 .e 4 (.copy (.t 17)) 8296])
 .ret))
theorem vf43 : VF Tryz.prog 43 = some (18, vc43, [.tmp 4]) := by kernel_rfl
abbrev encS (s : SpanL) : List PV := [.str s.lo, .str s.hi]
theorem has_vc (s : SpanL) (k : Str) : VC Tryz.prog 174 [.agg (encS s), .str k] [] (.bool (hasL s k)) [] := by
  refine xAG vf174 ?_ (Nat.le_of_ble_eq_true rfl) (by intro vs h; cases h)
  repeat' first|refine zA ?_|refine zB ?_|refine zC ?_|refine zD ?_|refine zE ?_|refine zF ?_|refine zG ?_|refine zH ?_|refine zI ?_|refine zJ ?_|refine zK ?_|refine zA ?_|refine zL ?_|refine zM ?_|refine zN ?_|refine zX ?_|refine zc ?_|refine zj ?_|refine zk ?_|refine zw ?_|refine zx ?_|refine xAC ⟨.inr rfl, ?_⟩|refine cnd (fun _ => ?_) (fun _ => ?_)|(refine xBq (fun _ => ?_) (fun _ => ?_) <;> first|refine zA ?_|refine zL ?_|refine zM ?_|refine zN ?_|refine zX ?_|refine zc ?_|refine zj ?_|refine zk ?_|refine zw ?_|refine zx ?_)
  all_goals refine oB ?_
  all_goals simp_all [hasL]
theorem rhas_vc (s : SpanL) (k : Str) : VC Tryz.prog 48 [.agg (encS s), .str k] [] (.bool (hasL s k)) [] := by
  refine xAG vf48 ?_ (Nat.le_of_ble_eq_true rfl) (by intro vs h; cases h)
  repeat' first|refine zA ?_|refine zB ?_|refine zC ?_|refine zD ?_|refine zE ?_|refine zF ?_|refine zG ?_|refine zH ?_|refine zI ?_|refine zJ ?_|refine zK ?_|refine zA ?_|refine zL ?_|refine zM ?_|refine zN ?_|refine zX ?_|refine zc ?_|refine zj ?_|refine zk ?_|refine zw ?_|refine zx ?_|refine xAC ⟨.inr rfl, ?_⟩|refine cnd (fun _ => ?_) (fun _ => ?_)|(refine xBq (fun _ => ?_) (fun _ => ?_) <;> first|refine zA ?_|refine zL ?_|refine zM ?_|refine zN ?_|refine zX ?_|refine zc ?_|refine zj ?_|refine zk ?_|refine zw ?_|refine zx ?_)
  all_goals refine oB ?_
  all_goals simp_all [hasL]
theorem xFf (s : SpanL) : VC Tryz.prog 51 [.agg (encS s)] [] (.bool (xAI s)) [] := by
  refine xAG vf51 ?_ (Nat.le_of_ble_eq_true rfl) (by intro vs h; cases h)
  repeat' first|refine zA ?_|refine zB ?_|refine zC ?_|refine zD ?_|refine zE ?_|refine zF ?_|refine zG ?_|refine zH ?_|refine zI ?_|refine zJ ?_|refine zK ?_|refine zA ?_|refine zL ?_|refine zM ?_|refine zN ?_|refine zX ?_|refine zc ?_|refine zj ?_|refine zk ?_|refine zw ?_|refine zx ?_|refine xAC ⟨.inr rfl, ?_⟩|refine cnd (fun _ => ?_) (fun _ => ?_)|(refine xBq (fun _ => ?_) (fun _ => ?_) <;> first|refine zA ?_|refine zL ?_|refine zM ?_|refine zN ?_|refine zX ?_|refine zc ?_|refine zj ?_|refine zk ?_|refine zw ?_|refine zx ?_)
  all_goals refine oB ?_
  all_goals simp_all [xAI]
theorem xCx (s : SpanL) : VC Tryz.prog 64 [.agg (encS s)] [] (.bool (xAI s)) [] := by
  refine xAG vf64 ?_ (Nat.le_of_ble_eq_true rfl) (by intro vs h; cases h)
  repeat' first|refine zA ?_|refine zB ?_|refine zC ?_|refine zD ?_|refine zE ?_|refine zF ?_|refine zG ?_|refine zH ?_|refine zI ?_|refine zJ ?_|refine zK ?_|refine zA ?_|refine zL ?_|refine zM ?_|refine zN ?_|refine zX ?_|refine zc ?_|refine zj ?_|refine zk ?_|refine zw ?_|refine zx ?_|refine xAC ⟨.inr rfl, ?_⟩|refine cnd (fun _ => ?_) (fun _ => ?_)|(refine xBq (fun _ => ?_) (fun _ => ?_) <;> first|refine zA ?_|refine zL ?_|refine zM ?_|refine zN ?_|refine zX ?_|refine zc ?_|refine zj ?_|refine zk ?_|refine zw ?_|refine zx ?_)
  all_goals refine oB ?_
  all_goals simp_all [xAI]
theorem xOz (k : Str) (hk : k.length ≤ 1000000000) : VC Tryz.prog 119 [.str k] [] (.agg (encS (oneL k))) [] := by
  refine xAG vf119 ?_ (Nat.le_of_ble_eq_true rfl) (by intro vs h; cases h)
  repeat' first|refine zA ?_|refine zB ?_|refine zC ?_|refine zD ?_|refine zE ?_|refine zF ?_|refine zG ?_|refine zH ?_|refine zI ?_|refine zJ ?_|refine zK ?_|refine zA ?_|refine zT ?_|refine zW ?_|refine zX ?_|refine zd ?_|refine zg ?_|refine zl ?_|refine xAC ⟨.inr rfl, ?_⟩|refine cnd (fun _ => ?_) (fun _ => ?_)|(refine xBq (fun _ => ?_) (fun _ => ?_) <;> first|refine zA ?_|refine zT ?_|refine zW ?_|refine zX ?_|refine zd ?_|refine zg ?_|refine zl ?_)
  all_goals exact oAny rfl
theorem xMN (k : Str) (hk : k.length ≤ 1000000000) : VC Tryz.prog 42 [.str k] [] (.agg (encS (oneL k))) [] := by
  refine xAG vf42 ?_ (Nat.le_of_ble_eq_true rfl) (by intro vs h; cases h)
  repeat' first|refine zA ?_|refine zB ?_|refine zC ?_|refine zD ?_|refine zE ?_|refine zF ?_|refine zG ?_|refine zH ?_|refine zI ?_|refine zJ ?_|refine zK ?_|refine zA ?_|refine zT ?_|refine zW ?_|refine zX ?_|refine zd ?_|refine zg ?_|refine zl ?_|refine xAC ⟨.inr rfl, ?_⟩|refine cnd (fun _ => ?_) (fun _ => ?_)|(refine xBq (fun _ => ?_) (fun _ => ?_) <;> first|refine zA ?_|refine zT ?_|refine zW ?_|refine zX ?_|refine zd ?_|refine zg ?_|refine zl ?_)
  all_goals exact oAny rfl
theorem xMg : VC Tryz.prog 77 [] [] (.agg (encS xG5)) [] := by
  refine xAG vf77 ?_ (Nat.le_of_ble_eq_true rfl) (by intro vs h; cases h)
  repeat' first|refine zA ?_|refine zB ?_|refine zC ?_|refine zD ?_|refine zE ?_|refine zF ?_|refine zG ?_|refine zH ?_|refine zI ?_|refine zJ ?_|refine zK ?_|refine zA ?_|refine zd ?_|refine zg ?_|refine zl ?_|refine xAC ⟨.inr rfl, ?_⟩|refine cnd (fun _ => ?_) (fun _ => ?_)|(refine xBq (fun _ => ?_) (fun _ => ?_) <;> first|refine zA ?_|refine zd ?_|refine zg ?_|refine zl ?_)
  all_goals exact oAny rfl
theorem xO5 (a : Str) : VC Tryz.prog 72 [.str a] [] (.bool false) [] := by
  refine xAG vf72 ?_ (Nat.le_of_ble_eq_true rfl) (by intro vs h; cases h)
  repeat' first|refine zA ?_|refine zB ?_|refine zC ?_|refine zD ?_|refine zE ?_|refine zF ?_|refine zG ?_|refine zH ?_|refine zI ?_|refine zJ ?_|refine zK ?_|refine zA ?_|refine zX ?_|refine xAC ⟨.inr rfl, ?_⟩|refine cnd (fun _ => ?_) (fun _ => ?_)|(refine xBq (fun _ => ?_) (fun _ => ?_) <;> first|refine zA ?_|refine zX ?_)
  all_goals refine oB ?_
  all_goals simp
theorem xMh (a : Str) : VC Tryz.prog 88 [.str a] [] (.bool false) [] := by
  refine xAG vf88 ?_ (Nat.le_of_ble_eq_true rfl) (by intro vs h; cases h)
  repeat' first|refine zA ?_|refine zB ?_|refine zC ?_|refine zD ?_|refine zE ?_|refine zF ?_|refine zG ?_|refine zH ?_|refine zI ?_|refine zJ ?_|refine zK ?_|refine zA ?_|refine zX ?_|refine xAC ⟨.inr rfl, ?_⟩|refine cnd (fun _ => ?_) (fun _ => ?_)|(refine xBq (fun _ => ?_) (fun _ => ?_) <;> first|refine zA ?_|refine zX ?_)
  all_goals refine oB ?_
  all_goals simp
theorem xPG (a b : Str) : VC Tryz.prog 54 [.str a, .str b] [] (.int .i64 (xDk a b)) [] := by
  refine xAG vf54 ?_ (Nat.le_of_ble_eq_true rfl) (by intro vs h; cases h)
  repeat' first|refine zA ?_|refine zB ?_|refine zC ?_|refine zD ?_|refine zE ?_|refine zF ?_|refine zG ?_|refine zH ?_|refine zI ?_|refine zJ ?_|refine zK ?_|refine cv0 (xO5 _) ?_|refine zA ?_|refine zX ?_|refine xAC ⟨.inr rfl, ?_⟩|refine cnd (fun _ => ?_) (fun _ => ?_)|(refine xBq (fun _ => ?_) (fun _ => ?_) <;> first|refine cv0 (xO5 _) ?_|refine zA ?_|refine zX ?_)
  all_goals refine oI ?_
  all_goals simp_all [xDk]
theorem xNP (a b : Str) : VC Tryz.prog 73 [.str a, .str b] [] (.int .i64 (xDk a b)) [] := by
  refine xAG vf73 ?_ (Nat.le_of_ble_eq_true rfl) (by intro vs h; cases h)
  repeat' first|refine zA ?_|refine zB ?_|refine zC ?_|refine zD ?_|refine zE ?_|refine zF ?_|refine zG ?_|refine zH ?_|refine zI ?_|refine zJ ?_|refine zK ?_|refine cv0 (xMh _) ?_|refine zA ?_|refine zX ?_|refine xAC ⟨.inr rfl, ?_⟩|refine cnd (fun _ => ?_) (fun _ => ?_)|(refine xBq (fun _ => ?_) (fun _ => ?_) <;> first|refine cv0 (xMh _) ?_|refine zA ?_|refine zX ?_)
  all_goals refine oI ?_
  all_goals simp_all [xDk]
theorem xDx (a b : Str) : VC Tryz.prog 55 [.str a, .str b] [] (.int .i64 (xD8 a b)) [] := by
  refine xAG vf55 ?_ (Nat.le_of_ble_eq_true rfl) (by intro vs h; cases h)
  repeat' first|refine zA ?_|refine zB ?_|refine zC ?_|refine zD ?_|refine zE ?_|refine zF ?_|refine zG ?_|refine zH ?_|refine zI ?_|refine zJ ?_|refine zK ?_|refine cv0 (xNP _ _) ?_|refine zA ?_|refine zX ?_|refine xAC ⟨.inr rfl, ?_⟩|refine cnd (fun _ => ?_) (fun _ => ?_)|(refine xBq (fun _ => ?_) (fun _ => ?_) <;> first|refine cv0 (xNP _ _) ?_|refine zA ?_|refine zX ?_)
  all_goals refine oI ?_
  all_goals simp_all [xD8]
end Go.Proofs
open Go.V Go.Pu
open Go.V renaming xA4 → zA, nl → zB, xAQ → zC, rg → zD, xAK → zE, bq → zF, xAB → zG, xAE → zH, xJc → zI, cndt → zJ, cndf → zK, xBD → zL, xBE → zM, xBs → zN, xA2 → zO, xAo → zP, xAn → zQ, xCp → zT, xCo → zW, xBt → zX, xB6 → zY, xDW → zZ, xAl → za, xAm → zb, xFT → zc, xCF → zd, xBL → ze, xA7 → zg, xG4 → zi, xBa → zj, xBb → zk, xDY → zl, xDX → zm, xO0 → zt, xKV → zv, skF → zw, skU → zx
set_option linter.unusedVariables false
set_option linter.unusedSimpArgs false
set_option maxRecDepth 20000
namespace Go.Proofs
theorem xHP (a b : Str) : VC Tryz.prog 95 [.sh false [[.str a], [.str b]], .fn 55 []] [] (.str (xBp a b)) [] := by
  refine xAG vf95 ?_ (Nat.le_of_ble_eq_true rfl) (by intro vs h; cases h)
  repeat' first|refine zA ?_|refine zB ?_|refine zC ?_|refine zD ?_|refine zE ?_|refine zF ?_|refine zG ?_|refine zH ?_|refine zI ?_|refine zJ ?_|refine zK ?_|refine cv0 (xDx _ _) ?_|refine xNI 3 ?_|refine zA ?_|refine zL ?_|refine zM ?_|refine zO ?_|refine zP ?_|refine zQ ?_|refine zT ?_|refine zW ?_|refine zX ?_|refine zY ?_|refine zZ ?_|refine xAC ⟨.inr rfl, ?_⟩|refine cnd (fun _ => ?_) (fun _ => ?_)|(refine xBq (fun _ => ?_) (fun _ => ?_) <;> first|refine cv0 (xDx _ _) ?_|refine xNI 3 ?_|refine zA ?_|refine zL ?_|refine zM ?_|refine zO ?_|refine zP ?_|refine zQ ?_|refine zT ?_|refine zW ?_|refine zX ?_|refine zY ?_|refine zZ ?_)
  all_goals refine oS ?_
  all_goals simp_all [xBp]
  all_goals omega
theorem xKo (a b : Str) : VC Tryz.prog 89 [.sh false [[.str a], [.str b]]] [] (.str (xBp a b)) [] := by
  refine xAG vf89 ?_ (Nat.le_of_ble_eq_true rfl) (by intro vs h; cases h)
  repeat' first|refine zA ?_|refine zB ?_|refine zC ?_|refine zD ?_|refine zE ?_|refine zF ?_|refine zG ?_|refine zH ?_|refine zI ?_|refine zJ ?_|refine zK ?_|refine cv0 (xHP _ _) ?_|refine zA ?_|refine xAC ⟨.inr rfl, ?_⟩|refine cnd (fun _ => ?_) (fun _ => ?_)|(refine xBq (fun _ => ?_) (fun _ => ?_) <;> first|refine cv0 (xHP _ _) ?_|refine zA ?_)
  all_goals exact oS rfl
theorem xPz (a b : SpanL) : VC Tryz.prog 75 [.agg (encS a), .agg (encS b)] [] (.agg (encS (xAp a b))) [] := by
  refine xAG vf75 ?_ (Nat.le_of_ble_eq_true rfl) (by intro vs h; cases h)
  repeat' first|refine zA ?_|refine zB ?_|refine zC ?_|refine zD ?_|refine zE ?_|refine zF ?_|refine zG ?_|refine zH ?_|refine zI ?_|refine zJ ?_|refine zK ?_|refine cv0 (xKo a.hi b.hi) ?_|refine cv0 (xFf ⟨maxL a.lo b.lo, xBp a.hi b.hi⟩) ?_|refine zA ?_|refine zL ?_|refine zM ?_|refine zN ?_|refine za ?_|refine zb ?_|refine zc ?_|refine zd ?_|refine ze ?_|refine zg ?_|refine zl ?_|refine zv ?_|refine xAC ⟨.inr rfl, ?_⟩|refine cnd (fun _ => ?_) (fun _ => ?_)|(refine xBq (fun _ => ?_) (fun _ => ?_) <;> first|refine cv0 (xKo a.hi b.hi) ?_|refine cv0 (xFf ⟨maxL a.lo b.lo, xBp a.hi b.hi⟩) ?_|refine zA ?_|refine zL ?_|refine zM ?_|refine zN ?_|refine za ?_|refine zb ?_|refine zc ?_|refine zd ?_|refine ze ?_|refine zg ?_|refine zl ?_|refine zv ?_)
  all_goals refine oC ?_
  all_goals simp_all [xAp, xG5]
  all_goals rfl
theorem xH6 (a b : Str) : VC Tryz.prog 63 [.str a, .str b] [] (.bool (xCr a b)) [] := by
  refine xAG vf63 ?_ (Nat.le_of_ble_eq_true rfl) (by intro vs h; cases h)
  repeat' first|refine zA ?_|refine zB ?_|refine zC ?_|refine zD ?_|refine zE ?_|refine zF ?_|refine zG ?_|refine zH ?_|refine zI ?_|refine zJ ?_|refine zK ?_|refine zA ?_|refine zX ?_|refine zj ?_|refine zk ?_|refine zw ?_|refine zx ?_|refine xAC ⟨.inr rfl, ?_⟩|refine cnd (fun _ => ?_) (fun _ => ?_)|(refine xBq (fun _ => ?_) (fun _ => ?_) <;> first|refine zA ?_|refine zX ?_|refine zj ?_|refine zk ?_|refine zw ?_|refine zx ?_)
  all_goals refine oB ?_
  all_goals simp_all [xCr]
  all_goals (cases a <;> cases b <;> simp_all)
theorem xNy (a b : SpanL) : VC Tryz.prog 65 [.agg (encS a), .agg (encS b)] [] (.agg (encS (xKH a b))) [] := by
  refine xAG vf65 ?_ (Nat.le_of_ble_eq_true rfl) (by intro vs h; cases h)
  repeat' first|refine zA ?_|refine zB ?_|refine zC ?_|refine zD ?_|refine zE ?_|refine zF ?_|refine zG ?_|refine zH ?_|refine zI ?_|refine zJ ?_|refine zK ?_|refine cv0 (xH6 b.hi a.hi) ?_|refine cv0 (xCx ⟨maxL a.lo b.lo, a.hi⟩) ?_|refine cv0 (xCx ⟨maxL a.lo b.lo, b.hi⟩) ?_|refine cv0 xMg ?_|refine zA ?_|refine zL ?_|refine zM ?_|refine zN ?_|refine za ?_|refine zb ?_|refine zc ?_|refine zd ?_|refine zg ?_|refine zl ?_|refine zv ?_|refine xAC ⟨.inr rfl, ?_⟩|refine cnd (fun _ => ?_) (fun _ => ?_)|(refine xBq (fun _ => ?_) (fun _ => ?_) <;> first|refine cv0 (xH6 b.hi a.hi) ?_|refine cv0 (xCx ⟨maxL a.lo b.lo, a.hi⟩) ?_|refine cv0 (xCx ⟨maxL a.lo b.lo, b.hi⟩) ?_|refine cv0 xMg ?_|refine zA ?_|refine zL ?_|refine zM ?_|refine zN ?_|refine za ?_|refine zb ?_|refine zc ?_|refine zd ?_|refine zg ?_|refine zl ?_|refine zv ?_)
  all_goals refine oC ?_
  all_goals simp_all [xKH, xG5]
  all_goals rfl
theorem xFK (k p : Str) (hk : k.length ≤ 1000000000) (hp : p.length ≤ 1000000000) : VC Tryz.prog 162 [.str k, .str p] [] (.bool (xAF k p)) [] := by
  refine xAG vf162 ?_ (Nat.le_of_ble_eq_true rfl) (by intro vs h; cases h)
  repeat' first|refine zA ?_|refine zB ?_|refine zC ?_|refine zD ?_|refine zE ?_|refine zF ?_|refine zG ?_|refine zH ?_|refine zI ?_|refine zJ ?_|refine zK ?_|refine xEE ?_|refine zA ?_|refine zX ?_|refine zj ?_|refine zk ?_|refine zt ?_|refine zw ?_|refine zx ?_|refine xAC ⟨.inr rfl, ?_⟩|refine cnd (fun _ => ?_) (fun _ => ?_)|(refine xBq (fun _ => ?_) (fun _ => ?_) <;> first|refine xEE ?_|refine zA ?_|refine zX ?_|refine zj ?_|refine zk ?_|refine zt ?_|refine zw ?_|refine zx ?_)
  all_goals refine oB ?_
  all_goals simp_all [xAF]
  all_goals omega
theorem xJM (k p : Str) (hk : k.length ≤ 1000000000) (hp : p.length ≤ 1000000000) : VC Tryz.prog 43 [.str k, .str p] [] (.bool (xAF k p)) [] := by
  refine xAG vf43 ?_ (Nat.le_of_ble_eq_true rfl) (by intro vs h; cases h)
  repeat' first|refine zA ?_|refine zB ?_|refine zC ?_|refine zD ?_|refine zE ?_|refine zF ?_|refine zG ?_|refine zH ?_|refine zI ?_|refine zJ ?_|refine zK ?_|refine xEE ?_|refine zA ?_|refine zX ?_|refine zj ?_|refine zk ?_|refine zt ?_|refine zw ?_|refine zx ?_|refine xAC ⟨.inr rfl, ?_⟩|refine cnd (fun _ => ?_) (fun _ => ?_)|(refine xBq (fun _ => ?_) (fun _ => ?_) <;> first|refine xEE ?_|refine zA ?_|refine zX ?_|refine zj ?_|refine zk ?_|refine zt ?_|refine zw ?_|refine zx ?_)
  all_goals refine oB ?_
  all_goals simp_all [xAF]
  all_goals omega
theorem xNG (k p : Str) (hk : k.length ≤ 1000000000) (hp : p.length ≤ 1000000000) : VC Tryz.prog 161 [.str k, .str p] [] (.tup [.str (if xAF k p = true then k.drop p.length else k), .bool (xAF k p)]) [] := by
  refine xAG vf161 ?_ (Nat.le_of_ble_eq_true rfl) (by intro vs h; cases h; intro p hp q; rcases List.mem_cons.1 hp with rfl | hp <;> simp_all)
  have hl : xAF k p = true → p.length ≤ k.length := fun h => by simp [xAF] at h; exact h.1
  repeat' first|refine zA ?_|refine zB ?_|refine zC ?_|refine zD ?_|refine zE ?_|refine zF ?_|refine zG ?_|refine zH ?_|refine zI ?_|refine zJ ?_|refine zK ?_|refine cv0 (xFK k p hk hp) ?_|refine xEE ?_|refine zA ?_|refine zi ?_|refine zt ?_|refine xAC ⟨.inr rfl, ?_⟩|refine cnd (fun _ => ?_) (fun _ => ?_)|(refine xBq (fun _ => ?_) (fun _ => ?_) <;> first|refine cv0 (xFK k p hk hp) ?_|refine xEE ?_|refine zA ?_|refine zi ?_|refine zt ?_)
  all_goals refine oSB ?_
  all_goals simp_all
  all_goals (rw [List.take_of_length_le (by simp)])
theorem xPE (k p : Str) (hk : k.length ≤ 1000000000) (hp : p.length ≤ 1000000000) : VC Tryz.prog 160 [.str k, .str p] [] (.tup [.str (if xAF k p = true then k.drop p.length else k), .bool (xAF k p)]) [] := by
  refine xAG vf160 ?_ (Nat.le_of_ble_eq_true rfl) (by intro vs h; cases h; intro p hp q; rcases List.mem_cons.1 hp with rfl | hp <;> simp_all)
  repeat' first|refine zA ?_|refine zB ?_|refine zC ?_|refine zD ?_|refine zE ?_|refine zF ?_|refine zG ?_|refine zH ?_|refine zI ?_|refine zJ ?_|refine zK ?_|refine cv0 (xNG k p hk hp) ?_|refine zA ?_|refine zm ?_|refine xAC ⟨.inr rfl, ?_⟩|refine cnd (fun _ => ?_) (fun _ => ?_)|(refine xBq (fun _ => ?_) (fun _ => ?_) <;> first|refine cv0 (xNG k p hk hp) ?_|refine zA ?_|refine zm ?_)
  all_goals exact oSB rfl
theorem moved_vc (k f t : Str) (hk : k.length ≤ 1000000000) (hf : f.length ≤ 1000000000) (ht : t.length ≤ 1000000000) : VC Tryz.prog 159 [.str k, .str f, .str t] [] (.tup [.str (xFD k f t).1, .bool (xFD k f t).2]) [] := by
  refine xAG vf159 ?_ (Nat.le_of_ble_eq_true rfl) (by intro vs h; cases h; intro p hp q; rcases List.mem_cons.1 hp with rfl | hp <;> simp_all)
  by_cases hb : xAF k f = true
  · have hc := xPE k f hk hf
    rw [if_pos hb] at hc
    have hl : (k.drop f.length).length ≤ 1000000000 := by simp; omega
    repeat' first|refine zA ?_|refine zB ?_|refine zC ?_|refine zD ?_|refine zE ?_|refine zF ?_|refine zG ?_|refine zH ?_|refine zI ?_|refine zJ ?_|refine zK ?_|refine cv0 hc ?_|refine zA ?_|refine zT ?_|refine zW ?_|refine zX ?_|refine zi ?_|refine zm ?_|refine xAC ⟨.inr rfl, ?_⟩|refine cnd (fun _ => ?_) (fun _ => ?_)|(refine xBq (fun _ => ?_) (fun _ => ?_) <;> first|refine cv0 hc ?_|refine zA ?_|refine zT ?_|refine zW ?_|refine zX ?_|refine zi ?_|refine zm ?_)
    all_goals refine oSB ?_
    all_goals simp_all [xFD]
  · have hc := xPE k f hk hf
    rw [if_neg hb] at hc
    repeat' first|refine zA ?_|refine zB ?_|refine zC ?_|refine zD ?_|refine zE ?_|refine zF ?_|refine zG ?_|refine zH ?_|refine zI ?_|refine zJ ?_|refine zK ?_|refine cv0 hc ?_|refine zA ?_|refine zT ?_|refine zW ?_|refine zX ?_|refine zi ?_|refine zm ?_|refine xAC ⟨.inr rfl, ?_⟩|refine cnd (fun _ => ?_) (fun _ => ?_)|(refine xBq (fun _ => ?_) (fun _ => ?_) <;> first|refine cv0 hc ?_|refine zA ?_|refine zT ?_|refine zW ?_|refine zX ?_|refine zi ?_|refine zm ?_)
    all_goals refine oSB ?_
    all_goals simp_all [xFD]
end Go.Proofs
open Go.V Go.Pu
open Go.V renaming xA4 → zA, nl → zB, xAQ → zC, rg → zD, xAK → zE, bq → zF, xBD → zL, xBE → zM, xA2 → zO, xAo → zP, xAn → zQ, o_b2sR → zR, xKW → zS, xCp → zT, xEX → zU, xCo → zW, xBt → zX, xB6 → zY, xDW → zZ, xCF → zd, xBL → ze, o_s2b → zf, xA7 → zg, xBa → zj, xBb → zk, xDY → zl, xO0 → zt, skF → zw, skU → zx
set_option linter.unusedVariables false
set_option linter.unusedSimpArgs false
set_option maxRecDepth 20000
namespace Go.Proofs
def vc156 : VCode :=
 (.seq
 (.region 0 false [
 .e 2 (.alloc [(.str []), (.str [])]) 0])
 (.seq
 (.region 1 false [
 .e 4 (.copy (.t 0)) 8192,
 .e 5 (.s2b (.t 4)) 8200,
 .e 3 (.copy (.t 5)) 8208])
 (.seq
 (.block 0
 (.loop
 (.seq
 (.seq
 (.region 2 false [
 .e 6 (.copy (.t 3)) 16384,
 .e 7 (.len (.t 6)) 16392,
 .e 8 (.bin .gtr (.t 7) (.c (.int .i64 0))) 16400,
 .e 9 (.copy (.t 8)) 16408,
 .g 10 (.copy (.t 3)) 3 9 true 16416 [],
 .g 11 (.copy (.t 3)) 3 9 true 16424 [],
 .g 12 (.len (.t 11)) 3 9 true 16432 [],
 .g 13 (.bin .sub (.t 12) (.c (.int .i64 1))) 3 9 true 16440 [],
 .g 14 (.iaddr 1 (.t 10) (.t 13)) 3 9 true 16448 [],
 .g 15 (.load false 1 (.t 14)) 3 9 true 16456 [],
 .g 16 (.bin .eql (.t 15) (.c (.int .u8 255))) 3 9 true 16464 [],
 .e 17 (.pick (.t 9) (.t 16) (.c (.bool false))) 16472])
 (.cond (.t 17)
 .skip
 (.exit 0)))
 (.block 1
 (.region 3 false [
 .e 18 (.copy (.t 3)) 24576,
 .e 19 (.copy (.t 3)) 24584,
 .e 20 (.len (.t 19)) 24592,
 .e 21 (.bin .sub (.t 20) (.c (.int .i64 1))) 24600,
 .e 22 (.slsl 1 (.t 18) none (some (.t 21)) none) 24608,
 .e 3 (.copy (.t 22)) 24616])))))
 (.seq
 (.seq
 (.region 4 false [
 .e 23 (.copy (.t 3)) 32768,
 .e 24 (.len (.t 23)) 32776,
 .e 25 (.bin .gtr (.t 24) (.c (.int .i64 0))) 32784])
 (.cond (.t 25)
 (.region 5 false [
 .e 26 (.copy (.t 3)) 40960,
 .e 27 (.copy (.t 3)) 40968,
 .e 28 (.len (.t 27)) 40976,
 .e 29 (.bin .sub (.t 28) (.c (.int .i64 1))) 40984,
 .e 30 (.iaddr 1 (.t 26) (.t 29)) 40992,
 .e 31 (.load false 1 (.t 30)) 41000,
 .e 32 (.bin .add (.t 31) (.c (.int .u8 1))) 41008,
 .e 33 (.iaddr 1 (.t 26) (.t 29)) 41016,
 .h (.store 1 (.t 33) (.t 32)) 41024 []])
 .skip))
 (.seq
 (.region 6 false [
 .e 34 (.copy (.t 0)) 49152,
 .e 35 (.copy (.t 3)) 49160,
 .e 36 (.b2s (.t 35)) 49168,
 .e 37 (.build [(.str []), (.str [])] [(0, 1, (.t 34)), (1, 1, (.t 36))]) 49176,
 .h (.store 2 (.t 2) (.t 37)) 49184 []])
 .ret)))))
theorem vf156 : VF Tryz.prog 156 = some (38, vc156, [.cell true 2 2]) := by kernel_rfl
def vc40 : VCode :=
 (.seq
 (.region 0 false [
 .e 2 (.alloc [(.str []), (.str [])]) 0])
 (.seq
 (.region 1 false [
 .e 4 (.copy (.t 0)) 8192,
 .e 5 (.lenS (.t 4)) 8200,
 .e 3 (.copy (.t 5)) 8208])
 (.seq
 (.block 0
 (.loop
 (.seq
 (.seq
 (.region 2 false [
 .e 6 (.copy (.t 3)) 16384,
 .e 7 (.bin .gtr (.t 6) (.c (.int .i64 0))) 16392,
 .e 8 (.copy (.t 7)) 16400,
 .g 9 (.copy (.t 0)) 2 8 true 16408 [],
 .g 10 (.copy (.t 3)) 2 8 true 16416 [],
 .g 11 (.bin .sub (.t 10) (.c (.int .i64 1))) 2 8 true 16424 [],
 .g 12 (.indexS (.t 9) (.t 11)) 2 8 true 16432 [],
 .g 13 (.bin .eql (.t 12) (.c (.int .u8 255))) 2 8 true 16440 [],
 .e 14 (.pick (.t 8) (.t 13) (.c (.bool false))) 16448])
 (.cond (.t 14)
 .skip
 (.exit 0)))
 (.block 1
 (.region 3 false [
 .e 15 (.copy (.t 3)) 24576,
 .e 16 (.bin .sub (.t 15) (.c (.int .i64 1))) 24584,
 .e 3 (.copy (.t 16)) 24592])))))
 (.seq
 (.seq
 (.region 4 false [
 .e 17 (.copy (.t 3)) 32768,
 .e 18 (.bin .eql (.t 17) (.c (.int .i64 0))) 32776])
 (.cond (.t 18)
 (.seq
 (.region 5 false [
 .e 19 (.copy (.t 0)) 40960,
 .e 20 (.build [(.str []), (.str [])] [(0, 1, (.t 19))]) 40968,
 .h (.store 2 (.t 2) (.t 20)) 40976 []])
 .ret)
 .skip))
 (.seq
 (.region 6 true [
 .e 21 (.copy (.t 0)) 49152,
 .e 22 (.copy (.t 0)) 49160,
 .e 23 (.copy (.t 3)) 49168,
 .f 24 (.bin .sub (.t 23) (.c (.int .i64 1))) 49176 [2],
 .f 25 (.slstr (.t 22) none (some (.t 24))) 49184 [1, 3, 2],
 .e 26 (.copy (.t 0)) 49192,
 .e 27 (.copy (.t 3)) 49200,
 .f 28 (.bin .sub (.t 27) (.c (.int .i64 1))) 49208 [6],
 .f 29 (.indexS (.t 26) (.t 28)) 49216 [5, 7, 6],
 .f 30 (.bin .add (.t 29) (.c (.int .u8 1))) 49224 [8, 5, 7, 6],
 .f 31 (.bslice 1 [(.int .u8 0)] 1 [(0, (.t 30))]) 49232 [9, 8, 5, 7, 6],
 .f 32 (.b2s (.t 31)) 49240 [10, 9, 8, 5, 7, 6],
 .f 33 (.bin .add (.t 25) (.t 32)) 49248 [4, 1, 3, 2, 11, 10, 9, 8, 5, 7, 6],
 .f 34 (.build [(.str []), (.str [])] [(0, 1, (.t 21)), (1, 1, (.t 33))]) 49256 [0, 12, 4, 1, 3, 2, 11, 10, 9, 8, 5, 7, 6],
 .h (.store 2 (.t 2) (.t 34)) 49264 [13, 0, 12, 4, 1, 3, 2, 11, 10, 9, 8, 5, 7, 6]])
 .ret)))))
theorem vf40 : VF Tryz.prog 40 = some (35, vc40, [.cell true 2 2]) := by kernel_rfl
theorem xNv {p : Str} {n : Nat} {c : UInt8} (h : n < p.length) : (p.set n c).take (n + 1) = p.take n ++ [c] := by
  rw [List.take_add_one, List.take_set, List.set_eq_of_length_le (by simp; omega)]
  simp [h]
set_option maxHeartbeats 1000000 in
theorem xDS (p : Str) (hp : p.length ≤ 1000000000) : VC Tryz.prog 156 [.str p] [] (.agg (encS (xAU p))) [] := by
  refine xAG vf156 ?_ (Nat.le_of_ble_eq_true rfl) (by intro vs h; cases h)
  repeat first|refine zA ?_|refine zB ?_|refine zC ?_|refine zD ?_|refine zE ?_|refine zF ?_|refine zL ?_|refine zM ?_|refine zO ?_|refine zP ?_|refine zQ ?_|refine zR ?_|refine zT ?_|refine zU ?_|refine zW ?_|refine zX ?_|refine zY ?_|refine zZ ?_|refine zd ?_|refine zf ?_|refine zg ?_|refine zj ?_|refine zk ?_|refine zl ?_|refine zw ?_|refine zx ?_
  refine xAJ (fun (g : Nat) => [(0, .str p), (2, .ptr ⟨1, 0⟩ 1 0 0), (3, .own ⟨1, 8200⟩ (p.map encB).length 0 g)])
    (fun g => [(⟨1, 0⟩, ⟨true, false, 2, [[.str [], .str []]]⟩), (⟨1, 8200⟩, blkV 1 (p.map encB))]) (fun g => g)
    (fun g => g ≤ p.length ∧ xBP p g = xBP p p.length) p.length (goes (h1 := by refine ⟨rfl, rfl, ?_, trivial⟩; simp; rfl)) ⟨Nat.le_refl _, rfl⟩ ?_
  rintro n ⟨hn, hs⟩
  (try dsimp only)
  have hel : (p.map encB).length = p.length := List.length_map ..
  repeat first|refine zA ?_|refine zB ?_|refine zC ?_|refine zD ?_|refine zE ?_|refine zF ?_|refine zL ?_|refine zM ?_|refine zO ?_|refine zP ?_|refine zQ ?_|refine zR ?_|refine zT ?_|refine zU ?_|refine zW ?_|refine zX ?_|refine zY ?_|refine zZ ?_|refine zd ?_|refine zf ?_|refine zg ?_|refine zj ?_|refine zk ?_|refine zl ?_|refine zw ?_|refine zx ?_
  refine xBq (fun hg => ?_) (fun hg => ?_)
  · have hpos : 0 < n := by have := of_decide_eq_true hg; omega
    obtain ⟨m, rfl⟩ : ∃ m, n = m + 1 := ⟨n - 1, by omega⟩
    obtain ⟨c, hc⟩ : ∃ c, p[m]? = some c := ⟨_, List.getElem?_eq_getElem (by omega)⟩
    have hce : (blkV 1 (p.map encB)).els[0 + (((m + 1 : Nat) : Int) - 1).toNat]? = some (encB c) := by
      rw [show 0 + (((m + 1 : Nat) : Int) - 1).toNat = m by omega]
      show (p.map encB)[m]? = _
      rw [List.getElem?_map, hc]; rfl
    repeat first|refine zA ?_|refine zB ?_|refine zC ?_|refine zD ?_|refine zE ?_|refine zF ?_|refine xAD ?_|refine zL ?_|refine zM ?_|refine zO ?_|refine zP ?_|refine zQ ?_|refine zR ?_|refine zT ?_|refine zU ?_|refine zW ?_|refine zX ?_|refine zY ?_|refine zZ ?_|refine zd ?_|refine zf ?_|refine zg ?_|refine zj ?_|refine zk ?_|refine zl ?_|refine zw ?_|refine zx ?_
    refine cnd (fun h => xAB ?_) (fun h => xAE ?_)
    · have hc255 : p[m]? = some 255 := by
        rw [hc]; congr 1
        have : (c.toNat : Int) = 255 := by simpa using h
        exact UInt8.toNat_inj.1 (by show c.toNat = 255; omega)
      repeat first|refine zA ?_|refine zB ?_|refine zC ?_|refine zD ?_|refine zE ?_|refine zF ?_|refine xF5 ?_|refine zL ?_|refine zM ?_|refine zO ?_|refine zP ?_|refine zQ ?_|refine zR ?_|refine zT ?_|refine zU ?_|refine zW ?_|refine zX ?_|refine zY ?_|refine zZ ?_|refine zd ?_|refine zf ?_|refine zg ?_|refine zj ?_|refine zk ?_|refine zl ?_|refine zw ?_|refine zx ?_
      refine agn m ⟨by omega, ?_⟩ (goes (h1 := by refine ⟨rfl, rfl, congrArg (fun x => some (PV.own ⟨1, 8200⟩ (p.map encB).length 0 x)) (?_ : (((m + 1 : Nat) : Int) - 1).toNat - Int.toNat 0 = m), trivial⟩; omega))
      rw [← hs, xBP, if_pos hc255]
    · have hne : ¬ p[m]? = some 255 := by
        rw [hc]
        intro e
        cases e
        exact absurd h (by decide)
      have hst : xBP p (m + 1) = m + 1 := by rw [xBP, if_neg hne]
      repeat first|refine zA ?_|refine zB ?_|refine zC ?_|refine zD ?_|refine zE ?_|refine zF ?_|refine zL ?_|refine zM ?_|refine zO ?_|refine zP ?_|refine zQ ?_|refine zR ?_|refine zT ?_|refine zU ?_|refine zW ?_|refine zX ?_|refine zY ?_|refine zZ ?_|refine zd ?_|refine zf ?_|refine zg ?_|refine zj ?_|refine zk ?_|refine zl ?_|refine zw ?_|refine zx ?_
      refine cndt ?_ rfl (decide_eq_true (by omega))
      have hw := xFi c
      have hset := xNv (p := p) (n := m) (c := c + 1) (by omega)
      have hmm : 0 + (((m + 1 : Nat) : Int) - 1).toNat = m := by omega
      have hb2 : (((p.set (0 + (((m + 1 : Nat) : Int) - 1).toNat) (c + 1)).map encB).drop 0).take (m + 1) = (p.take m ++ [c + 1]).map encB := by rw [hmm, List.drop_zero, ← List.map_take, hset]
      repeat first|refine zA ?_|refine zB ?_|refine zC ?_|refine zD ?_|refine zE ?_|refine zF ?_|refine xAD ?_|refine xO2 ?_|refine o_v (vst encB (c + 1)) ?_|refine xO1 hb2 ?_|refine zL ?_|refine zM ?_|refine zO ?_|refine zP ?_|refine zQ ?_|refine zR ?_|refine zT ?_|refine zU ?_|refine zW ?_|refine zX ?_|refine zY ?_|refine zZ ?_|refine zd ?_|refine zf ?_|refine zg ?_|refine zj ?_|refine zk ?_|refine zl ?_|refine zw ?_|refine zx ?_
      refine xAC ⟨.inr rfl, oC ?_⟩
      have : upL p = p.take m ++ [c + 1] := by
        unfold upL
        rw [← hs, hst]
        simp [List.getD, hc]
      rw [show xAU p = ⟨p, upL p⟩ from rfl, this]
      rfl
  · have h0 : n = 0 := by have := of_decide_eq_false hg; omega
    subst h0
    repeat first|refine zA ?_|refine zB ?_|refine zC ?_|refine zD ?_|refine zE ?_|refine zF ?_|refine zL ?_|refine zM ?_|refine zO ?_|refine zP ?_|refine zQ ?_|refine zR ?_|refine zT ?_|refine zU ?_|refine zW ?_|refine zX ?_|refine zY ?_|refine zZ ?_|refine zd ?_|refine zf ?_|refine zg ?_|refine zj ?_|refine zk ?_|refine zl ?_|refine zw ?_|refine zx ?_
    refine cndf (xAE ?_)
    repeat first|refine zA ?_|refine zB ?_|refine zC ?_|refine zD ?_|refine zE ?_|refine zF ?_|refine zL ?_|refine zM ?_|refine zO ?_|refine zP ?_|refine zQ ?_|refine zR ?_|refine zT ?_|refine zU ?_|refine zW ?_|refine zX ?_|refine zY ?_|refine zZ ?_|refine zd ?_|refine zf ?_|refine zg ?_|refine zj ?_|refine zk ?_|refine zl ?_|refine zw ?_|refine zx ?_
    refine cndf (xAB ?_) rfl (by simp)
    have hb2 : (((p.map encB).drop 0).take 0) = ([] : Str).map encB := rfl
    repeat first|refine zA ?_|refine zB ?_|refine zC ?_|refine zD ?_|refine zE ?_|refine zF ?_|refine xO1 hb2 ?_|refine zL ?_|refine zM ?_|refine zO ?_|refine zP ?_|refine zQ ?_|refine zR ?_|refine zT ?_|refine zU ?_|refine zW ?_|refine zX ?_|refine zY ?_|refine zZ ?_|refine zd ?_|refine zf ?_|refine zg ?_|refine zj ?_|refine zk ?_|refine zl ?_|refine zw ?_|refine zx ?_
    refine xAC ⟨.inr rfl, oC ?_⟩
    have : upL p = [] := by
      unfold upL
      rw [← hs]
      rfl
    rw [show xAU p = ⟨p, upL p⟩ from rfl, this]
    rfl
theorem xDq (p : Str) (hp : p.length ≤ 1000000000) : VC Tryz.prog 40 [.str p] [] (.agg (encS (xAU p))) [] := by
  refine xAG vf40 ?_ (Nat.le_of_ble_eq_true rfl) (by intro vs h; cases h)
  repeat first|refine zA ?_|refine zB ?_|refine zC ?_|refine zD ?_|refine zE ?_|refine zF ?_|refine zR ?_|refine zS ?_|refine zT ?_|refine zU ?_|refine zW ?_|refine zX ?_|refine zd ?_|refine ze ?_|refine zg ?_|refine zj ?_|refine zk ?_|refine zl ?_|refine zt ?_|refine zw ?_|refine zx ?_
  refine xAJ (fun (g : Nat) => [(0, .str p), (2, .ptr ⟨1, 0⟩ 1 0 0), (3, .int .i64 g)])
    (fun g => [(⟨1, 0⟩, ⟨true, false, 2, [[.str [], .str []]]⟩)]) (fun g => g)
    (fun g => g ≤ p.length ∧ xBP p g = xBP p p.length) p.length goes ⟨Nat.le_refl _, rfl⟩ ?_
  rintro n ⟨hn, hs⟩
  (try dsimp only)
  repeat first|refine zA ?_|refine zB ?_|refine zC ?_|refine zD ?_|refine zE ?_|refine zF ?_|refine zR ?_|refine zS ?_|refine zT ?_|refine zU ?_|refine zW ?_|refine zX ?_|refine zd ?_|refine ze ?_|refine zg ?_|refine zj ?_|refine zk ?_|refine zl ?_|refine zt ?_|refine zw ?_|refine zx ?_
  refine xBq (fun hg => ?_) (fun hg => ?_)
  · have hpos : 0 < n := by have := of_decide_eq_true hg; omega
    obtain ⟨m, rfl⟩ : ∃ m, n = m + 1 := ⟨n - 1, by omega⟩
    obtain ⟨c, hc⟩ : ∃ c, p[m]? = some c := ⟨_, List.getElem?_eq_getElem (by omega)⟩
    have hce : p[(((m + 1 : Nat) : Int) - 1).toNat]? = some c := by
      rw [show (((m + 1 : Nat) : Int) - 1).toNat = m by omega]; exact hc
    have hmm : ((m + 1 : Nat) : Int) - 1 = (m : Nat) := by omega
    repeat first|refine zA ?_|refine zB ?_|refine zC ?_|refine zD ?_|refine zE ?_|refine zF ?_|refine zR ?_|refine zS ?_|refine zT ?_|refine zU ?_|refine zW ?_|refine zX ?_|refine zd ?_|refine ze ?_|refine zg ?_|refine zj ?_|refine zk ?_|refine zl ?_|refine zt ?_|refine zw ?_|refine zx ?_
    refine cnd (fun h => xAB ?_) (fun h => xAE ?_)
    · have hc255 : p[m]? = some 255 := by
        rw [hc]; congr 1
        have : (c.toNat : Int) = 255 := by simpa using h
        exact UInt8.toNat_inj.1 (by show c.toNat = 255; omega)
      repeat first|refine zA ?_|refine zB ?_|refine zC ?_|refine zD ?_|refine zE ?_|refine zF ?_|refine zR ?_|refine zS ?_|refine zT ?_|refine zU ?_|refine zW ?_|refine zX ?_|refine zd ?_|refine ze ?_|refine zg ?_|refine zj ?_|refine zk ?_|refine zl ?_|refine zt ?_|refine zw ?_|refine zx ?_
      refine agn m ⟨by omega, ?_⟩ (goes (h1 := by refine ⟨rfl, rfl, congrArg (fun x => some (PV.int .i64 x)) hmm, trivial⟩))
      rw [← hs, xBP, if_pos hc255]
    · have hne : ¬ p[m]? = some 255 := by
        rw [hc]
        intro e
        cases e
        exact absurd h (by decide)
      have hst : xBP p (m + 1) = m + 1 := by rw [xBP, if_neg hne]
      repeat first|refine zA ?_|refine zB ?_|refine zC ?_|refine zD ?_|refine zE ?_|refine zF ?_|refine zR ?_|refine zS ?_|refine zT ?_|refine zU ?_|refine zW ?_|refine zX ?_|refine zd ?_|refine ze ?_|refine zg ?_|refine zj ?_|refine zk ?_|refine zl ?_|refine zt ?_|refine zw ?_|refine zx ?_
      refine cndf (xAB ?_) rfl (by simp; omega)
      have hw := xFi c
      have hl1 : ((p.drop (Int.toNat 0)).take ((((m + 1 : Nat) : Int) - 1).toNat - Int.toNat 0)).length ≤ 1000000000 := by simp; omega
      repeat first|refine zA ?_|refine zB ?_|refine zC ?_|refine zD ?_|refine zE ?_|refine zF ?_|refine xEE ?_|refine xO2 ?_|refine zR ?_|refine zS ?_|refine zT ?_|refine zU ?_|refine zW ?_|refine zX ?_|refine zd ?_|refine ze ?_|refine zg ?_|refine zj ?_|refine zk ?_|refine zl ?_|refine zt ?_|refine zw ?_|refine zx ?_
      refine xAC ⟨.inr rfl, oC ?_⟩
      have : upL p = p.take m ++ [c + 1] := by
        unfold upL
        rw [← hs, hst]
        simp [List.getD, hc]
      rw [show xAU p = ⟨p, upL p⟩ from rfl, this]
      show [PV.str p, PV.str (_ ++ [UInt8.ofNat (((c + 1).toNat : Int)).toNat])] = _
      rw [xN8, show (((m + 1 : Nat) : Int) - 1).toNat - Int.toNat 0 = m by omega]
      rfl
  · have h0 : n = 0 := by have := of_decide_eq_false hg; omega
    subst h0
    repeat first|refine zA ?_|refine zB ?_|refine zC ?_|refine zD ?_|refine zE ?_|refine zF ?_|refine zR ?_|refine zS ?_|refine zT ?_|refine zU ?_|refine zW ?_|refine zX ?_|refine zd ?_|refine ze ?_|refine zg ?_|refine zj ?_|refine zk ?_|refine zl ?_|refine zt ?_|refine zw ?_|refine zx ?_
    refine cndf (xAE ?_)
    repeat first|refine zA ?_|refine zB ?_|refine zC ?_|refine zD ?_|refine zE ?_|refine zF ?_|refine zR ?_|refine zS ?_|refine zT ?_|refine zU ?_|refine zW ?_|refine zX ?_|refine zd ?_|refine ze ?_|refine zg ?_|refine zj ?_|refine zk ?_|refine zl ?_|refine zt ?_|refine zw ?_|refine zx ?_
    refine cndt ?_ rfl rfl
    repeat first|refine zA ?_|refine zB ?_|refine zC ?_|refine zD ?_|refine zE ?_|refine zF ?_|refine zR ?_|refine zS ?_|refine zT ?_|refine zU ?_|refine zW ?_|refine zX ?_|refine zd ?_|refine ze ?_|refine zg ?_|refine zj ?_|refine zk ?_|refine zl ?_|refine zt ?_|refine zw ?_|refine zx ?_
    refine xAC ⟨.inr rfl, oC ?_⟩
    have : upL p = [] := by
      unfold upL
      rw [← hs]
      rfl
    rw [show xAU p = ⟨p, upL p⟩ from rfl, this]
    rfl
end Go.Proofs
open Go.V Go.Pu
set_option linter.unusedVariables false
set_option linter.unusedSimpArgs false
set_option maxRecDepth 20000
namespace Go.Proofs
def xOv (l : List SpanL) (n : Int) : Bool := l.all (fun s => decide (s.lo.length ≤ 30) && decide (s.hi.length ≤ 30)) && decide ((l.length : Int) ≤ n)
theorem all_drop {α : Type} {f : α → Bool} {l : List α} {i : Nat} {x : α} (h : l[i]? = some x) : (l.drop i).all f = (f x && (l.drop (i + 1)).all f) := by
  rw [xAj h, List.all_cons]
abbrev encT (s : Str) : List PV := [.str s]
def cutE (e : Str) : Str := (e.drop (Int.toNat 0)).take (((e.length : Int) - 1).toNat - Int.toNat 0)
def lowE (e : Str) : UInt8 := UInt8.ofNat (IntKind.u8.wrap (((e.getD (e.length - 1) 0).toNat : Int) - 1)).toNat
def xG6 (e : Str) : List Str := if e.length = 0 then [e, e ++ [0], e ++ [255]] else [e, e ++ [0], e ++ [255]] ++ [cutE e, cutE e ++ [lowE e] ++ [255]]
def nearL (l : List SpanL) : List Str := l.foldl (fun o s => o ++ xG6 s.lo ++ xG6 s.hi) [[], [0], [97], [255]]
theorem xIn (e : Str) : (xG6 e).length ≤ 5 := by unfold xG6; split <;> simp
theorem xOe (e : Str) : (cutE e).length ≤ e.length := by simp only [cutE, List.length_take, List.length_drop]; omega
theorem xIm {e k : Str} (h : k ∈ xG6 e) : k.length ≤ e.length + 2 := by
  have := xOe e
  unfold xG6 at h
  split at h
  · simp at h
    rcases h with rfl | rfl | rfl <;> simp
  · simp at h
    rcases h with rfl | rfl | rfl | rfl | rfl <;> simp <;> omega
theorem nearL_mem {l : List SpanL} {n : Nat} (hl : ∀ s ∈ l, s.lo.length ≤ n ∧ s.hi.length ≤ n) {k : Str} (h : k ∈ nearL l) : k.length ≤ n + 2 := by
  have key : ∀ (l : List SpanL) (o : List Str), (∀ s ∈ l, s.lo.length ≤ n ∧ s.hi.length ≤ n) → (∀ k ∈ o, k.length ≤ n + 2) → ∀ k ∈ l.foldl (fun o s => o ++ xG6 s.lo ++ xG6 s.hi) o, k.length ≤ n + 2 := by
    intro l
    induction l with
    | nil => intro o _ ho; exact ho
    | cons s l ih =>
      intro o hs ho
      refine ih _ (fun t ht => hs t (by simp [ht])) (fun k hk => ?_)
      obtain ⟨h1, h2⟩ := hs s (by simp)
      simp only [List.mem_append] at hk
      rcases hk with (hk | hk) | hk
      · exact ho k hk
      · have := xIm hk; omega
      · have := xIm hk; omega
  exact key l _ hl (by intro k hk; simp at hk; rcases hk with rfl | rfl | rfl | rfl <;> simp) k h
theorem nearL_len (l : List SpanL) : (nearL l).length ≤ 4 + 10 * l.length := by
  have key : ∀ (l : List SpanL) (o : List Str), (l.foldl (fun o s => o ++ xG6 s.lo ++ xG6 s.hi) o).length ≤ o.length + 10 * l.length := by
    intro l
    induction l with
    | nil => intro o; simp
    | cons s l ih =>
      intro o
      refine Nat.le_trans (ih _) ?_
      have h1 := xIn s.lo
      have h2 := xIn s.hi
      simp only [List.length_append, List.length_cons]
      omega
  exact key l _
end Go.Proofs
open Go.V Go.Pu
set_option linter.unusedVariables false
set_option linter.unusedSimpArgs false
set_option maxRecDepth 20000
namespace Go.Proofs
theorem any_drop {α : Type} {f : α → Bool} {l : List α} {i : Nat} {x : α} (h : l[i]? = some x) : (l.drop i).any f = (f x || (l.drop (i + 1)).any f) := by
  rw [xAj h, List.any_cons]
theorem drop_ne {α : Type} {l m : List α} {i : Nat} {x y : α} (h : l[i]? = some x) (h2 : m[i]? = some y) (hn : x ≠ y) : l ≠ m := by
  intro e; subst e; rw [h] at h2; cases h2; exact hn rfl
def xD2 (s : SpanL) : Str → List Str → List SpanL
  | lo, [] => [xAp s ⟨lo, []⟩]
  | lo, p :: l => xAp s ⟨lo, p⟩ :: xD2 s p l
theorem xLT (s : SpanL) : ∀ (lo : Str) (l : List Str), (xD2 s lo l).length = l.length + 1
  | _, [] => rfl
  | _, p :: l => by rw [xD2, List.length_cons, xLT s p l, List.length_cons]
def xAa (x : Str) : List Str → List Str → Bool → List Str × Bool
  | [], nx, d => (nx, d)
  | y :: l, nx, d =>
    if d = false ∧ (Op.bytesLess x y || x == y) = true then xAa x l ((if Op.bytesLess x y = true then nx ++ [x] else nx) ++ [y]) true
    else xAa x l (nx ++ [y]) d
def xDT (out : List Str) (x : Str) : List Str :=
  let r := xAa x out [] (x == [])
  if r.2 = false then r.1 ++ [x] else r.1
def pivL (l : List Str) : List Str := l.foldl xDT []
theorem xDU (x : Str) : ∀ (l nx : List Str) (d : Bool), (xAa x l nx d).1.length ≤ nx.length + l.length + (if d = true then 0 else if (xAa x l nx d).2 = true then 1 else 0)
  | [], nx, d => by simp [xAa]
  | y :: l, nx, d => by
    unfold xAa
    split
    · rename_i h
      have := xDU x l ((if Op.bytesLess x y = true then nx ++ [x] else nx) ++ [y]) true
      have h2 : (xAa x l ((if Op.bytesLess x y = true then nx ++ [x] else nx) ++ [y]) true).2 = true := by
        have key : ∀ (l nx : List Str), (xAa x l nx true).2 = true := by
          intro l
          induction l with
          | nil => intro nx; rfl
          | cons z l ih => intro nx; unfold xAa; rw [if_neg (by simp)]; exact ih _
        exact key _ _
      rw [h2, h.1]
      simp only [if_true, List.length_append, List.length_cons, List.length_nil] at this ⊢
      split at this <;> simp_all <;> omega
    · have := xDU x l (nx ++ [y]) d
      simp only [List.length_append, List.length_cons, List.length_nil] at this ⊢
      omega
theorem xJf (out : List Str) (x : Str) : (xDT out x).length ≤ out.length + 1 := by
  have := xDU x out [] (x == [])
  unfold xDT
  generalize (x == []) = d0 at this
  generalize xAa x out [] d0 = r at this
  obtain ⟨r1, r2⟩ := r
  simp only [List.length_nil] at this ⊢
  cases r2 <;> cases d0 <;> simp at this ⊢ <;> omega
end Go.Proofs
open Go.V Go.Pu
open Go.V renaming xA4 → zA, nl → zB, xAQ → zC, rg → zD, xAK → zE, bq → zF, xBD → zL, xBE → zM, xBs → zN, xA2 → zO, xAo → zP, xAn → zQ, xCp → zT, xEX → zU, xCo → zW, xBt → zX, xB6 → zY, xDW → zZ, xAl → za, xAm → zb, xFT → zc, xBL → ze, xA7 → zg, xG4 → zi, xBa → zj, xBb → zk, skF → zw, skU → zx
set_option linter.unusedVariables false
set_option linter.unusedSimpArgs false
set_option maxRecDepth 20000
namespace Go.Proofs
def vc62 : VCode :=
 (.seq
 (.region 0 false [
 .e 3 (.box (.t 1)) 0,
 .e 4 (.copy (.c .nils)) 8])
 (.seq
 (.region 1 false [
 .e 8 (.bslice 2 [(.str []), (.str [])] 0 []) 8192,
 .e 9 (.load true 2 (.t 3)) 8200,
 .e 10 (.call (.c (.fn 64 [])) [(.t 9)]) 8208,
 .e 5 (.copy (.t 8)) 8216,
 .e 6 (.copy (.t 10)) 8224])
 (.seq
 (.seq
 (.region 2 false [
 .e 7 (.copy (.c (.int .i64 0))) 16384])
 (.block 0
 (.loop
 (.seq
 (.seq
 (.region 3 false [
 .e 11 (.copy (.t 7)) 24576,
 .e 12 (.copy (.t 0)) 24584,
 .e 13 (.len (.t 12)) 24592,
 .e 14 (.bin .lss (.t 11) (.t 13)) 24600])
 (.cond (.t 14)
 .skip
 (.exit 0)))
 (.seq
 (.block 1
 (.seq
 (.seq
 (.region 5 true [
 .e 17 (.copy (.t 6)) 40960,
 .f 18 (.not (.t 17)) 40968 [0],
 .f 19 (.copy (.t 18)) 40976 [1, 0],
 .g 20 (.faddr 0 (.t 3)) 2 19 true 40984 [2, 1, 0],
 .g 21 (.load false 1 (.t 20)) 2 19 true 40992 [3, 2, 1, 0],
 .g 22 (.copy (.t 0)) 2 19 true 41000 [2, 1, 0],
 .g 23 (.copy (.t 7)) 2 19 true 41008 [2, 1, 0],
 .g 24 (.iaddr 2 (.t 22) (.t 23)) 2 19 true 41016 [5, 2, 1, 0, 6],
 .g 25 (.faddr 0 (.t 24)) 2 19 true 41024 [7, 5, 2, 1, 0, 6],
 .g 26 (.load false 1 (.t 25)) 2 19 true 41032 [8, 7, 5, 2, 1, 0, 6],
 .g 27 (.bin .lss (.t 21) (.t 26)) 2 19 true 41040 [4, 3, 2, 1, 0, 9, 8, 7, 5, 6],
 .f 28 (.pick (.t 19) (.t 27) (.c (.bool false))) 41048 [2, 1, 0, 10, 4, 3, 9, 8, 7, 5, 6]])
 (.cond (.t 28)
 (.region 6 false [
 .e 29 (.copy (.t 5)) 49152,
 .e 30 (.load true 2 (.t 3)) 49160,
 .e 31 (.bslice 2 [(.str []), (.str [])] 1 [(0, (.t 30))]) 49168,
 .e 32 (.append 2 32 [(.str []), (.str [])] (.t 29) (.t 31)) 49176,
 .e 5 (.copy (.t 32)) 49184,
 .e 6 (.copy (.c (.bool true))) 49192])
 .skip))
 (.region 7 false [
 .e 33 (.copy (.t 5)) 57344,
 .e 34 (.copy (.t 0)) 57352,
 .e 35 (.copy (.t 7)) 57360,
 .e 36 (.iaddr 2 (.t 34) (.t 35)) 57368,
 .e 37 (.load true 2 (.t 36)) 57376,
 .e 38 (.bslice 2 [(.str []), (.str [])] 1 [(0, (.t 37))]) 57384,
 .e 39 (.append 2 32 [(.str []), (.str [])] (.t 33) (.t 38)) 57392,
 .e 5 (.copy (.t 39)) 57400])))
 (.region 4 false [
 .e 15 (.copy (.t 7)) 32768,
 .e 16 (.bin .add (.t 15) (.c (.int .i64 1))) 32776,
 .e 7 (.copy (.t 16)) 32784]))))))
 (.seq
 (.seq
 (.region 8 false [
 .e 40 (.copy (.t 6)) 65536,
 .e 41 (.not (.t 40)) 65544])
 (.cond (.t 41)
 (.region 9 false [
 .e 42 (.copy (.t 5)) 73728,
 .e 43 (.load true 2 (.t 3)) 73736,
 .e 44 (.bslice 2 [(.str []), (.str [])] 1 [(0, (.t 43))]) 73744,
 .e 45 (.append 2 32 [(.str []), (.str [])] (.t 42) (.t 44)) 73752,
 .e 5 (.copy (.t 45)) 73760])
 .skip))
 (.seq
 (.region 10 false [
 .e 46 (.copy (.t 5)) 81920,
 .e 4 (.copy (.t 46)) 81928])
 .ret)))))
theorem vf62 : VF Tryz.prog 62 = some (47, vc62, [.tmp 4]) := by kernel_rfl
def vc34 : VCode :=
 (.seq
 (.region 0 false [
 .e 2 (.copy (.c .nils)) 0])
 (.seq
 (.region 1 false [
 .e 8 (.bslice 2 [(.str []), (.str [])] 0 []) 8192,
 .e 9 (.bslice 2 [(.str []), (.str [])] 0 []) 8200,
 .e 3 (.copy (.t 8)) 8208,
 .e 4 (.copy (.t 9)) 8216])
 (.seq
 (.seq
 (.region 2 false [
 .e 5 (.copy (.c (.int .i64 0))) 16384])
 (.block 0
 (.loop
 (.seq
 (.seq
 (.region 3 false [
 .e 10 (.copy (.t 5)) 24576,
 .e 11 (.copy (.t 0)) 24584,
 .e 12 (.len (.t 11)) 24592,
 .e 13 (.bin .lss (.t 10) (.t 12)) 24600])
 (.cond (.t 13)
 .skip
 (.exit 0)))
 (.seq
 (.block 1
 (.region 5 false [
 .e 16 (.copy (.t 3)) 40960,
 .e 17 (.copy (.t 0)) 40968,
 .e 18 (.copy (.t 5)) 40976,
 .e 19 (.iaddr 2 (.t 17) (.t 18)) 40984,
 .e 20 (.load true 2 (.t 19)) 40992,
 .e 21 (.call (.c (.fn 62 [])) [(.t 16), (.t 20)]) 41000,
 .e 3 (.copy (.t 21)) 41008]))
 (.region 4 false [
 .e 14 (.copy (.t 5)) 32768,
 .e 15 (.bin .add (.t 14) (.c (.int .i64 1))) 32776,
 .e 5 (.copy (.t 15)) 32784]))))))
 (.seq
 (.seq
 (.region 6 false [
 .e 6 (.copy (.c (.int .i64 0))) 49152])
 (.block 2
 (.loop
 (.seq
 (.seq
 (.region 7 false [
 .e 22 (.copy (.t 6)) 57344,
 .e 23 (.copy (.t 3)) 57352,
 .e 24 (.len (.t 23)) 57360,
 .e 25 (.bin .lss (.t 22) (.t 24)) 57368])
 (.cond (.t 25)
 .skip
 (.exit 2)))
 (.seq
 (.block 3
 (.seq
 (.region 9 false [
 .e 28 (.copy (.t 4)) 73728,
 .e 29 (.len (.t 28)) 73736,
 .e 30 (.bin .sub (.t 29) (.c (.int .i64 1))) 73744,
 .e 7 (.copy (.t 30)) 73752])
 (.seq
 (.region 10 true [
 .e 31 (.copy (.t 7)) 81920,
 .f 32 (.bin .lss (.t 31) (.c (.int .i64 0))) 81928 [0],
 .f 33 (.copy (.t 32)) 81936 [1, 0],
 .g 34 (.copy (.t 4)) 2 33 false 81944 [2, 1, 0],
 .g 35 (.copy (.t 7)) 2 33 false 81952 [2, 1, 0],
 .g 36 (.iaddr 2 (.t 34) (.t 35)) 2 33 false 81960 [3, 2, 1, 0, 4],
 .g 37 (.faddr 1 (.t 36)) 2 33 false 81968 [5, 3, 2, 1, 0, 4],
 .g 38 (.load false 1 (.t 37)) 2 33 false 81976 [6, 5, 3, 2, 1, 0, 4],
 .g 39 (.bin .neq (.t 38) (.c (.str []))) 2 33 false 81984 [7, 6, 5, 3, 2, 1, 0, 4],
 .g 40 (.copy (.t 39)) 2 33 false 81992 [8, 7, 6, 5, 3, 2, 1, 0, 4],
 .g 41 (.copy (.t 4)) 9 40 true 82000 [9, 8, 7, 6, 5, 3, 2, 1, 0, 4],
 .g 42 (.copy (.t 7)) 9 40 true 82008 [9, 8, 7, 6, 5, 3, 2, 1, 0, 4],
 .g 43 (.iaddr 2 (.t 41) (.t 42)) 9 40 true 82016 [10, 9, 8, 7, 6, 5, 3, 2, 1, 0, 4, 11],
 .g 44 (.faddr 1 (.t 43)) 9 40 true 82024 [12, 10, 9, 8, 7, 6, 5, 3, 2, 1, 0, 4, 11],
 .g 45 (.load false 1 (.t 44)) 9 40 true 82032 [13, 12, 10, 9, 8, 7, 6, 5, 3, 2, 1, 0, 4, 11],
 .g 46 (.copy (.t 3)) 9 40 true 82040 [9, 8, 7, 6, 5, 3, 2, 1, 0, 4],
 .g 47 (.copy (.t 6)) 9 40 true 82048 [9, 8, 7, 6, 5, 3, 2, 1, 0, 4],
 .g 48 (.iaddr 2 (.t 46) (.t 47)) 9 40 true 82056 [15, 9, 8, 7, 6, 5, 3, 2, 1, 0, 4, 16],
 .g 49 (.faddr 0 (.t 48)) 9 40 true 82064 [17, 15, 9, 8, 7, 6, 5, 3, 2, 1, 0, 4, 16],
 .g 50 (.load false 1 (.t 49)) 9 40 true 82072 [18, 17, 15, 9, 8, 7, 6, 5, 3, 2, 1, 0, 4, 16],
 .g 51 (.bin .lss (.t 45) (.t 50)) 9 40 true 82080 [14, 13, 12, 10, 9, 8, 7, 6, 5, 3, 2, 1, 0, 4, 11, 19, 18, 17, 15, 16],
 .g 52 (.pick (.t 40) (.t 51) (.c (.bool false))) 2 33 false 82088 [9, 8, 7, 6, 5, 3, 2, 1, 0, 4, 20, 14, 13, 12, 10, 11, 19, 18, 17, 15, 16],
 .f 53 (.pick (.t 33) (.c (.bool true)) (.t 52)) 82096 [2, 1, 0, 21, 9, 8, 7, 6, 5, 3, 4, 20, 14, 13, 12, 10, 11, 19, 18, 17, 15, 16]])
 (.cond (.t 53)
 (.region 11 false [
 .e 54 (.copy (.t 4)) 90112,
 .e 55 (.copy (.t 3)) 90120,
 .e 56 (.copy (.t 6)) 90128,
 .e 57 (.iaddr 2 (.t 55) (.t 56)) 90136,
 .e 58 (.load true 2 (.t 57)) 90144,
 .e 59 (.bslice 2 [(.str []), (.str [])] 1 [(0, (.t 58))]) 90152,
 .e 60 (.append 2 32 [(.str []), (.str [])] (.t 54) (.t 59)) 90160,
 .e 4 (.copy (.t 60)) 90168])
 (.seq
 (.region 12 true [
 .e 61 (.copy (.t 4)) 98304,
 .e 62 (.copy (.t 7)) 98312,
 .f 63 (.iaddr 2 (.t 61) (.t 62)) 98320 [0, 1],
 .f 64 (.faddr 1 (.t 63)) 98328 [2, 0, 1],
 .f 65 (.load false 1 (.t 64)) 98336 [3, 2, 0, 1],
 .e 66 (.copy (.t 3)) 98344,
 .e 67 (.copy (.t 6)) 98352,
 .f 68 (.iaddr 2 (.t 66) (.t 67)) 98360 [5, 6],
 .f 69 (.faddr 1 (.t 68)) 98368 [7, 5, 6],
 .f 70 (.load false 1 (.t 69)) 98376 [8, 7, 5, 6],
 .f 71 (.call (.c (.fn 63 [])) [(.t 65), (.t 70)]) 98384 [4, 3, 2, 0, 1, 9, 8, 7, 5, 6]])
 (.cond (.t 71)
 (.region 13 false [
 .e 72 (.copy (.t 4)) 106496,
 .e 73 (.copy (.t 7)) 106504,
 .e 74 (.copy (.t 3)) 106512,
 .e 75 (.copy (.t 6)) 106520,
 .e 76 (.iaddr 2 (.t 74) (.t 75)) 106528,
 .e 77 (.faddr 1 (.t 76)) 106536,
 .e 78 (.load false 1 (.t 77)) 106544,
 .e 79 (.iaddr 2 (.t 72) (.t 73)) 106552,
 .e 80 (.faddr 1 (.t 79)) 106560,
 .h (.store 1 (.t 80) (.t 78)) 106568 []])
 .skip))))))
 (.region 8 false [
 .e 26 (.copy (.t 6)) 65536,
 .e 27 (.bin .add (.t 26) (.c (.int .i64 1))) 65544,
 .e 6 (.copy (.t 27)) 65552]))))))
 (.seq
 (.region 14 false [
 .e 81 (.copy (.t 4)) 114688,
 .e 2 (.copy (.t 81)) 114696])
 .ret)))))
theorem vf34 : VF Tryz.prog 34 = some (82, vc34, [.tmp 2]) := by kernel_rfl
theorem xM1 {q : PV} {l : List SpanL} (s : SpanL) (hq : Sl q (l.map encS)) (hl : l.length ≤ 1000000) : VC Tryz.prog 62 [q, .agg (encS s)] [] (ownV ⟨0, 0⟩ ((insS l s).map encS)) [blkV 2 ((insS l s).map encS)] := by
  refine xAG vf62 ?_ (Nat.le_of_ble_eq_true rfl) (by intro vs h; cases h)
  have hlen := xH8 l s
  repeat first|refine zA ?_|refine zB ?_|refine zC ?_|refine zD ?_|refine zE ?_|refine zF ?_|refine cv0 (xCx s) ?_|refine zL ?_|refine zM ?_|refine zN ?_|refine zO ?_|refine zP ?_|refine zQ ?_|refine zT ?_|refine zW ?_|refine zX ?_|refine zY ?_|refine zZ ?_|refine za ?_|refine zb ?_|refine zc ?_|refine ze ?_|refine zi ?_|refine zj ?_|refine zk ?_|refine zw ?_|refine zx ?_
  refine xAJ (fun (g : Nat × List SpanL × Bool) => [(0, q), (3, .ptr ⟨1, 0⟩ 1 0 0), (5, ownV ⟨1, 8192⟩ (g.2.1.map encS)), (6, .bool g.2.2), (7, .int .i64 g.1)])
    (fun g => [(⟨1, 0⟩, ⟨true, false, 2, [encS s]⟩), (⟨1, 8192⟩, blkV 2 (g.2.1.map encS))]) (fun g => l.length - g.1)
    (fun g => g.1 ≤ l.length ∧ g.2.1.length ≤ 2 * g.1 ∧ insI s (l.drop g.1) g.2.1 g.2.2 = insI s l [] (xAI s)) (0, [], xAI s) goes ⟨Nat.zero_le _, Nat.le_refl _, rfl⟩ ?_
  rintro ⟨i, o, d⟩ ⟨hi, ho, hv⟩
  dsimp only at hi ho hv ⊢
  repeat first|refine zA ?_|refine zB ?_|refine zC ?_|refine zD ?_|refine zE ?_|refine zF ?_|refine zL ?_|refine zM ?_|refine zN ?_|refine zO ?_|refine zP ?_|refine zQ ?_|refine zT ?_|refine zW ?_|refine zX ?_|refine zY ?_|refine zZ ?_|refine za ?_|refine zb ?_|refine zc ?_|refine ze ?_|refine zi ?_|refine zj ?_|refine zk ?_|refine zw ?_|refine zx ?_
  refine cnd (fun h => xAB ?_) (fun h => xAE ?_)
  · have hlt : i < l.length := by have h' := of_decide_eq_true h; simp only [List.length_map] at h'; omega
    obtain ⟨y, hy⟩ : ∃ x, l[i]? = some x := ⟨_, List.getElem?_eq_getElem hlt⟩
    have hye := gm (enc := encS) (n := (i : Int)) hy (by omega)
    rw [xAj hy, insI] at hv
    cases d with
    | true =>
      repeat first|refine zA ?_|refine zB ?_|refine zC ?_|refine zD ?_|refine zE ?_|refine zF ?_|refine zL ?_|refine zM ?_|refine zN ?_|refine zO ?_|refine zP ?_|refine zQ ?_|refine zT ?_|refine zW ?_|refine zX ?_|refine zY ?_|refine zZ ?_|refine za ?_|refine zb ?_|refine zc ?_|refine ze ?_|refine zi ?_|refine zj ?_|refine zk ?_|refine zw ?_|refine zx ?_
      refine cndf (xAB ?_)
      repeat first|refine zA ?_|refine zB ?_|refine zC ?_|refine zD ?_|refine zE ?_|refine zF ?_|refine o_v (vap encS y) ?_|refine zL ?_|refine zM ?_|refine zN ?_|refine zO ?_|refine zP ?_|refine zQ ?_|refine zT ?_|refine zW ?_|refine zX ?_|refine zY ?_|refine zZ ?_|refine za ?_|refine zb ?_|refine zc ?_|refine ze ?_|refine zi ?_|refine zj ?_|refine zk ?_|refine zw ?_|refine zx ?_
      refine agn (i + 1, o ++ [y], true) ⟨by simp only; omega, by simp only [List.length_append, List.length_cons, List.length_nil]; omega, ?_⟩ goes
      rw [if_neg (by simp)] at hv
      exact hv
    | false =>
      repeat first|refine zA ?_|refine zB ?_|refine zC ?_|refine zD ?_|refine zE ?_|refine zF ?_|refine zL ?_|refine zM ?_|refine zN ?_|refine zO ?_|refine zP ?_|refine zQ ?_|refine zT ?_|refine zW ?_|refine zX ?_|refine zY ?_|refine zZ ?_|refine za ?_|refine zb ?_|refine zc ?_|refine ze ?_|refine zi ?_|refine zj ?_|refine zk ?_|refine zw ?_|refine zx ?_
      refine cnd (fun h3 => ?_) (fun h3 => xAB ?_)
      · repeat first|refine zA ?_|refine zB ?_|refine zC ?_|refine zD ?_|refine zE ?_|refine zF ?_|refine o_v (vap encS s) ?_|refine o_v (vap encS y) ?_|refine zL ?_|refine zM ?_|refine zN ?_|refine zO ?_|refine zP ?_|refine zQ ?_|refine zT ?_|refine zW ?_|refine zX ?_|refine zY ?_|refine zZ ?_|refine za ?_|refine zb ?_|refine zc ?_|refine ze ?_|refine zi ?_|refine zj ?_|refine zk ?_|refine zw ?_|refine zx ?_
        refine agn (i + 1, o ++ [s] ++ [y], true) ⟨by simp only; omega, by simp only [List.length_append, List.length_cons, List.length_nil]; omega, ?_⟩ goes
        rw [if_pos ⟨rfl, h3⟩] at hv
        exact hv
      · repeat first|refine zA ?_|refine zB ?_|refine zC ?_|refine zD ?_|refine zE ?_|refine zF ?_|refine o_v (vap encS y) ?_|refine zL ?_|refine zM ?_|refine zN ?_|refine zO ?_|refine zP ?_|refine zQ ?_|refine zT ?_|refine zW ?_|refine zX ?_|refine zY ?_|refine zZ ?_|refine za ?_|refine zb ?_|refine zc ?_|refine ze ?_|refine zi ?_|refine zj ?_|refine zk ?_|refine zw ?_|refine zx ?_
        refine agn (i + 1, o ++ [y], false) ⟨by simp only; omega, by simp only [List.length_append, List.length_cons, List.length_nil]; omega, ?_⟩ goes
        rw [if_neg (by simp [h3])] at hv
        exact hv
  · have hge : i = l.length := by have h' := of_decide_eq_false h; simp only [List.length_map] at h'; omega
    subst hge
    rw [List.drop_length, insI] at hv
    repeat first|refine zA ?_|refine zB ?_|refine zC ?_|refine zD ?_|refine zE ?_|refine zF ?_|refine zL ?_|refine zM ?_|refine zN ?_|refine zO ?_|refine zP ?_|refine zQ ?_|refine zT ?_|refine zW ?_|refine zX ?_|refine zY ?_|refine zZ ?_|refine za ?_|refine zb ?_|refine zc ?_|refine ze ?_|refine zi ?_|refine zj ?_|refine zk ?_|refine zw ?_|refine zx ?_
    refine cnd (fun h3 => ?_) (fun h3 => xAB ?_)
    · have hd : d = false := by simpa using h3
      subst hd
      have hstep : insS l s = o ++ [s] := by unfold insS; rw [← hv]; rfl
      rw [hstep] at hlen ⊢
      repeat first|refine zA ?_|refine zB ?_|refine zC ?_|refine zD ?_|refine zE ?_|refine zF ?_|refine o_v (vap encS s) ?_|refine zL ?_|refine zM ?_|refine zN ?_|refine zO ?_|refine zP ?_|refine zQ ?_|refine zT ?_|refine zW ?_|refine zX ?_|refine zY ?_|refine zZ ?_|refine za ?_|refine zb ?_|refine zc ?_|refine ze ?_|refine zi ?_|refine zj ?_|refine zk ?_|refine zw ?_|refine zx ?_
      exact xAC ⟨.inr rfl, oOwn rfl⟩
    · have hd : d = true := by simpa using h3
      subst hd
      have hstep : insS l s = o := by unfold insS; rw [← hv]; rfl
      rw [hstep] at hlen ⊢
      repeat first|refine zA ?_|refine zB ?_|refine zC ?_|refine zD ?_|refine zE ?_|refine zF ?_|refine zL ?_|refine zM ?_|refine zN ?_|refine zO ?_|refine zP ?_|refine zQ ?_|refine zT ?_|refine zW ?_|refine zX ?_|refine zY ?_|refine zZ ?_|refine za ?_|refine zb ?_|refine zc ?_|refine ze ?_|refine zi ?_|refine zj ?_|refine zk ?_|refine zw ?_|refine zx ?_
      exact xAC ⟨.inr rfl, oOwn rfl⟩
set_option maxHeartbeats 1000000 in
theorem xHs {q : PV} {l : List SpanL} (hq : Sl q (l.map encS)) (hl : l.length ≤ 100000) : VC Tryz.prog 34 [q] [] (ownV ⟨0, 0⟩ ((xAM l).map encS)) [blkV 2 ((xAM l).map encS)] := by
  refine xAG vf34 ?_ (Nat.le_of_ble_eq_true rfl) (by intro vs h; cases h)
  repeat first|refine zA ?_|refine zB ?_|refine zC ?_|refine zD ?_|refine zE ?_|refine zF ?_|refine zL ?_|refine zM ?_|refine zN ?_|refine zO ?_|refine zP ?_|refine zQ ?_|refine zT ?_|refine zU ?_|refine zW ?_|refine zX ?_|refine zY ?_|refine zZ ?_|refine za ?_|refine zb ?_|refine ze ?_|refine zg ?_|refine zj ?_|refine zk ?_|refine zw ?_|refine zx ?_
  refine xAJ (fun (g : Nat × List SpanL) => [(0, q), (3, ownV ⟨1, 8192⟩ (g.2.map encS)), (4, .own ⟨1, 8200⟩ 0 0 0), (5, .int .i64 g.1)])
    (fun g => [(⟨1, 8192⟩, blkV 2 (g.2.map encS)), (⟨1, 8200⟩, blkV 2 [])]) (fun g => l.length - g.1)
    (fun g => g.1 ≤ l.length ∧ g.2.length ≤ g.1 ∧ (l.drop g.1).foldl insS g.2 = xHq l) (0, []) goes ⟨Nat.zero_le _, Nat.le_refl _, rfl⟩ ?_
  rintro ⟨i, o⟩ ⟨hi, ho, hv⟩
  dsimp only at hi ho hv ⊢
  repeat first|refine zA ?_|refine zB ?_|refine zC ?_|refine zD ?_|refine zE ?_|refine zF ?_|refine zL ?_|refine zM ?_|refine zN ?_|refine zO ?_|refine zP ?_|refine zQ ?_|refine zT ?_|refine zU ?_|refine zW ?_|refine zX ?_|refine zY ?_|refine zZ ?_|refine za ?_|refine zb ?_|refine ze ?_|refine zg ?_|refine zj ?_|refine zk ?_|refine zw ?_|refine zx ?_
  refine cnd (fun h => xAB ?_) (fun h => xAE ?_)
  · have hlt : i < l.length := by have h' := of_decide_eq_true h; simp only [List.length_map] at h'; omega
    obtain ⟨y, hy⟩ : ∃ x, l[i]? = some x := ⟨_, List.getElem?_eq_getElem hlt⟩
    have hye := gm (enc := encS) (n := (i : Int)) hy (by omega)
    rw [xAj hy, List.foldl_cons] at hv
    have hlen := xH8 o y
    repeat first|refine zA ?_|refine zB ?_|refine zC ?_|refine zD ?_|refine zE ?_|refine zF ?_|refine cv (xM1 y (q := .sh false (o.map encS)) (l := o) Sl.sh (by omega)) ?_|refine zL ?_|refine zM ?_|refine zN ?_|refine zO ?_|refine zP ?_|refine zQ ?_|refine zT ?_|refine zU ?_|refine zW ?_|refine zX ?_|refine zY ?_|refine zZ ?_|refine za ?_|refine zb ?_|refine ze ?_|refine zg ?_|refine zj ?_|refine zk ?_|refine zw ?_|refine zx ?_
    exact agn (i + 1, insS o y) ⟨by simp only; omega, by simp only; omega, hv⟩ (goesR ⟨1, 41000⟩ ⟨1, 8192⟩)
  · have hge : i = l.length := by have h' := of_decide_eq_false h; simp only [List.length_map] at h'; omega
    subst hge
    rw [List.drop_length, List.foldl_nil] at hv
    subst hv
    have hsl := ho
    generalize hsr : xHq l = sl at hsl
    have hrn : xAM l = sl.foldl xBr [] := by unfold xAM xJp; rw [hsr]
    rw [hrn]
    repeat first|refine zA ?_|refine zB ?_|refine zC ?_|refine zD ?_|refine zE ?_|refine zF ?_|refine zL ?_|refine zM ?_|refine zN ?_|refine zO ?_|refine zP ?_|refine zQ ?_|refine zT ?_|refine zU ?_|refine zW ?_|refine zX ?_|refine zY ?_|refine zZ ?_|refine za ?_|refine zb ?_|refine ze ?_|refine zg ?_|refine zj ?_|refine zk ?_|refine zw ?_|refine zx ?_
    refine xAJ (fun (g : Nat × List SpanL) => [(3, ownV ⟨1, 8192⟩ (sl.map encS)), (4, ownV ⟨1, 8200⟩ (g.2.map encS)), (6, .int .i64 g.1)])
      (fun g => [(⟨1, 8192⟩, blkV 2 (sl.map encS)), (⟨1, 8200⟩, blkV 2 (g.2.map encS))]) (fun g => sl.length - g.1)
      (fun g => g.1 ≤ sl.length ∧ g.2.length ≤ g.1 ∧ (sl.drop g.1).foldl xBr g.2 = sl.foldl xBr []) (0, []) goes ⟨Nat.zero_le _, Nat.le_refl _, rfl⟩ ?_
    rintro ⟨k, o⟩ ⟨hk, ho, hw⟩
    dsimp only at hk ho hw ⊢
    repeat first|refine zA ?_|refine zB ?_|refine zC ?_|refine zD ?_|refine zE ?_|refine zF ?_|refine zL ?_|refine zM ?_|refine zN ?_|refine zO ?_|refine zP ?_|refine zQ ?_|refine zT ?_|refine zU ?_|refine zW ?_|refine zX ?_|refine zY ?_|refine zZ ?_|refine za ?_|refine zb ?_|refine ze ?_|refine zg ?_|refine zj ?_|refine zk ?_|refine zw ?_|refine zx ?_
    refine cnd (fun h => xAB ?_) (fun h => xAE ?_)
    · have hlt : k < sl.length := by have h' := of_decide_eq_true h; simp only [List.length_map] at h'; omega
      obtain ⟨y, hy⟩ : ∃ x, sl[k]? = some x := ⟨_, List.getElem?_eq_getElem hlt⟩
      have hye := gm (enc := encS) (n := (k : Int)) hy (by omega)
      have hye2 : (blkV 2 (sl.map encS)).els[0 + (k : Int).toNat]? = some (encS y) := by rw [Nat.zero_add]; exact hye
      rw [xAj hy, List.foldl_cons] at hw
      have hlen := xFs o y
      rcases Nat.eq_zero_or_pos o.length with h0 | hpos
      · have ho0 : o = [] := List.length_eq_zero_iff.1 h0
        subst ho0
        repeat first|refine zA ?_|refine zB ?_|refine zC ?_|refine zD ?_|refine zE ?_|refine zF ?_|refine zL ?_|refine zM ?_|refine zN ?_|refine zO ?_|refine zP ?_|refine zQ ?_|refine zT ?_|refine zU ?_|refine zW ?_|refine zX ?_|refine zY ?_|refine zZ ?_|refine za ?_|refine zb ?_|refine ze ?_|refine zg ?_|refine zj ?_|refine zk ?_|refine zw ?_|refine zx ?_
        refine cndt ?_
        repeat first|refine zA ?_|refine zB ?_|refine zC ?_|refine zD ?_|refine zE ?_|refine zF ?_|refine xAD ?_|refine o_v (vap encS y) ?_|refine zL ?_|refine zM ?_|refine zN ?_|refine zO ?_|refine zP ?_|refine zQ ?_|refine zT ?_|refine zU ?_|refine zW ?_|refine zX ?_|refine zY ?_|refine zZ ?_|refine za ?_|refine zb ?_|refine ze ?_|refine zg ?_|refine zj ?_|refine zk ?_|refine zw ?_|refine zx ?_
        exact agn (k + 1, [] ++ [y]) ⟨by simp only; omega, by simp, hw⟩ goes
      · obtain ⟨x, hx⟩ : ∃ x, o[o.length - 1]? = some x := ⟨_, List.getElem?_eq_getElem (by omega)⟩
        have hidx : 0 + (((o.map encS).length : Int) - 1).toNat = o.length - 1 := by simp only [List.length_map]; omega
        have hx' : o[0 + (((o.map encS).length : Int) - 1).toNat]? = some x := by rw [hidx]; exact hx
        have hxe : (blkV 2 (o.map encS)).els[0 + (((o.map encS).length : Int) - 1).toNat]? = some (encS x) := by
          show (o.map encS)[_]? = _
          rw [List.getElem?_map, hx']; rfl
        have hng : decide (((o.map encS).length : Int) - 1 < 0) = false := decide_eq_false (by simp only [List.length_map]; omega)
        have hst : xBr o y = if x.hi ≠ [] ∧ Op.bytesLess x.hi y.lo = true then o ++ [y] else if xCr x.hi y.hi = true then o.set (o.length - 1) ⟨x.lo, y.hi⟩ else o := by unfold xBr; rw [hx]
        have hmp : 0 < (o.map encS).length := by simp only [List.length_map]; omega
        have hml : (o.map encS).length = o.length := List.length_map ..
        repeat first|refine zA ?_|refine zB ?_|refine zC ?_|refine zD ?_|refine zE ?_|refine zF ?_|refine xAD ?_|refine zL ?_|refine zM ?_|refine zN ?_|refine zO ?_|refine zP ?_|refine zQ ?_|refine zT ?_|refine zU ?_|refine zW ?_|refine zX ?_|refine zY ?_|refine zZ ?_|refine za ?_|refine zb ?_|refine ze ?_|refine zg ?_|refine zj ?_|refine zk ?_|refine zw ?_|refine zx ?_
        refine xBq (fun hg => ?_) (fun hg => ?_)
        · have hxh : x.hi ≠ [] := by simpa using hg
          repeat first|refine zA ?_|refine zB ?_|refine zC ?_|refine zD ?_|refine zE ?_|refine zF ?_|refine xAD ?_|refine zL ?_|refine zM ?_|refine zN ?_|refine zO ?_|refine zP ?_|refine zQ ?_|refine zT ?_|refine zU ?_|refine zW ?_|refine zX ?_|refine zY ?_|refine zZ ?_|refine za ?_|refine zb ?_|refine ze ?_|refine zg ?_|refine zj ?_|refine zk ?_|refine zw ?_|refine zx ?_
          refine cnd (fun h2 => ?_) (fun h2 => ?_)
          · rw [if_pos ⟨hxh, h2⟩] at hst
            rw [hst] at hw hlen
            repeat first|refine zA ?_|refine zB ?_|refine zC ?_|refine zD ?_|refine zE ?_|refine zF ?_|refine xAD ?_|refine o_v (vap encS y) ?_|refine zL ?_|refine zM ?_|refine zN ?_|refine zO ?_|refine zP ?_|refine zQ ?_|refine zT ?_|refine zU ?_|refine zW ?_|refine zX ?_|refine zY ?_|refine zZ ?_|refine za ?_|refine zb ?_|refine ze ?_|refine zg ?_|refine zj ?_|refine zk ?_|refine zw ?_|refine zx ?_
            exact agn (k + 1, o ++ [y]) ⟨by simp only; omega, by simp only; omega, hw⟩ goes
          · rw [if_neg (by simp [h2])] at hst
            repeat first|refine zA ?_|refine zB ?_|refine zC ?_|refine zD ?_|refine zE ?_|refine zF ?_|refine xAD ?_|refine cv0 (xH6 x.hi y.hi) ?_|refine zL ?_|refine zM ?_|refine zN ?_|refine zO ?_|refine zP ?_|refine zQ ?_|refine zT ?_|refine zU ?_|refine zW ?_|refine zX ?_|refine zY ?_|refine zZ ?_|refine za ?_|refine zb ?_|refine ze ?_|refine zg ?_|refine zj ?_|refine zk ?_|refine zw ?_|refine zx ?_
            refine cnd (fun h3 => ?_) (fun h3 => xAB ?_)
            · rw [if_pos h3, ← hidx] at hst
              rw [hst] at hw hlen
              repeat first|refine zA ?_|refine zB ?_|refine zC ?_|refine zD ?_|refine zE ?_|refine zF ?_|refine xAD ?_|refine o_v (vstf encS (⟨x.lo, y.hi⟩ : SpanL) hx') ?_|refine zL ?_|refine zM ?_|refine zN ?_|refine zO ?_|refine zP ?_|refine zQ ?_|refine zT ?_|refine zU ?_|refine zW ?_|refine zX ?_|refine zY ?_|refine zZ ?_|refine za ?_|refine zb ?_|refine ze ?_|refine zg ?_|refine zj ?_|refine zk ?_|refine zw ?_|refine zx ?_
              exact agn (k + 1, _) ⟨by simp only; omega, by simp only; omega, hw⟩ (goes (h1 := by
                refine ⟨rfl, ?_, rfl, trivial⟩
                exact congrArg (fun n => some (PV.own ⟨1, 8200⟩ n 0 n)) (by simp : (o.map encS).length = _)))
            · rw [if_neg (by simp [h3])] at hst
              rw [hst] at hw hlen
              repeat first|refine zA ?_|refine zB ?_|refine zC ?_|refine zD ?_|refine zE ?_|refine zF ?_|refine zL ?_|refine zM ?_|refine zN ?_|refine zO ?_|refine zP ?_|refine zQ ?_|refine zT ?_|refine zU ?_|refine zW ?_|refine zX ?_|refine zY ?_|refine zZ ?_|refine za ?_|refine zb ?_|refine ze ?_|refine zg ?_|refine zj ?_|refine zk ?_|refine zw ?_|refine zx ?_
              exact agn (k + 1, o) ⟨by simp only; omega, by simp only; omega, hw⟩ goes
        · have hxh : x.hi = [] := by simpa using hg
          rw [if_neg (by simp [hxh])] at hst
          have hl0 : xCr x.hi y.hi = false := by simp [xCr, hxh]
          rw [if_neg (by simp [hl0])] at hst
          rw [hst] at hw hlen
          repeat first|refine zA ?_|refine zB ?_|refine zC ?_|refine zD ?_|refine zE ?_|refine zF ?_|refine xAD ?_|refine zL ?_|refine zM ?_|refine zN ?_|refine zO ?_|refine zP ?_|refine zQ ?_|refine zT ?_|refine zU ?_|refine zW ?_|refine zX ?_|refine zY ?_|refine zZ ?_|refine za ?_|refine zb ?_|refine ze ?_|refine zg ?_|refine zj ?_|refine zk ?_|refine zw ?_|refine zx ?_
          refine cndf ?_
          repeat first|refine zA ?_|refine zB ?_|refine zC ?_|refine zD ?_|refine zE ?_|refine zF ?_|refine xAD ?_|refine cv0 (xH6 x.hi y.hi) ?_|refine zL ?_|refine zM ?_|refine zN ?_|refine zO ?_|refine zP ?_|refine zQ ?_|refine zT ?_|refine zU ?_|refine zW ?_|refine zX ?_|refine zY ?_|refine zZ ?_|refine za ?_|refine zb ?_|refine ze ?_|refine zg ?_|refine zj ?_|refine zk ?_|refine zw ?_|refine zx ?_
          refine cndf (xAB ?_)
          repeat first|refine zA ?_|refine zB ?_|refine zC ?_|refine zD ?_|refine zE ?_|refine zF ?_|refine zL ?_|refine zM ?_|refine zN ?_|refine zO ?_|refine zP ?_|refine zQ ?_|refine zT ?_|refine zU ?_|refine zW ?_|refine zX ?_|refine zY ?_|refine zZ ?_|refine za ?_|refine zb ?_|refine ze ?_|refine zg ?_|refine zj ?_|refine zk ?_|refine zw ?_|refine zx ?_
          exact agn (k + 1, o) ⟨by simp only; omega, by simp only; omega, hw⟩ goes
    · have hge : k = sl.length := by have h' := of_decide_eq_false h; simp only [List.length_map] at h'; omega
      subst hge
      rw [List.drop_length, List.foldl_nil] at hw
      repeat first|refine zA ?_|refine zB ?_|refine zC ?_|refine zD ?_|refine zE ?_|refine zF ?_|refine zL ?_|refine zM ?_|refine zN ?_|refine zO ?_|refine zP ?_|refine zQ ?_|refine zT ?_|refine zU ?_|refine zW ?_|refine zX ?_|refine zY ?_|refine zZ ?_|refine za ?_|refine zb ?_|refine ze ?_|refine zg ?_|refine zj ?_|refine zk ?_|refine zw ?_|refine zx ?_
      exact xAC ⟨.inr rfl, oOwn (congrArg (List.map encS) hw)⟩
end Go.Proofs
open Go.V Go.Pu
open Go.V renaming xA4 → zA, nl → zB, xAQ → zC, rg → zD, xAK → zE, bq → zF, xAB → zG, xAE → zH, xJc → zI, cndt → zJ, cndf → zK, xBD → zL, xBE → zM, xBs → zN, xA2 → zO, xAo → zP, xAn → zQ, xCp → zT, xEX → zU, o_mul → zV, xCo → zW, xBt → zX, xAl → za, xAm → zb, xFT → zc, xA7 → zg, xG4 → zi, xBa → zj, xBb → zk, skF → zw, skU → zx
set_option linter.unusedVariables false
set_option linter.unusedSimpArgs false
set_option maxRecDepth 20000
namespace Go.Proofs
def vc53 : VCode :=
 (.seq
 (.region 0 false [
 .e 2 (.box (.t 0)) 0,
 .e 3 (.box (.t 1)) 8,
 .e 4 (.copy (.c (.int .i64 0))) 16])
 (.seq
 (.region 1 false [
 .e 5 (.faddr 0 (.t 2)) 8192,
 .e 6 (.load false 1 (.t 5)) 8200,
 .e 7 (.faddr 0 (.t 3)) 8208,
 .e 8 (.load false 1 (.t 7)) 8216,
 .e 9 (.call (.c (.fn 54 [])) [(.t 6), (.t 8)]) 8224,
 .e 4 (.copy (.t 9)) 8232])
 .ret))
theorem vf53 : VF Tryz.prog 53 = some (10, vc53, [.tmp 4]) := by kernel_rfl
def vc78 : VCode :=
 (.seq
 (.region 0 false [
 .e 10 (.copy (.t 1)) 0,
 .e 11 (.bin .add (.t 10) (.c (.int .i64 1))) 8,
 .e 8 (.copy (.t 11)) 16])
 (.block 0
 (.loop
 (.seq
 (.seq
 (.region 1 false [
 .e 12 (.copy (.t 8)) 8192,
 .e 13 (.copy (.t 2)) 8200,
 .e 14 (.bin .lss (.t 12) (.t 13)) 8208])
 (.cond (.t 14)
 .skip
 (.exit 0)))
 (.seq
 (.block 1
 (.seq
 (.region 3 false [
 .e 17 (.copy (.t 8)) 24576,
 .e 9 (.copy (.t 17)) 24584])
 (.block 2
 (.loop
 (.seq
 (.seq
 (.region 4 true [
 .e 18 (.copy (.t 9)) 32768,
 .e 19 (.copy (.t 1)) 32776,
 .f 20 (.bin .gtr (.t 18) (.t 19)) 32784 [0, 1],
 .f 21 (.copy (.t 20)) 32792 [2, 0, 1],
 .g 22 (.copy (.t 3)) 3 21 true 32800 [3, 2, 0, 1],
 .g 23 (.copy (.t 0)) 3 21 true 32808 [3, 2, 0, 1],
 .g 24 (.copy (.t 9)) 3 21 true 32816 [3, 2, 0, 1],
 .g 25 (.iaddr 2 (.t 23) (.t 24)) 3 21 true 32824 [5, 3, 2, 0, 1, 6],
 .g 26 (.load true 2 (.t 25)) 3 21 true 32832 [7, 5, 3, 2, 0, 1, 6],
 .g 27 (.copy (.t 0)) 3 21 true 32840 [3, 2, 0, 1],
 .g 28 (.copy (.t 9)) 3 21 true 32848 [3, 2, 0, 1],
 .g 29 (.bin .sub (.t 28) (.c (.int .i64 1))) 3 21 true 32856 [10, 3, 2, 0, 1],
 .g 30 (.iaddr 2 (.t 27) (.t 29)) 3 21 true 32864 [9, 3, 2, 0, 1, 11, 10],
 .g 31 (.load true 2 (.t 30)) 3 21 true 32872 [12, 9, 3, 2, 0, 1, 11, 10],
 .g 32 (.call (.t 22) [(.t 26), (.t 31)]) 3 21 true 32880 [4, 3, 2, 0, 1, 8, 7, 5, 6, 13, 12, 9, 11, 10],
 .g 33 (.bin .lss (.t 32) (.c (.int .i64 0))) 3 21 true 32888 [14, 4, 3, 2, 0, 1, 8, 7, 5, 6, 13, 12, 9, 11, 10],
 .f 34 (.pick (.t 21) (.t 33) (.c (.bool false))) 32896 [3, 2, 0, 1, 15, 14, 4, 8, 7, 5, 6, 13, 12, 9, 11, 10]])
 (.cond (.t 34)
 .skip
 (.exit 2)))
 (.seq
 (.block 3
 (.region 6 true [
 .e 37 (.copy (.t 0)) 49152,
 .e 38 (.copy (.t 9)) 49160,
 .e 39 (.copy (.t 0)) 49168,
 .e 40 (.copy (.t 9)) 49176,
 .f 41 (.bin .sub (.t 40) (.c (.int .i64 1))) 49184 [3],
 .e 42 (.copy (.t 0)) 49192,
 .e 43 (.copy (.t 9)) 49200,
 .f 44 (.bin .sub (.t 43) (.c (.int .i64 1))) 49208 [6],
 .f 45 (.iaddr 2 (.t 42) (.t 44)) 49216 [5, 7, 6],
 .f 46 (.load true 2 (.t 45)) 49224 [8, 5, 7, 6],
 .e 47 (.copy (.t 0)) 49232,
 .e 48 (.copy (.t 9)) 49240,
 .f 49 (.iaddr 2 (.t 47) (.t 48)) 49248 [10, 11],
 .f 50 (.load true 2 (.t 49)) 49256 [12, 10, 11],
 .f 51 (.iaddr 2 (.t 37) (.t 38)) 49264 [0, 1, 5, 6, 7, 8, 9, 13, 12, 10, 11],
 .h (.store 2 (.t 51) (.t 46)) 49272 [14, 0, 1, 5, 6, 7, 8, 9, 13, 12, 10, 11],
 .f 52 (.iaddr 2 (.t 39) (.t 41)) 49280 [2, 4, 3, 0, 1, 5, 6, 7, 8, 9, 10, 11, 12, 13, 14, 15],
 .h (.store 2 (.t 52) (.t 50)) 49288 [16, 2, 4, 3, 0, 1, 5, 6, 7, 8, 9, 10, 11, 12, 13, 14, 15]]))
 (.region 5 false [
 .e 35 (.copy (.t 9)) 40960,
 .e 36 (.bin .sub (.t 35) (.c (.int .i64 1))) 40968,
 .e 9 (.copy (.t 36)) 40976])))))))
 (.region 2 false [
 .e 15 (.copy (.t 8)) 16384,
 .e 16 (.bin .add (.t 15) (.c (.int .i64 1))) 16392,
 .e 8 (.copy (.t 16)) 16400]))))))
theorem vf78 : VF Tryz.prog 78 = some (53, vc78, []) := by kernel_rfl
def vc90 : VCode :=
 (.seq
 (.region 0 false [
 .e 12 (.copy (.t 1)) 0,
 .e 10 (.copy (.t 12)) 8])
 (.block 0
 (.loop
 (.block 1
 (.seq
 (.region 1 false [
 .e 13 (.copy (.t 10)) 8192,
 .e 14 (.bin .mul (.c (.int .i64 2)) (.t 13)) 8200,
 .e 15 (.bin .add (.t 14) (.c (.int .i64 1))) 8208,
 .e 11 (.copy (.t 15)) 8216])
 (.seq
 (.seq
 (.region 2 false [
 .e 16 (.copy (.t 11)) 16384,
 .e 17 (.copy (.t 2)) 16392,
 .e 18 (.bin .geq (.t 16) (.t 17)) 16400])
 (.cond (.t 18)
 (.exit 0)
 .skip))
 (.seq
 (.seq
 (.region 3 true [
 .e 19 (.copy (.t 11)) 24576,
 .f 20 (.bin .add (.t 19) (.c (.int .i64 1))) 24584 [0],
 .e 21 (.copy (.t 2)) 24592,
 .f 22 (.bin .lss (.t 20) (.t 21)) 24600 [1, 0, 2],
 .f 23 (.copy (.t 22)) 24608 [3, 1, 0, 2],
 .g 24 (.copy (.t 4)) 4 23 true 24616 [4, 3, 1, 0, 2],
 .g 25 (.copy (.t 0)) 4 23 true 24624 [4, 3, 1, 0, 2],
 .g 26 (.copy (.t 3)) 4 23 true 24632 [4, 3, 1, 0, 2],
 .g 27 (.copy (.t 11)) 4 23 true 24640 [4, 3, 1, 0, 2],
 .g 28 (.bin .add (.t 26) (.t 27)) 4 23 true 24648 [7, 4, 3, 1, 0, 2, 8],
 .g 29 (.iaddr 2 (.t 25) (.t 28)) 4 23 true 24656 [6, 4, 3, 1, 0, 2, 9, 7, 8],
 .g 30 (.load true 2 (.t 29)) 4 23 true 24664 [10, 6, 4, 3, 1, 0, 2, 9, 7, 8],
 .g 31 (.copy (.t 0)) 4 23 true 24672 [4, 3, 1, 0, 2],
 .g 32 (.copy (.t 3)) 4 23 true 24680 [4, 3, 1, 0, 2],
 .g 33 (.copy (.t 11)) 4 23 true 24688 [4, 3, 1, 0, 2],
 .g 34 (.bin .add (.t 32) (.t 33)) 4 23 true 24696 [13, 4, 3, 1, 0, 2, 14],
 .g 35 (.bin .add (.t 34) (.c (.int .i64 1))) 4 23 true 24704 [15, 13, 4, 3, 1, 0, 2, 14],
 .g 36 (.iaddr 2 (.t 31) (.t 35)) 4 23 true 24712 [12, 4, 3, 1, 0, 2, 16, 15, 13, 14],
 .g 37 (.load true 2 (.t 36)) 4 23 true 24720 [17, 12, 4, 3, 1, 0, 2, 16, 15, 13, 14],
 .g 38 (.call (.t 24) [(.t 30), (.t 37)]) 4 23 true 24728 [5, 4, 3, 1, 0, 2, 11, 10, 6, 9, 7, 8, 18, 17, 12, 16, 15, 13, 14],
 .g 39 (.bin .lss (.t 38) (.c (.int .i64 0))) 4 23 true 24736 [19, 5, 4, 3, 1, 0, 2, 11, 10, 6, 9, 7, 8, 18, 17, 12, 16, 15, 13, 14],
 .f 40 (.pick (.t 23) (.t 39) (.c (.bool false))) 24744 [4, 3, 1, 0, 2, 20, 19, 5, 11, 10, 6, 9, 7, 8, 18, 17, 12, 16, 15, 13, 14]])
 (.cond (.t 40)
 (.region 4 false [
 .e 41 (.copy (.t 11)) 32768,
 .e 42 (.bin .add (.t 41) (.c (.int .i64 1))) 32776,
 .e 11 (.copy (.t 42)) 32784])
 .skip))
 (.seq
 (.seq
 (.region 5 true [
 .e 43 (.copy (.t 4)) 40960,
 .e 44 (.copy (.t 0)) 40968,
 .e 45 (.copy (.t 3)) 40976,
 .e 46 (.copy (.t 10)) 40984,
 .f 47 (.bin .add (.t 45) (.t 46)) 40992 [2, 3],
 .f 48 (.iaddr 2 (.t 44) (.t 47)) 41000 [1, 4, 2, 3],
 .f 49 (.load true 2 (.t 48)) 41008 [5, 1, 4, 2, 3],
 .e 50 (.copy (.t 0)) 41016,
 .e 51 (.copy (.t 3)) 41024,
 .e 52 (.copy (.t 11)) 41032,
 .f 53 (.bin .add (.t 51) (.t 52)) 41040 [8, 9],
 .f 54 (.iaddr 2 (.t 50) (.t 53)) 41048 [7, 10, 8, 9],
 .f 55 (.load true 2 (.t 54)) 41056 [11, 7, 10, 8, 9],
 .f 56 (.call (.t 43) [(.t 49), (.t 55)]) 41064 [0, 6, 5, 1, 4, 2, 3, 12, 11, 7, 10, 8, 9],
 .f 57 (.bin .lss (.t 56) (.c (.int .i64 0))) 41072 [13, 0, 6, 5, 1, 4, 2, 3, 12, 11, 7, 10, 8, 9],
 .f 58 (.not (.t 57)) 41080 [14, 13, 0, 6, 5, 1, 4, 2, 3, 12, 11, 7, 10, 8, 9]])
 (.cond (.t 58)
 .ret
 .skip))
 (.seq
 (.region 6 true [
 .e 59 (.copy (.t 0)) 49152,
 .e 60 (.copy (.t 3)) 49160,
 .e 61 (.copy (.t 10)) 49168,
 .f 62 (.bin .add (.t 60) (.t 61)) 49176 [1, 2],
 .e 63 (.copy (.t 0)) 49184,
 .e 64 (.copy (.t 3)) 49192,
 .e 65 (.copy (.t 11)) 49200,
 .f 66 (.bin .add (.t 64) (.t 65)) 49208 [5, 6],
 .e 67 (.copy (.t 0)) 49216,
 .e 68 (.copy (.t 3)) 49224,
 .e 69 (.copy (.t 11)) 49232,
 .f 70 (.bin .add (.t 68) (.t 69)) 49240 [9, 10],
 .f 71 (.iaddr 2 (.t 67) (.t 70)) 49248 [8, 11, 9, 10],
 .f 72 (.load true 2 (.t 71)) 49256 [12, 8, 11, 9, 10],
 .e 73 (.copy (.t 0)) 49264,
 .e 74 (.copy (.t 3)) 49272,
 .e 75 (.copy (.t 10)) 49280,
 .f 76 (.bin .add (.t 74) (.t 75)) 49288 [15, 16],
 .f 77 (.iaddr 2 (.t 73) (.t 76)) 49296 [14, 17, 15, 16],
 .f 78 (.load true 2 (.t 77)) 49304 [18, 14, 17, 15, 16],
 .f 79 (.iaddr 2 (.t 59) (.t 62)) 49312 [0, 3, 1, 2, 8, 9, 10, 11, 12, 13, 19, 18, 14, 17, 15, 16],
 .h (.store 2 (.t 79) (.t 72)) 49320 [20, 0, 3, 1, 2, 8, 9, 10, 11, 12, 13, 19, 18, 14, 17, 15, 16],
 .f 80 (.iaddr 2 (.t 63) (.t 66)) 49328 [4, 7, 5, 6, 0, 1, 2, 3, 8, 9, 10, 11, 12, 13, 14, 15, 16, 17, 18, 19, 20, 21],
 .h (.store 2 (.t 80) (.t 78)) 49336 [22, 4, 7, 5, 6, 0, 1, 2, 3, 8, 9, 10, 11, 12, 13, 14, 15, 16, 17, 18, 19, 20, 21]])
 (.region 7 false [
 .e 81 (.copy (.t 11)) 57344,
 .e 10 (.copy (.t 81)) 57352]))))))))))
theorem vf90 : VF Tryz.prog 90 = some (82, vc90, []) := by kernel_rfl
theorem xBR (a b : SpanL) : VC Tryz.prog 53 [.agg (encS a), .agg (encS b)] [] (.int .i64 (xDk a.lo b.lo)) [] := by
  refine xAG vf53 ?_ (Nat.le_of_ble_eq_true rfl) (by intro vs h; cases h)
  repeat' first|refine zA ?_|refine zB ?_|refine zC ?_|refine zD ?_|refine zE ?_|refine zF ?_|refine zG ?_|refine zH ?_|refine zI ?_|refine zJ ?_|refine zK ?_|refine cv0 (xPG _ _) ?_|refine zA ?_|refine zL ?_|refine zM ?_|refine zN ?_|refine zc ?_|refine xAC ⟨.inr rfl, ?_⟩|refine cnd (fun _ => ?_) (fun _ => ?_)|(refine xBq (fun _ => ?_) (fun _ => ?_) <;> first|refine cv0 (xPG _ _) ?_|refine zA ?_|refine zL ?_|refine zM ?_|refine zN ?_|refine zc ?_)
  all_goals exact oI rfl
abbrev srt (ys : Array SpanL) : List Blk := [blkV 2 (ys.toList.map encS)]
theorem xAV {zs : List SpanL} {i : Nat} {x : SpanL} {k : Nat} (h : zs[i]? = some x) (hk : k = i) : (blkV 2 (zs.map encS)).els[k]? = some (encS x) := by
  show (zs.map encS)[k]? = _
  rw [hk, List.getElem?_map, h]; rfl
set_option maxHeartbeats 1000000 in
theorem ins_vc {N n : Nat} (xs : List SpanL) (a b : Nat) (hN : xs.length = N) (ha : a ≤ n) (hb : b ≤ n) (hn : n ≤ N) (hm : N ≤ 1000000000) :
    VC Tryz.prog 78 [.own ⟨0, 0⟩ N 0 n, .int .i64 a, .int .i64 b, .fn 53 []] [blkV 2 (xs.map encS)] (.tup []) (srt (Sort.insertionSort ltS xs.toArray a b)) := by
  refine xAG vf78 ?_ (Nat.le_of_ble_eq_true rfl) (by intro vs h; cases h; simp)
  by_cases hab : a + 1 ≤ b
  case neg =>
    have hr : Sort.insertionSort ltS xs.toArray a b = xs.toArray := by unfold Sort.insertionSort; rw [Sort.insOuter, if_neg (by omega)]
    rw [hr]
    repeat first|refine zA ?_|refine zB ?_|refine zC ?_|refine zD ?_|refine zE ?_|refine zF ?_|refine zO ?_|refine zP ?_|refine zQ ?_|refine zT ?_|refine zU ?_|refine zW ?_|refine zX ?_|refine za ?_|refine zb ?_|refine zg ?_|refine zj ?_|refine zk ?_|refine zw ?_|refine zx ?_
    refine xNI 1 ?_
    repeat first|refine zA ?_|refine zB ?_|refine zC ?_|refine zD ?_|refine zE ?_|refine zF ?_|refine zO ?_|refine zP ?_|refine zQ ?_|refine zT ?_|refine zU ?_|refine zW ?_|refine zX ?_|refine za ?_|refine zb ?_|refine zg ?_|refine zj ?_|refine zk ?_|refine zw ?_|refine zx ?_
    refine cndf (xAE ?_) rfl (decide_eq_false (by omega))
    exact ⟨.inl rfl, oL1 rfl⟩
  repeat first|refine zA ?_|refine zB ?_|refine zC ?_|refine zD ?_|refine zE ?_|refine zF ?_|refine zO ?_|refine zP ?_|refine zQ ?_|refine zT ?_|refine zU ?_|refine zW ?_|refine zX ?_|refine za ?_|refine zb ?_|refine zg ?_|refine zj ?_|refine zk ?_|refine zw ?_|refine zx ?_
  refine xAJ (fun (g : Nat × List SpanL) => [(0, .own ⟨0, 0⟩ N 0 n), (1, .int .i64 a), (2, .int .i64 b), (3, .fn 53 []), (8, .int .i64 g.1)])
    (fun g => [(⟨0, 0⟩, blkV 2 (g.2.map encS))]) (fun g => b - g.1)
    (fun g => a + 1 ≤ g.1 ∧ g.1 ≤ b ∧ g.2.length = N ∧ Sort.insOuter ltS a b g.1 g.2.toArray = Sort.insertionSort ltS xs.toArray a b) (a + 1, xs) goes ⟨Nat.le_refl _, hab, hN, rfl⟩ ?_
  rintro ⟨i, ys⟩ ⟨hai, hib, hyl, hv⟩
  dsimp only at hai hib hyl hv ⊢
  rw [Sort.insOuter] at hv
  repeat first|refine zA ?_|refine zB ?_|refine zC ?_|refine zD ?_|refine zE ?_|refine zF ?_|refine zO ?_|refine zP ?_|refine zQ ?_|refine zT ?_|refine zU ?_|refine zW ?_|refine zX ?_|refine za ?_|refine zb ?_|refine zg ?_|refine zj ?_|refine zk ?_|refine zw ?_|refine zx ?_
  refine cnd (fun h => xAB ?_) (fun h => xAE ?_)
  · have hlt : i < b := by have h' := of_decide_eq_true h; omega
    rw [if_pos hlt] at hv
    repeat first|refine zA ?_|refine zB ?_|refine zC ?_|refine zD ?_|refine zE ?_|refine zF ?_|refine zO ?_|refine zP ?_|refine zQ ?_|refine zT ?_|refine zU ?_|refine zW ?_|refine zX ?_|refine za ?_|refine zb ?_|refine zg ?_|refine zj ?_|refine zk ?_|refine zw ?_|refine zx ?_
    refine xAJ (fun (g : Nat × List SpanL) => [(0, .own ⟨0, 0⟩ N 0 n), (1, .int .i64 a), (2, .int .i64 b), (3, .fn 53 []), (8, .int .i64 i), (9, .int .i64 g.1)])
      (fun g => [(⟨0, 0⟩, blkV 2 (g.2.map encS))]) (fun g => g.1)
      (fun g => g.1 ≤ i ∧ g.2.length = N ∧ Sort.insInner ltS a g.1 g.2.toArray = Sort.insInner ltS a i ys.toArray) (i, ys) goes ⟨Nat.le_refl _, hyl, rfl⟩ ?_
    rintro ⟨j, zs⟩ ⟨hji, hzl, hw⟩
    dsimp only at hji hzl hw ⊢
    repeat first|refine zA ?_|refine zB ?_|refine zC ?_|refine zD ?_|refine zE ?_|refine zF ?_|refine zO ?_|refine zP ?_|refine zQ ?_|refine zT ?_|refine zU ?_|refine zW ?_|refine zX ?_|refine za ?_|refine zb ?_|refine zg ?_|refine zj ?_|refine zk ?_|refine zw ?_|refine zx ?_
    by_cases hja : j > a
    · have hjd : decide ((j : Int) > a) = true := decide_eq_true (by omega)
      obtain ⟨m, rfl⟩ : ∃ m, j = m + 1 := ⟨j - 1, by omega⟩
      obtain ⟨x, hx⟩ : ∃ x, zs[m + 1]? = some x := ⟨_, List.getElem?_eq_getElem (by omega)⟩
      obtain ⟨y, hy⟩ : ∃ y, zs[m]? = some y := ⟨_, List.getElem?_eq_getElem (by omega)⟩
      have hx' := xAV (k := 0 + ((m + 1 : Nat) : Int).toNat) hx (by omega)
      have hy' := xAV (k := 0 + (((m + 1 : Nat) : Int) - 1).toNat) hy (by omega)
      have hk1 : 0 + ((m + 1 : Nat) : Int).toNat = m + 1 := by omega
      have hk2 : 0 + (((m + 1 : Nat) : Int) - 1).toNat = m := by omega
      rw [Sort.insInner, gb hx, gb hy] at hw
      repeat first|refine zA ?_|refine zB ?_|refine zC ?_|refine zD ?_|refine zE ?_|refine zF ?_|refine xAD ?_|refine cv0 (xBR x y) ?_|refine zO ?_|refine zP ?_|refine zQ ?_|refine zT ?_|refine zU ?_|refine zW ?_|refine zX ?_|refine za ?_|refine zb ?_|refine zg ?_|refine zj ?_|refine zk ?_|refine zw ?_|refine zx ?_
      refine cnd (fun h2 => xAB ?_) (fun h2 => xAE ?_)
      · rw [if_pos (by simp [hja]; exact h2), xBe hx hy, ← hk1, ← hk2] at hw
        rw [hk2] at hw
        repeat first|refine zA ?_|refine zB ?_|refine zC ?_|refine zD ?_|refine zE ?_|refine zF ?_|refine xAD ?_|refine o_v (vst encS y) ?_|refine o_v (vst encS x) ?_|refine zO ?_|refine zP ?_|refine zQ ?_|refine zT ?_|refine zU ?_|refine zW ?_|refine zX ?_|refine za ?_|refine zb ?_|refine zg ?_|refine zj ?_|refine zk ?_|refine zw ?_|refine zx ?_
        exact agn (m, (zs.set (0 + ((m + 1 : Nat) : Int).toNat) y).set (0 + (((m + 1 : Nat) : Int) - 1).toNat) x) ⟨by simp only; omega, by simp only [List.length_set]; omega, by rw [hk2]; exact hw⟩
          (goes (h1 := by refine ⟨rfl, rfl, rfl, rfl, rfl, congrArg (fun z => some (PV.int .i64 z)) (by omega : ((m + 1 : Nat) : Int) - 1 = m), trivial⟩))
      · rw [if_neg (by simp [h2, ltS])] at hw
        repeat first|refine zA ?_|refine zB ?_|refine zC ?_|refine zD ?_|refine zE ?_|refine zF ?_|refine zO ?_|refine zP ?_|refine zQ ?_|refine zT ?_|refine zU ?_|refine zW ?_|refine zX ?_|refine za ?_|refine zb ?_|refine zg ?_|refine zj ?_|refine zk ?_|refine zw ?_|refine zx ?_
        exact agn (i + 1, zs) ⟨by simp only; omega, by simp only; omega, hzl, by simp only; rw [hw]; exact hv⟩ goes
    · have hjd : decide ((j : Int) > a) = false := decide_eq_false (by omega)
      have hz : Sort.insInner ltS a j zs.toArray = zs.toArray := by
        cases j with
        | zero => rfl
        | succ m => rw [Sort.insInner, if_neg (by simp; intro; omega)]
      rw [hz] at hw
      repeat first|refine zA ?_|refine zB ?_|refine zC ?_|refine zD ?_|refine zE ?_|refine zF ?_|refine zO ?_|refine zP ?_|refine zQ ?_|refine zT ?_|refine zU ?_|refine zW ?_|refine zX ?_|refine za ?_|refine zb ?_|refine zg ?_|refine zj ?_|refine zk ?_|refine zw ?_|refine zx ?_
      refine cndf (xAE ?_)
      repeat first|refine zA ?_|refine zB ?_|refine zC ?_|refine zD ?_|refine zE ?_|refine zF ?_|refine zO ?_|refine zP ?_|refine zQ ?_|refine zT ?_|refine zU ?_|refine zW ?_|refine zX ?_|refine za ?_|refine zb ?_|refine zg ?_|refine zj ?_|refine zk ?_|refine zw ?_|refine zx ?_
      exact agn (i + 1, zs) ⟨by simp only; omega, by simp only; omega, hzl, by simp only; rw [hw]; exact hv⟩ goes
  · have hge : ¬ i < b := by have h' := of_decide_eq_false h; omega
    rw [if_neg hge] at hv
    refine ⟨.inl rfl, oL1 ?_⟩
    rw [← hv]
set_option maxHeartbeats 1000000 in
theorem xMH {N n : Nat} (xs : List SpanL) (lo hi first : Nat) (hN : xs.length = N) (hf : first + hi ≤ n) (hlo : lo ≤ 1000000000) (hn : n ≤ N) (hm : N ≤ 1000000000) :
    VC Tryz.prog 90 [.own ⟨0, 0⟩ N 0 n, .int .i64 lo, .int .i64 hi, .int .i64 first, .fn 53 []] [blkV 2 (xs.map encS)] (.tup []) (srt (Sort.siftDown ltS hi first lo xs.toArray)) := by
  refine xAG vf90 ?_ (Nat.le_of_ble_eq_true rfl) (by intro vs h; cases h; simp)
  repeat first|refine zA ?_|refine zB ?_|refine zC ?_|refine zD ?_|refine zE ?_|refine zF ?_|refine zO ?_|refine zP ?_|refine zQ ?_|refine zT ?_|refine zV ?_|refine zW ?_|refine zX ?_|refine za ?_|refine zb ?_|refine zg ?_|refine zi ?_|refine zj ?_|refine zk ?_|refine zw ?_|refine zx ?_
  refine xAJ (fun (g : Nat × List SpanL) => [(0, .own ⟨0, 0⟩ N 0 n), (2, .int .i64 hi), (3, .int .i64 first), (4, .fn 53 []), (10, .int .i64 g.1)])
    (fun g => [(⟨0, 0⟩, blkV 2 (g.2.map encS))]) (fun g => hi - g.1)
    (fun g => g.1 ≤ 1000000000 ∧ g.2.length = N ∧ Sort.siftDown ltS hi first g.1 g.2.toArray = Sort.siftDown ltS hi first lo xs.toArray) (lo, xs) goes ⟨hlo, hN, rfl⟩ ?_
  rintro ⟨r, ys⟩ ⟨hr, hyl, hv⟩
  dsimp only at hr hyl hv ⊢
  rw [Sort.siftDown] at hv
  repeat first|refine zA ?_|refine zB ?_|refine zC ?_|refine zD ?_|refine zE ?_|refine zF ?_|refine zO ?_|refine zP ?_|refine zQ ?_|refine zT ?_|refine zV ?_|refine zW ?_|refine zX ?_|refine za ?_|refine zb ?_|refine zg ?_|refine zi ?_|refine zj ?_|refine zk ?_|refine zw ?_|refine zx ?_
  by_cases h1 : 2 * r + 1 ≥ hi
  · rw [dif_pos h1] at hv
    refine cndt (xAE ?_) rfl (decide_eq_true (by omega))
    exact ⟨.inl rfl, oL1 (by rw [← hv])⟩
  · rw [dif_neg h1] at hv
    refine cndf (xAB ?_) rfl (decide_eq_false (by omega))
    obtain ⟨xr, hxr⟩ : ∃ x, ys[first + r]? = some x := ⟨_, List.getElem?_eq_getElem (by omega)⟩
    obtain ⟨xc, hxc⟩ : ∃ x, ys[first + (2 * r + 1)]? = some x := ⟨_, List.getElem?_eq_getElem (by omega)⟩
    have hk1 : 0 + ((first : Int) + (r : Int)).toNat = first + r := by omega
    have hk2 : 0 + ((first : Int) + (2 * (r : Int) + 1)).toNat = first + (2 * r + 1) := by omega
    have her := xAV hxr hk1
    have hec := xAV hxc hk2
    by_cases h2 : 2 * r + 1 + 1 < hi
    · have d2 : decide ((2 * (r : Int) + 1 + 1) < (hi : Int)) = true := decide_eq_true (by omega)
      obtain ⟨xd, hxd⟩ : ∃ x, ys[first + (2 * r + 1) + 1]? = some x := ⟨_, List.getElem?_eq_getElem (by omega)⟩
      have hk3 : 0 + ((first : Int) + (2 * (r : Int) + 1) + 1).toNat = first + (2 * r + 1) + 1 := by omega
      have hk4 : 0 + ((first : Int) + (2 * (r : Int) + 1 + 1)).toNat = first + (2 * r + 2) := by omega
      have hxd2 : ys[first + (2 * r + 2)]? = some xd := hxd
      have hed := xAV hxd hk3
      have hed2 := xAV hxd2 hk4
      rw [gb hxc, gb hxd, gb hxr, gb hxd2] at hv
      repeat first|refine zA ?_|refine zB ?_|refine zC ?_|refine zD ?_|refine zE ?_|refine zF ?_|refine xAD ?_|refine cv0 (xBR xc xd) ?_|refine zO ?_|refine zP ?_|refine zQ ?_|refine zT ?_|refine zV ?_|refine zW ?_|refine zX ?_|refine za ?_|refine zb ?_|refine zg ?_|refine zi ?_|refine zj ?_|refine zk ?_|refine zw ?_|refine zx ?_
      refine cnd (fun h3 => ?_) (fun h3 => xAB ?_)
      · rw [if_pos (by simp [h2]; exact h3)] at hv
        repeat first|refine zA ?_|refine zB ?_|refine zC ?_|refine zD ?_|refine zE ?_|refine zF ?_|refine xAD ?_|refine cv0 (xBR xr xd) ?_|refine zO ?_|refine zP ?_|refine zQ ?_|refine zT ?_|refine zV ?_|refine zW ?_|refine zX ?_|refine za ?_|refine zb ?_|refine zg ?_|refine zi ?_|refine zj ?_|refine zk ?_|refine zw ?_|refine zx ?_
        refine cnd (fun h4 => ?_) (fun h4 => xAB ?_)
        · rw [if_pos (by simpa [ltS] using h4)] at hv
          exact xAC ⟨.inr rfl, oL1 (by rw [← hv])⟩
        · rw [if_neg (by simpa [ltS] using h4), dif_pos (by omega), xBe hxr hxd2, ← hk1, ← hk4] at hv
          repeat first|refine zA ?_|refine zB ?_|refine zC ?_|refine zD ?_|refine zE ?_|refine zF ?_|refine xAD ?_|refine o_v (vst encS xd) ?_|refine o_v (vst encS xr) ?_|refine zO ?_|refine zP ?_|refine zQ ?_|refine zT ?_|refine zV ?_|refine zW ?_|refine zX ?_|refine za ?_|refine zb ?_|refine zg ?_|refine zi ?_|refine zj ?_|refine zk ?_|refine zw ?_|refine zx ?_
          exact agn (2 * r + 2, (ys.set (0 + ((first : Int) + (r : Int)).toNat) xd).set (0 + ((first : Int) + (2 * (r : Int) + 1 + 1)).toNat) xr) ⟨by simp only; omega, by simp only [List.length_set]; omega, hv⟩
            (goes (h1 := by refine ⟨rfl, rfl, rfl, rfl, congrArg (fun z => some (PV.int .i64 z)) (by omega : 2 * (r : Int) + 1 + 1 = ((2 * r + 2 : Nat) : Int)), trivial⟩))
      · rw [if_neg (by simp; intro; simpa [ltS] using h3)] at hv
        repeat first|refine zA ?_|refine zB ?_|refine zC ?_|refine zD ?_|refine zE ?_|refine zF ?_|refine xAD ?_|refine cv0 (xBR xr xc) ?_|refine zO ?_|refine zP ?_|refine zQ ?_|refine zT ?_|refine zV ?_|refine zW ?_|refine zX ?_|refine za ?_|refine zb ?_|refine zg ?_|refine zi ?_|refine zj ?_|refine zk ?_|refine zw ?_|refine zx ?_
        refine cnd (fun h4 => ?_) (fun h4 => xAB ?_)
        · rw [if_pos (by simpa [ltS] using h4)] at hv
          exact xAC ⟨.inr rfl, oL1 (by rw [← hv])⟩
        · rw [if_neg (by simpa [ltS] using h4), xBe hxr hxc, ← hk1, ← hk2] at hv
          repeat first|refine zA ?_|refine zB ?_|refine zC ?_|refine zD ?_|refine zE ?_|refine zF ?_|refine xAD ?_|refine o_v (vst encS xc) ?_|refine o_v (vst encS xr) ?_|refine zO ?_|refine zP ?_|refine zQ ?_|refine zT ?_|refine zV ?_|refine zW ?_|refine zX ?_|refine za ?_|refine zb ?_|refine zg ?_|refine zi ?_|refine zj ?_|refine zk ?_|refine zw ?_|refine zx ?_
          exact agn (2 * r + 1, (ys.set (0 + ((first : Int) + (r : Int)).toNat) xc).set (0 + ((first : Int) + (2 * (r : Int) + 1)).toNat) xr) ⟨by simp only; omega, by simp only [List.length_set]; omega, hv⟩
            (goes (h1 := by refine ⟨rfl, rfl, rfl, rfl, congrArg (fun z => some (PV.int .i64 z)) (by omega : 2 * (r : Int) + 1 = ((2 * r + 1 : Nat) : Int)), trivial⟩))
    · have d2 : decide ((2 * (r : Int) + 1 + 1) < (hi : Int)) = false := decide_eq_false (by omega)
      rw [if_neg (by simp [h2]), gb hxr, gb hxc] at hv
      repeat first|refine zA ?_|refine zB ?_|refine zC ?_|refine zD ?_|refine zE ?_|refine zF ?_|refine zO ?_|refine zP ?_|refine zQ ?_|refine zT ?_|refine zV ?_|refine zW ?_|refine zX ?_|refine za ?_|refine zb ?_|refine zg ?_|refine zi ?_|refine zj ?_|refine zk ?_|refine zw ?_|refine zx ?_
      refine cndf (xAB ?_)
      repeat first|refine zA ?_|refine zB ?_|refine zC ?_|refine zD ?_|refine zE ?_|refine zF ?_|refine xAD ?_|refine cv0 (xBR xr xc) ?_|refine zO ?_|refine zP ?_|refine zQ ?_|refine zT ?_|refine zV ?_|refine zW ?_|refine zX ?_|refine za ?_|refine zb ?_|refine zg ?_|refine zi ?_|refine zj ?_|refine zk ?_|refine zw ?_|refine zx ?_
      refine cnd (fun h4 => ?_) (fun h4 => xAB ?_)
      · rw [if_pos (by simpa [ltS] using h4)] at hv
        exact xAC ⟨.inr rfl, oL1 (by rw [← hv])⟩
      · rw [if_neg (by simpa [ltS] using h4), xBe hxr hxc, ← hk1, ← hk2] at hv
        repeat first|refine zA ?_|refine zB ?_|refine zC ?_|refine zD ?_|refine zE ?_|refine zF ?_|refine xAD ?_|refine o_v (vst encS xc) ?_|refine o_v (vst encS xr) ?_|refine zO ?_|refine zP ?_|refine zQ ?_|refine zT ?_|refine zV ?_|refine zW ?_|refine zX ?_|refine za ?_|refine zb ?_|refine zg ?_|refine zi ?_|refine zj ?_|refine zk ?_|refine zw ?_|refine zx ?_
        exact agn (2 * r + 1, (ys.set (0 + ((first : Int) + (r : Int)).toNat) xc).set (0 + ((first : Int) + (2 * (r : Int) + 1)).toNat) xr) ⟨by simp only; omega, by simp only [List.length_set]; omega, hv⟩
          (goes (h1 := by refine ⟨rfl, rfl, rfl, rfl, congrArg (fun z => some (PV.int .i64 z)) (by omega : 2 * (r : Int) + 1 = ((2 * r + 1 : Nat) : Int)), trivial⟩))
end Go.Proofs
open Go.V Go.Pu
open Go.V renaming xA4 → zA, nl → zB, xAQ → zC, rg → zD, xAK → zE, bq → zF, xA2 → zO, xAo → zP, xAn → zQ, xCp → zT, xEX → zU, xCo → zW, xBt → zX, xAl → za, xAm → zb, xA7 → zg
set_option linter.unusedVariables false
set_option linter.unusedSimpArgs false
set_option maxRecDepth 20000
namespace Go.Proofs
def vc79 : VCode :=
 (.seq
 (.region 0 false [
 .e 13 (.copy (.t 1)) 0,
 .e 8 (.copy (.t 13)) 8])
 (.seq
 (.region 1 false [
 .e 9 (.copy (.c (.int .i64 0))) 8192])
 (.seq
 (.region 2 false [
 .e 14 (.copy (.t 2)) 16384,
 .e 15 (.copy (.t 1)) 16392,
 .e 16 (.bin .sub (.t 14) (.t 15)) 16400,
 .e 10 (.copy (.t 16)) 16408])
 (.seq
 (.seq
 (.region 3 false [
 .e 17 (.copy (.t 10)) 24576,
 .e 18 (.bin .sub (.t 17) (.c (.int .i64 1))) 24584,
 .e 19 (.bin .quo (.t 18) (.c (.int .i64 2))) 24592,
 .e 11 (.copy (.t 19)) 24600])
 (.block 0
 (.loop
 (.seq
 (.seq
 (.region 4 false [
 .e 20 (.copy (.t 11)) 32768,
 .e 21 (.bin .geq (.t 20) (.c (.int .i64 0))) 32776])
 (.cond (.t 21)
 .skip
 (.exit 0)))
 (.seq
 (.block 1
 (.region 6 false [
 .e 24 (.copy (.t 0)) 49152,
 .e 25 (.copy (.t 11)) 49160,
 .e 26 (.copy (.t 10)) 49168,
 .e 27 (.copy (.t 8)) 49176,
 .e 28 (.copy (.t 3)) 49184,
 .e 29 (.call (.c (.fn 90 [])) [(.t 24), (.t 25), (.t 26), (.t 27), (.t 28)]) 49192]))
 (.region 5 false [
 .e 22 (.copy (.t 11)) 40960,
 .e 23 (.bin .sub (.t 22) (.c (.int .i64 1))) 40968,
 .e 11 (.copy (.t 23)) 40976]))))))
 (.seq
 (.region 7 false [
 .e 30 (.copy (.t 10)) 57344,
 .e 31 (.bin .sub (.t 30) (.c (.int .i64 1))) 57352,
 .e 12 (.copy (.t 31)) 57360])
 (.block 2
 (.loop
 (.seq
 (.seq
 (.region 8 false [
 .e 32 (.copy (.t 12)) 65536,
 .e 33 (.bin .geq (.t 32) (.c (.int .i64 0))) 65544])
 (.cond (.t 33)
 .skip
 (.exit 2)))
 (.seq
 (.block 3
 (.seq
 (.region 10 true [
 .e 36 (.copy (.t 0)) 81920,
 .e 37 (.copy (.t 8)) 81928,
 .e 38 (.copy (.t 0)) 81936,
 .e 39 (.copy (.t 8)) 81944,
 .e 40 (.copy (.t 12)) 81952,
 .f 41 (.bin .add (.t 39) (.t 40)) 81960 [3, 4],
 .e 42 (.copy (.t 0)) 81968,
 .e 43 (.copy (.t 8)) 81976,
 .e 44 (.copy (.t 12)) 81984,
 .f 45 (.bin .add (.t 43) (.t 44)) 81992 [7, 8],
 .f 46 (.iaddr 2 (.t 42) (.t 45)) 82000 [6, 9, 7, 8],
 .f 47 (.load true 2 (.t 46)) 82008 [10, 6, 9, 7, 8],
 .e 48 (.copy (.t 0)) 82016,
 .e 49 (.copy (.t 8)) 82024,
 .f 50 (.iaddr 2 (.t 48) (.t 49)) 82032 [12, 13],
 .f 51 (.load true 2 (.t 50)) 82040 [14, 12, 13],
 .f 52 (.iaddr 2 (.t 36) (.t 37)) 82048 [0, 1, 6, 7, 8, 9, 10, 11, 15, 14, 12, 13],
 .h (.store 2 (.t 52) (.t 47)) 82056 [16, 0, 1, 6, 7, 8, 9, 10, 11, 15, 14, 12, 13],
 .f 53 (.iaddr 2 (.t 38) (.t 41)) 82064 [2, 5, 3, 4, 0, 1, 6, 7, 8, 9, 10, 11, 12, 13, 14, 15, 16, 17],
 .h (.store 2 (.t 53) (.t 51)) 82072 [18, 2, 5, 3, 4, 0, 1, 6, 7, 8, 9, 10, 11, 12, 13, 14, 15, 16, 17]])
 (.region 11 false [
 .e 54 (.copy (.t 0)) 90112,
 .e 55 (.copy (.t 9)) 90120,
 .e 56 (.copy (.t 12)) 90128,
 .e 57 (.copy (.t 8)) 90136,
 .e 58 (.copy (.t 3)) 90144,
 .e 59 (.call (.c (.fn 90 [])) [(.t 54), (.t 55), (.t 56), (.t 57), (.t 58)]) 90152])))
 (.region 9 false [
 .e 34 (.copy (.t 12)) 73728,
 .e 35 (.bin .sub (.t 34) (.c (.int .i64 1))) 73736,
 .e 12 (.copy (.t 35)) 73744]))))))))))
theorem vf79 : VF Tryz.prog 79 = some (60, vc79, []) := by kernel_rfl
theorem xHw {k : IntKind} {n m : Nat} {z : Int} (hz : z = n) (hm : 0 < m) (hw : k.wrap ((n / m : Nat) : Int) = ((n / m : Nat) : Int)) : bin .quo (.int k z) (.int k (m : Nat)) = some (.int k ((n / m : Nat) : Int)) := by
  subst hz
  have h1 : ((m : Nat) : Int) ≠ 0 := by omega
  have h2 : (n : Int).tdiv (m : Int) = ((n / m : Nat) : Int) := rfl
  simp only [bin, if_true, xDn, if_neg h1, h2, hw]
set_option maxHeartbeats 1000000 in
theorem xQA {N n : Nat} (xs : List SpanL) (a b : Nat) (hN : xs.length = N) (hab : a < b) (hb : b ≤ n) (hn : n ≤ N) (hm : N ≤ 1000000000) :
    VC Tryz.prog 79 [.own ⟨0, 0⟩ N 0 n, .int .i64 a, .int .i64 b, .fn 53 []] [blkV 2 (xs.map encS)] (.tup []) (srt (Sort.heapSort ltS xs.toArray a b)) := by
  refine xAG vf79 ?_ (Nat.le_of_ble_eq_true rfl) (by intro vs h; cases h; simp)
  have hq := xHw (k := .i64) (n := b - a - 1) (m := 2) (z := (b : Int) - a - 1) (by omega) (by omega) (xCu (by omega) (by omega))
  repeat first|refine zA ?_|refine zB ?_|refine zC ?_|refine zD ?_|refine zE ?_|refine zF ?_|refine xBU hq ?_|refine zO ?_|refine zP ?_|refine zQ ?_|refine zT ?_|refine zU ?_|refine zW ?_|refine zX ?_|refine za ?_|refine zb ?_|refine zg ?_
  refine xAJ (fun (g : Nat × List SpanL) => [(0, .own ⟨0, 0⟩ N 0 n), (3, .fn 53 []), (8, .int .i64 a), (9, .int .i64 0), (10, .int .i64 ((b : Int) - a)), (11, .int .i64 ((g.1 : Int) - 1))])
    (fun g => [(⟨0, 0⟩, blkV 2 (g.2.map encS))]) (fun g => g.1)
    (fun g => g.1 ≤ b - a ∧ g.2.length = N ∧ Sort.heapBuild ltS (b - a) a g.1 g.2.toArray = Sort.heapBuild ltS (b - a) a ((b - a - 1) / 2 + 1) xs.toArray) ((b - a - 1) / 2 + 1, xs)
    (goes (h1 := by refine ⟨rfl, rfl, rfl, rfl, rfl, congrArg (fun z => some (PV.int .i64 z)) (by omega), trivial⟩)) ⟨by omega, hN, rfl⟩ ?_
  rintro ⟨k, ys⟩ ⟨hk, hyl, hv⟩
  dsimp only at hk hyl hv ⊢
  repeat first|refine zA ?_|refine zB ?_|refine zC ?_|refine zD ?_|refine zE ?_|refine zF ?_|refine zO ?_|refine zP ?_|refine zQ ?_|refine zT ?_|refine zU ?_|refine zW ?_|refine zX ?_|refine za ?_|refine zb ?_|refine zg ?_
  cases k with
  | succ k =>
    refine cndt (xAB ?_) rfl (decide_eq_true (by omega))
    rw [Sort.heapBuild] at hv
    have hs := xCI ltS (b - a) a k ys.toArray
    have hi : (((k + 1 : Nat) : Int) - 1) = (k : Nat) := by omega
    have hh : (b : Int) - a = ((b - a : Nat) : Int) := by omega
    have hc := xMH (n := n) ys k (b - a) a hyl (by omega) (by omega) hn hm
    rw [← hi, ← hh] at hc
    repeat first|refine zA ?_|refine zB ?_|refine zC ?_|refine zD ?_|refine zE ?_|refine zF ?_|refine cl (lent := [⟨0, 0⟩]) hc ?_|refine zO ?_|refine zP ?_|refine zQ ?_|refine zT ?_|refine zU ?_|refine zW ?_|refine zX ?_|refine za ?_|refine zb ?_|refine zg ?_
    exact agn (k, (Sort.siftDown ltS (b - a) a k ys.toArray).toList) ⟨by simp only; omega, by simpa using hs.trans (by simpa using hyl), by simpa using hv⟩
      (goes (h1 := by refine ⟨rfl, rfl, rfl, rfl, rfl, congrArg (fun z => some (PV.int .i64 z)) (by omega : ((k + 1 : Nat) : Int) - 1 - 1 = (k : Int) - 1), trivial⟩))
  | zero =>
    refine cndf (xAE ?_) rfl (decide_eq_false (by omega))
    rw [Sort.heapBuild] at hv
    repeat first|refine zA ?_|refine zB ?_|refine zC ?_|refine zD ?_|refine zE ?_|refine zF ?_|refine zO ?_|refine zP ?_|refine zQ ?_|refine zT ?_|refine zU ?_|refine zW ?_|refine zX ?_|refine za ?_|refine zb ?_|refine zg ?_
    refine xAJ (fun (g : Nat × List SpanL) => [(0, .own ⟨0, 0⟩ N 0 n), (3, .fn 53 []), (8, .int .i64 a), (9, .int .i64 0), (12, .int .i64 ((g.1 : Int) - 1))])
      (fun g => [(⟨0, 0⟩, blkV 2 (g.2.map encS))]) (fun g => g.1)
      (fun g => g.1 ≤ b - a ∧ g.2.length = N ∧ Sort.heapPop ltS a g.1 g.2.toArray = Sort.heapSort ltS xs.toArray a b) (b - a, ys)
      (goes (h1 := by refine ⟨rfl, rfl, rfl, rfl, congrArg (fun z => some (PV.int .i64 z)) (by omega), trivial⟩)) ⟨by omega, hyl, by unfold Sort.heapSort; rw [hv]⟩ ?_
    rintro ⟨k, zs⟩ ⟨hk, hzl, hw⟩
    dsimp only at hk hzl hw ⊢
    repeat first|refine zA ?_|refine zB ?_|refine zC ?_|refine zD ?_|refine zE ?_|refine zF ?_|refine zO ?_|refine zP ?_|refine zQ ?_|refine zT ?_|refine zU ?_|refine zW ?_|refine zX ?_|refine za ?_|refine zb ?_|refine zg ?_
    cases k with
    | succ k =>
      refine cndt (xAB ?_) rfl (decide_eq_true (by omega))
      rw [Sort.heapPop] at hw
      obtain ⟨x, hx⟩ : ∃ x, zs[a]? = some x := ⟨_, List.getElem?_eq_getElem (by omega)⟩
      obtain ⟨y, hy⟩ : ∃ y, zs[a + k]? = some y := ⟨_, List.getElem?_eq_getElem (by omega)⟩
      have hk1 : 0 + (a : Int).toNat = a := by omega
      have hk2 : 0 + ((a : Int) + (((k + 1 : Nat) : Int) - 1)).toNat = a + k := by omega
      have hx' := xAV hx hk1
      have hy' := xAV hy hk2
      rw [xBe hx hy] at hw
      have hi : (((k + 1 : Nat) : Int) - 1) = (k : Nat) := by omega
      have hzl2 : ((zs.set a y).set (a + k) x).length = N := by simp only [List.length_set]; exact hzl
      have hs := xCI ltS k a 0 ((zs.set a y).set (a + k) x).toArray
      have hc := xMH (n := n) ((zs.set a y).set (a + k) x) 0 k a hzl2 (by omega) (by omega) hn hm
      rw [← hi] at hc
      have hc' : VC Tryz.prog 90 [.own ⟨0, 0⟩ N 0 n, .int .i64 0, .int .i64 (((k + 1 : Nat) : Int) - 1), .int .i64 a, .fn 53 []] [blkV 2 (((zs.set (0 + (a : Int).toNat) y).set (0 + ((a : Int) + (((k + 1 : Nat) : Int) - 1)).toNat) x).map encS)] (.tup []) (srt (Sort.siftDown ltS k a 0 ((zs.set a y).set (a + k) x).toArray)) := by rw [hk1, hk2]; exact hc
      repeat first|refine zA ?_|refine zB ?_|refine zC ?_|refine zD ?_|refine zE ?_|refine zF ?_|refine xAD ?_|refine o_v (vst encS y) ?_|refine o_v (vst encS x) ?_|refine cl (lent := [⟨0, 0⟩]) hc' ?_|refine zO ?_|refine zP ?_|refine zQ ?_|refine zT ?_|refine zU ?_|refine zW ?_|refine zX ?_|refine za ?_|refine zb ?_|refine zg ?_
      exact agn (k, (Sort.siftDown ltS k a 0 ((zs.set a y).set (a + k) x).toArray).toList) ⟨by simp only; omega, by simpa using hs.trans (by simpa using hzl), by simpa using hw⟩
        (goes (h1 := by refine ⟨rfl, rfl, rfl, rfl, congrArg (fun z => some (PV.int .i64 z)) (by omega : ((k + 1 : Nat) : Int) - 1 - 1 = (k : Int) - 1), trivial⟩))
    | zero =>
      refine cndf (xAE ?_) rfl (decide_eq_false (by omega))
      rw [Sort.heapPop] at hw
      exact ⟨.inl rfl, oL1 (by rw [← hw])⟩
end Go.Proofs
open Go.V Go.Pu
open Go.V renaming xA4 → zA, nl → zB, xAQ → zC, rg → zD, xAK → zE, bq → zF, xBD → zL, xBE → zM, xKW → zS, xCp → zT, xCo → zW, xBt → zX, xA7 → zg, xKU → zq
set_option linter.unusedVariables false
set_option linter.unusedSimpArgs false
set_option maxRecDepth 20000
namespace Go.Proofs
def vc71 : VCode :=
 (.seq
 (.region 0 false [
 .e 2 (.copy (.c (.int .i64 0))) 0])
 (.seq
 (.cond (.c (.bool false))
 (.seq
 (.region 1 false [
 .e 3 (.copy (.t 0)) 8192,
 .e 4 (.conv .u32 (.t 3)) 8200,
 .e 5 (.call (.c (.fn 86 [])) [(.t 4)]) 8208,
 .e 2 (.copy (.t 5)) 8216])
 .ret)
 .skip)
 (.seq
 (.region 2 false [
 .e 6 (.copy (.t 0)) 16384,
 .e 7 (.call (.c (.fn 87 [])) [(.t 6)]) 16392,
 .e 2 (.copy (.t 7)) 16400])
 .ret)))
theorem vf71 : VF Tryz.prog 71 = some (8, vc71, [.tmp 2]) := by kernel_rfl
def vc87 : VCode :=
 (.seq
 (.region 0 false [
 .e 2 (.copy (.c (.int .i64 0))) 0])
 (.seq
 (.seq
 (.region 1 false [
 .e 3 (.copy (.t 0)) 8192,
 .e 4 (.bin .geq (.t 3) (.c (.int .u64 4294967296))) 8200])
 (.cond (.t 4)
 (.seq
 (.region 2 false [
 .e 5 (.copy (.t 0)) 16384,
 .e 6 (.bin .shr (.t 5) (.c (.int .u64 32))) 16392,
 .e 0 (.copy (.t 6)) 16400])
 (.region 3 false [
 .e 2 (.copy (.c (.int .i64 32))) 24576]))
 .skip))
 (.seq
 (.seq
 (.region 4 false [
 .e 7 (.copy (.t 0)) 32768,
 .e 8 (.bin .geq (.t 7) (.c (.int .u64 65536))) 32776])
 (.cond (.t 8)
 (.seq
 (.region 5 false [
 .e 9 (.copy (.t 0)) 40960,
 .e 10 (.bin .shr (.t 9) (.c (.int .u64 16))) 40968,
 .e 0 (.copy (.t 10)) 40976])
 (.region 6 false [
 .e 11 (.copy (.t 2)) 49152,
 .e 12 (.bin .add (.t 11) (.c (.int .i64 16))) 49160,
 .e 2 (.copy (.t 12)) 49168]))
 .skip))
 (.seq
 (.seq
 (.region 7 false [
 .e 13 (.copy (.t 0)) 57344,
 .e 14 (.bin .geq (.t 13) (.c (.int .u64 256))) 57352])
 (.cond (.t 14)
 (.seq
 (.region 8 false [
 .e 15 (.copy (.t 0)) 65536,
 .e 16 (.bin .shr (.t 15) (.c (.int .u64 8))) 65544,
 .e 0 (.copy (.t 16)) 65552])
 (.region 9 false [
 .e 17 (.copy (.t 2)) 73728,
 .e 18 (.bin .add (.t 17) (.c (.int .i64 8))) 73736,
 .e 2 (.copy (.t 18)) 73744]))
 .skip))
 (.seq
 (.region 10 false [
 .e 19 (.copy (.t 2)) 81920,
 .e 20 (.copy (.t 0)) 81928,
 .e 21 (.conv .u8 (.t 20)) 81936,
 .e 22 (.indexS (.c (.str [0, 1, 2, 2, 3, 3, 3, 3, 4, 4, 4, 4, 4, 4, 4, 4, 5, 5, 5, 5, 5, 5, 5, 5, 5, 5, 5, 5, 5, 5, 5, 5, 6, 6, 6, 6, 6, 6, 6, 6, 6, 6, 6, 6, 6, 6, 6, 6, 6, 6, 6, 6, 6, 6, 6, 6, 6, 6, 6, 6, 6, 6, 6, 6, 7, 7, 7, 7, 7, 7, 7, 7, 7, 7, 7, 7, 7, 7, 7, 7, 7, 7, 7, 7, 7, 7, 7, 7, 7, 7, 7, 7, 7, 7, 7, 7, 7, 7, 7, 7, 7, 7, 7, 7, 7, 7, 7, 7, 7, 7, 7, 7, 7, 7, 7, 7, 7, 7, 7, 7, 7, 7, 7, 7, 7, 7, 7, 7, 8, 8, 8, 8, 8, 8, 8, 8, 8, 8, 8, 8, 8, 8, 8, 8, 8, 8, 8, 8, 8, 8, 8, 8, 8, 8, 8, 8, 8, 8, 8, 8, 8, 8, 8, 8, 8, 8, 8, 8, 8, 8, 8, 8, 8, 8, 8, 8, 8, 8, 8, 8, 8, 8, 8, 8, 8, 8, 8, 8, 8, 8, 8, 8, 8, 8, 8, 8, 8, 8, 8, 8, 8, 8, 8, 8, 8, 8, 8, 8, 8, 8, 8, 8, 8, 8, 8, 8, 8, 8, 8, 8, 8, 8, 8, 8, 8, 8, 8, 8, 8, 8, 8, 8, 8, 8, 8, 8, 8, 8, 8, 8, 8, 8, 8, 8, 8, 8, 8, 8, 8, 8, 8, 8, 8, 8, 8, 8])) (.t 21)) 81944,
 .e 23 (.conv .i64 (.t 22)) 81952,
 .e 24 (.bin .add (.t 19) (.t 23)) 81960,
 .e 2 (.copy (.t 24)) 81968])
 .ret)))))
theorem vf87 : VF Tryz.prog 87 = some (25, vc87, [.tmp 2]) := by kernel_rfl
def vc91 : VCode :=
 (.seq
 (.region 0 false [
 .e 2 (.copy (.c (.int .u64 0))) 0])
 (.seq
 (.region 1 false [
 .e 3 (.copy (.t 0)) 8192,
 .e 4 (.conv .u64 (.t 3)) 8200,
 .e 5 (.call (.c (.fn 71 [])) [(.t 4)]) 8208,
 .e 6 (.bin .shl (.c (.int .u64 1)) (.t 5)) 8216,
 .e 2 (.copy (.t 6)) 8224])
 .ret))
theorem vf91 : VF Tryz.prog 91 = some (7, vc91, [.tmp 2]) := by kernel_rfl
def vc92 : VCode :=
 (.seq
 (.region 0 false [
 .e 2 (.copy (.c (.int .u64 0))) 0])
 (.seq
 (.region 1 true [
 .e 3 (.copy (.t 0)) 8192,
 .f 4 (.nilc (.t 3)) 8200 [0],
 .f 5 (.load false 1 (.t 4)) 8208 [1, 0],
 .e 6 (.copy (.t 0)) 8216,
 .f 7 (.nilc (.t 6)) 8224 [3],
 .f 8 (.load false 1 (.t 7)) 8232 [4, 3],
 .f 9 (.bin .shl (.t 8) (.c (.int .u64 13))) 8240 [5, 4, 3],
 .f 10 (.bin .xor (.t 5) (.t 9)) 8248 [2, 1, 0, 6, 5, 4, 3],
 .f 11 (.nilc (.t 3)) 8256 [0, 1, 2, 3, 4, 5, 6, 7],
 .h (.store 1 (.t 11) (.t 10)) 8264 [8, 0, 1, 2, 3, 4, 5, 6, 7]])
 (.seq
 (.region 2 true [
 .e 12 (.copy (.t 0)) 16384,
 .f 13 (.nilc (.t 12)) 16392 [0],
 .f 14 (.load false 1 (.t 13)) 16400 [1, 0],
 .e 15 (.copy (.t 0)) 16408,
 .f 16 (.nilc (.t 15)) 16416 [3],
 .f 17 (.load false 1 (.t 16)) 16424 [4, 3],
 .f 18 (.bin .shr (.t 17) (.c (.int .u64 7))) 16432 [5, 4, 3],
 .f 19 (.bin .xor (.t 14) (.t 18)) 16440 [2, 1, 0, 6, 5, 4, 3],
 .f 20 (.nilc (.t 12)) 16448 [0, 1, 2, 3, 4, 5, 6, 7],
 .h (.store 1 (.t 20) (.t 19)) 16456 [8, 0, 1, 2, 3, 4, 5, 6, 7]])
 (.seq
 (.region 3 true [
 .e 21 (.copy (.t 0)) 24576,
 .f 22 (.nilc (.t 21)) 24584 [0],
 .f 23 (.load false 1 (.t 22)) 24592 [1, 0],
 .e 24 (.copy (.t 0)) 24600,
 .f 25 (.nilc (.t 24)) 24608 [3],
 .f 26 (.load false 1 (.t 25)) 24616 [4, 3],
 .f 27 (.bin .shl (.t 26) (.c (.int .u64 17))) 24624 [5, 4, 3],
 .f 28 (.bin .xor (.t 23) (.t 27)) 24632 [2, 1, 0, 6, 5, 4, 3],
 .f 29 (.nilc (.t 21)) 24640 [0, 1, 2, 3, 4, 5, 6, 7],
 .h (.store 1 (.t 29) (.t 28)) 24648 [8, 0, 1, 2, 3, 4, 5, 6, 7]])
 (.seq
 (.region 4 false [
 .e 30 (.copy (.t 0)) 32768,
 .e 31 (.nilc (.t 30)) 32776,
 .e 32 (.load false 1 (.t 31)) 32784,
 .e 2 (.copy (.t 32)) 32792])
 .ret)))))
theorem vf92 : VF Tryz.prog 92 = some (33, vc92, [.tmp 2]) := by kernel_rfl
abbrev tab8 : List UInt8 := [0, 1, 2, 2, 3, 3, 3, 3, 4, 4, 4, 4, 4, 4, 4, 4, 5, 5, 5, 5, 5, 5, 5, 5, 5, 5, 5, 5, 5, 5, 5, 5, 6, 6, 6, 6, 6, 6, 6, 6, 6, 6, 6, 6, 6, 6, 6, 6, 6, 6, 6, 6, 6, 6, 6, 6, 6, 6, 6, 6, 6, 6, 6, 6, 7, 7, 7, 7, 7, 7, 7, 7, 7, 7, 7, 7, 7, 7, 7, 7, 7, 7, 7, 7, 7, 7, 7, 7, 7, 7, 7, 7, 7, 7, 7, 7, 7, 7, 7, 7, 7, 7, 7, 7, 7, 7, 7, 7, 7, 7, 7, 7, 7, 7, 7, 7, 7, 7, 7, 7, 7, 7, 7, 7, 7, 7, 7, 7, 8, 8, 8, 8, 8, 8, 8, 8, 8, 8, 8, 8, 8, 8, 8, 8, 8, 8, 8, 8, 8, 8, 8, 8, 8, 8, 8, 8, 8, 8, 8, 8, 8, 8, 8, 8, 8, 8, 8, 8, 8, 8, 8, 8, 8, 8, 8, 8, 8, 8, 8, 8, 8, 8, 8, 8, 8, 8, 8, 8, 8, 8, 8, 8, 8, 8, 8, 8, 8, 8, 8, 8, 8, 8, 8, 8, 8, 8, 8, 8, 8, 8, 8, 8, 8, 8, 8, 8, 8, 8, 8, 8, 8, 8, 8, 8, 8, 8, 8, 8, 8, 8, 8, 8, 8, 8, 8, 8, 8, 8, 8, 8, 8, 8, 8, 8, 8, 8, 8, 8, 8, 8, 8, 8, 8, 8, 8, 8]
def tabOk (n : Nat) : Bool := match tab8[n]? with | some c => c.toNat == Sort.bitsLen n | none => false
theorem xPX : (List.range 256).all tabOk = true := by decide +kernel
theorem xLy {n : Nat} (h : n < 256) : ∃ c : UInt8, tab8[n]? = some c ∧ c.toNat = Sort.bitsLen n := by
  have := List.all_eq_true.1 xPX n (List.mem_range.2 h)
  unfold tabOk at this
  cases hc : tab8[n]? with
  | none => rw [hc] at this; cases this
  | some c => rw [hc] at this; exact ⟨c, rfl, by simpa using this⟩
theorem xLl {n : Nat} (h : 256 ≤ n) : Sort.bitsLen n = 8 + Sort.bitsLen (n / 256) := by
  unfold Sort.bitsLen
  have h1 : n ≠ 0 := by omega
  have h2 : n / 256 ≠ 0 := by omega
  rw [if_neg h1, if_neg h2]
  have h3 := (Nat.log2_eq_iff h2 (k := (n / 256).log2)).1 rfl
  have h4 : n.log2 = (n / 256).log2 + 8 := by
    refine (Nat.log2_eq_iff h1).2 ⟨?_, ?_⟩
    · rw [Nat.pow_add]; omega
    · rw [Nat.pow_succ] at h3
      rw [Nat.pow_succ, Nat.pow_add]; omega
  omega
theorem xNX {n : Nat} (h : n < 65536) : Sort.bitsLen n ≤ 16 := by
  unfold Sort.bitsLen
  split
  · omega
  · rename_i h0
    have : n.log2 < 16 := (Nat.log2_lt h0).2 (by simpa using h)
    omega
theorem xPj {n : Nat} : bin .shr (.int .u64 (n : Nat)) (.int .u64 8) = some (.int .u64 ((n / 256 : Nat) : Int)) := by
  show (if (8 : Int) < 0 then none else some (PV.int .u64 ((n : Int).fdiv (2 ^ (Int.toNat 8))))) = _
  rw [if_neg (by decide), Int.fdiv_eq_ediv_of_nonneg _ (by decide)]
  rfl
theorem xOS {n : Nat} (hn : n < 65536) : VC Tryz.prog 87 [.int .u64 n] [] (.int .i64 (Sort.bitsLen n)) [] := by
  refine xAG vf87 ?_ (Nat.le_of_ble_eq_true rfl) (by intro vs h; cases h)
  by_cases h : n < 256
  · obtain ⟨c, hc, hcl⟩ := xLy h
    have hc' : tab8[(n : Int).toNat]? = some c := hc
    have hcu : IntKind.u8.wrap (n : Int) = n := by unfold IntKind.wrap; simp [IntKind.bits, IntKind.signed]; omega
    have hci : IntKind.i64.wrap (c.toNat : Int) = c.toNat := xCu (by omega) (by have := c.toNat_lt; omega)
    have hcb : c.toNat < 256 := c.toNat_lt
    repeat first|refine zA ?_|refine zB ?_|refine zC ?_|refine zD ?_|refine zE ?_|refine zF ?_|refine zS ?_|refine zT ?_|refine zW ?_|refine zX ?_
    refine cndf (xAB ?_) rfl (decide_eq_false (by omega))
    repeat first|refine zA ?_|refine zB ?_|refine zC ?_|refine zD ?_|refine zE ?_|refine zF ?_|refine zS ?_|refine zT ?_|refine zW ?_|refine zX ?_
    refine cndf (xAB ?_) rfl (decide_eq_false (by omega))
    repeat first|refine zA ?_|refine zB ?_|refine zC ?_|refine zD ?_|refine zE ?_|refine zF ?_|refine zS ?_|refine zT ?_|refine zW ?_|refine zX ?_
    refine cndf (xAB ?_) rfl (decide_eq_false (by omega))
    repeat first|refine zA ?_|refine zB ?_|refine zC ?_|refine zD ?_|refine zE ?_|refine zF ?_|refine xCE ?_|refine zS ?_|refine zT ?_|refine zW ?_|refine zX ?_
    refine xAC ⟨.inr rfl, oI ?_⟩
    rw [hcl]; omega
  · obtain ⟨c, hc, hcl⟩ := xLy (n := n / 256) (by omega)
    have hc' : tab8[((n / 256 : Nat) : Int).toNat]? = some c := hc
    have hcu : IntKind.u8.wrap ((n / 256 : Nat) : Int) = ((n / 256 : Nat) : Int) := by unfold IntKind.wrap; simp [IntKind.bits, IntKind.signed]; omega
    have hci : IntKind.i64.wrap (c.toNat : Int) = c.toNat := xCu (by omega) (by have := c.toNat_lt; omega)
    have hcb : c.toNat < 256 := c.toNat_lt
    have hb := xLl (n := n) (by omega)
    repeat first|refine zA ?_|refine zB ?_|refine zC ?_|refine zD ?_|refine zE ?_|refine zF ?_|refine zS ?_|refine zT ?_|refine zW ?_|refine zX ?_
    refine cndf (xAB ?_) rfl (decide_eq_false (by omega))
    repeat first|refine zA ?_|refine zB ?_|refine zC ?_|refine zD ?_|refine zE ?_|refine zF ?_|refine zS ?_|refine zT ?_|refine zW ?_|refine zX ?_
    refine cndf (xAB ?_) rfl (decide_eq_false (by omega))
    repeat first|refine zA ?_|refine zB ?_|refine zC ?_|refine zD ?_|refine zE ?_|refine zF ?_|refine zS ?_|refine zT ?_|refine zW ?_|refine zX ?_
    refine cndt ?_ rfl (decide_eq_true (by omega))
    repeat first|refine zA ?_|refine zB ?_|refine zC ?_|refine zD ?_|refine zE ?_|refine zF ?_|refine xBU xPj ?_|refine xCE ?_|refine zS ?_|refine zT ?_|refine zW ?_|refine zX ?_
    refine xAC ⟨.inr rfl, oI ?_⟩
    rw [hcl, hb]; omega
theorem xO9 {n : Nat} (hn : n < 65536) : VC Tryz.prog 71 [.int .u64 n] [] (.int .i64 (Sort.bitsLen n)) [] := by
  refine xAG vf71 ?_ (Nat.le_of_ble_eq_true rfl) (by intro vs h; cases h)
  repeat first|refine zA ?_|refine zB ?_|refine zC ?_|refine zD ?_|refine zE ?_|refine zF ?_|
  refine cndf (xAB ?_) rfl rfl
  repeat first|refine zA ?_|refine zB ?_|refine zC ?_|refine zD ?_|refine zE ?_|refine zF ?_|refine cv0 (xOS hn) ?_|
  exact xAC ⟨.inr rfl, oI rfl⟩
theorem xPk {k : Nat} (hk : k ≤ 16) : bin .shl (.int .u64 1) (.int .i64 k) = some (.int .u64 ((1 <<< k : Nat) : Int)) := by
  show (if (k : Int) < 0 then none else some (PV.int .u64 (IntKind.u64.wrap (1 * 2 ^ (min (Int.toNat k) 64))))) = _
  rw [if_neg (by omega)]
  have h1 : min (Int.toNat k) 64 = k := by omega
  have h2 : 2 ^ k ≤ 2 ^ 16 := Nat.pow_le_pow_right (by decide) hk
  rw [h1, Nat.one_shiftLeft]
  have h3 : (1 : Int) * 2 ^ k = ((2 ^ k : Nat) : Int) := by simp
  rw [h3]
  have : IntKind.u64.wrap ((2 ^ k : Nat) : Int) = ((2 ^ k : Nat) : Int) := by
    unfold IntKind.wrap
    have h4 : 2 ^ k < 2 ^ 64 := by omega
    generalize 2 ^ k = x at h4
    simp [IntKind.bits, IntKind.signed]
    omega
  rw [this]
theorem xPv {n : Nat} (hn : n < 65536) : VC Tryz.prog 91 [.int .i64 n] [] (.int .u64 ((1 <<< Sort.bitsLen n : Nat) : Int)) [] := by
  refine xAG vf91 ?_ (Nat.le_of_ble_eq_true rfl) (by intro vs h; cases h)
  have hcu : IntKind.u64.wrap (n : Int) = n := by unfold IntKind.wrap; simp [IntKind.bits, IntKind.signed]; omega
  have hs := xPk (xNX hn)
  repeat first|refine zA ?_|refine zB ?_|refine zC ?_|refine zD ?_|refine zE ?_|refine zF ?_|refine xCE ?_|refine cv0 (xO9 hn) ?_|refine xBU hs ?_|refine zX ?_
  exact xAC ⟨.inr rfl, oI rfl⟩
theorem xMd (r : UInt64) : BitVec.ofInt 64 (r.toNat : Int) = r.toBitVec := by
  apply BitVec.eq_of_toNat_eq
  rw [BitVec.toNat_ofInt]
  have := r.toNat_lt
  have h : (r.toNat : Int) % ((2 ^ 64 : Nat) : Int) = (r.toNat : Int) := Int.emod_eq_of_lt (by omega) (by omega)
  rw [h]; rfl
theorem xFj {n : Nat} (h : n < 18446744073709551616) : IntKind.u64.wrap (n : Int) = n := by
  unfold IntKind.wrap; simp [IntKind.bits, IntKind.signed]; omega
theorem xJQ (r s : UInt64) : bin .xor (.int .u64 r.toNat) (.int .u64 s.toNat) = some (.int .u64 (r ^^^ s).toNat) := by
  show some (PV.int .u64 (IntKind.u64.wrap (BitVec.ofInt 64 r.toNat ^^^ BitVec.ofInt 64 s.toNat).toNat)) = _
  rw [xMd, xMd, xFj (BitVec.isLt _)]
  rfl
theorem xMI (r : UInt64) (k : UInt64) (hk : k.toNat < 64) : bin .shl (.int .u64 r.toNat) (.int .u64 k.toNat) = some (.int .u64 (r <<< k).toNat) := by
  show (if ((k.toNat : Nat) : Int) < 0 then none else some (PV.int .u64 (IntKind.u64.wrap ((r.toNat : Int) * 2 ^ (min (Int.toNat k.toNat) 64))))) = _
  rw [if_neg (by omega)]
  have h1 : min (Int.toNat k.toNat) 64 = k.toNat := by omega
  have h2 : (r.toNat : Int) * 2 ^ k.toNat = ((r.toNat * 2 ^ k.toNat : Nat) : Int) := by simp
  rw [h1, h2]
  have h3 : IntKind.u64.wrap ((r.toNat * 2 ^ k.toNat : Nat) : Int) = ((r <<< k).toNat : Int) := by
    rw [UInt64.toNat_shiftLeft, Nat.mod_eq_of_lt hk, Nat.shiftLeft_eq]
    unfold IntKind.wrap; simp [IntKind.bits, IntKind.signed]
  rw [h3]
theorem xPi (r : UInt64) (k : UInt64) (hk : k.toNat < 64) : bin .shr (.int .u64 r.toNat) (.int .u64 k.toNat) = some (.int .u64 (r >>> k).toNat) := by
  show (if ((k.toNat : Nat) : Int) < 0 then none else some (PV.int .u64 ((r.toNat : Int).fdiv (2 ^ (min (Int.toNat k.toNat) 64))))) = _
  rw [if_neg (by omega)]
  have h1 : min (Int.toNat k.toNat) 64 = k.toNat := by omega
  rw [h1]
  have h3 : (r.toNat : Int).fdiv (2 ^ k.toNat) = ((r >>> k).toNat : Int) := by
    rw [UInt64.toNat_shiftRight, Nat.mod_eq_of_lt hk, Nat.shiftRight_eq_div_pow, Int.fdiv_eq_ediv_of_nonneg _ (Int.pow_nonneg (by decide))]
    simp
  rw [h3]
theorem xPx (r : UInt64) : VC Tryz.prog 92 [.ptr ⟨0, 0⟩ 1 0 0] [⟨true, false, 1, [[.int .u64 r.toNat]]⟩] (.int .u64 (Sort.xorNext r).toNat) [⟨true, false, 1, [[.int .u64 (Sort.xorNext r).toNat]]⟩] := by
  refine xAG vf92 ?_ (Nat.le_of_ble_eq_true rfl) (by intro vs h; cases h)
  have a1 := xMI r 13 (by decide)
  have a2 := xJQ r (r <<< 13)
  have a3 := xPi (r ^^^ (r <<< 13)) 7 (by decide)
  have a4 := xJQ (r ^^^ (r <<< 13)) ((r ^^^ (r <<< 13)) >>> 7)
  have a5 := xMI ((r ^^^ (r <<< 13)) ^^^ ((r ^^^ (r <<< 13)) >>> 7)) 17 (by decide)
  have a6 := xJQ ((r ^^^ (r <<< 13)) ^^^ ((r ^^^ (r <<< 13)) >>> 7)) (((r ^^^ (r <<< 13)) ^^^ ((r ^^^ (r <<< 13)) >>> 7)) <<< 17)
  repeat first|refine zA ?_|refine zB ?_|refine zC ?_|refine zD ?_|refine zE ?_|refine zF ?_|refine xBU a1 ?_|refine xBU a2 ?_|refine xBU a3 ?_|refine xBU a4 ?_|refine xBU a5 ?_|refine xBU a6 ?_|refine zL ?_|refine zM ?_|refine zX ?_|refine zg ?_|refine zq ?_
  exact xAC ⟨.inr rfl, oX1 rfl⟩
end Go.Proofs
