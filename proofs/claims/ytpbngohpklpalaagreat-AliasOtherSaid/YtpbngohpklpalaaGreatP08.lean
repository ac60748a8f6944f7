/- A part of the proof: an abstract machine for the program's code and what each of its functions comes to there. No conditions. -/
import Derived.Test.YtpbngohpklpalaaGreatP07
import Derived.Test.YtpbngohpklpalaaGreatChecked
import Derived.KernelRfl
import Derived.RangeFuncGives
import Derived.RangeFuncLeaves
import Derived.WalkKit
import Derived.OwnWalkIn
import Derived.TacticsInMore
import Derived.RegionIn
import Derived.RangeFuncBox
import Derived.LoopNIn
import Derived.LoopIn
import Derived.Maps.AppendAt
import Derived.Shelf.Abstract

set_option linter.unusedSimpArgs false
set_option linter.unusedVariables false

/- Compact code of the program's functions, each checked against the program's form: printed by mkcode.py. -/
namespace Go.Proofs.YtpbngohpklpalaaGreat
open Go.LS
@[simp] def r245_0 : List AOp :=
 [.m 11 2,
 .m 12 1,
 .p 13 (.bin .sub (.t 11) (.t 12)),
 .m 6 13]
@[simp] def r245_1 : List AOp :=
 [.m 14 6,
 .p 15 (.bin .geq (.t 14) (.i 8))]
@[simp] def r245_2 : List AOp :=
 [.m 16 6,
 .p 17 (.conv .u64 (.t 16)),
 .p 7 (.alloc true [.int .u64 0]),
 .n (.store 1 (.t 7) (.t 17))]
@[simp] def r245_3 : List AOp :=
 [.m 18 6,
 .p 19 (.call 255 [.t 18]),
 .m 8 19]
@[simp] def r245_4 : List AOp :=
 [.m 20 1,
 .m 21 6,
 .p 22 (.bin .quo (.t 21) (.i 4)),
 .p 23 (.bin .mul (.t 22) (.i 2)),
 .p 24 (.bin .add (.t 20) (.t 23)),
 .p 25 (.bin .sub (.t 24) (.i 1)),
 .m 9 25]
@[simp] def r245_5 : List AOp :=
 [.m 26 9,
 .m 27 1,
 .m 28 6,
 .p 29 (.bin .quo (.t 28) (.i 4)),
 .p 30 (.bin .mul (.t 29) (.i 2)),
 .p 31 (.bin .add (.t 27) (.t 30)),
 .p 32 (.bin .add (.t 31) (.i 1)),
 .p 33 (.bin .leq (.t 26) (.t 32))]
@[simp] def r245_7 : List AOp :=
 [.p 36 (.call 256 [.t 7]),
 .m 37 8,
 .p 38 (.bin .sub (.t 37) (.u 1)),
 .p 39 (.bin .and (.t 36) (.t 38)),
 .p 40 (.conv .i64 (.t 39)),
 .m 10 40]
@[simp] def r245_8 : List AOp :=
 [.m 41 10,
 .m 42 6,
 .p 43 (.bin .geq (.t 41) (.t 42))]
@[simp] def r245_9 : List AOp :=
 [.m 44 10,
 .m 45 6,
 .p 46 (.bin .sub (.t 44) (.t 45)),
 .m 10 46]
@[simp] def r245_10 : List AOp :=
 [.m 47 0,
 .m 48 9,
 .m 49 0,
 .m 50 1,
 .m 51 10,
 .p 52 (.bin .add (.t 50) (.t 51)),
 .m 53 0,
 .m 54 1,
 .m 55 10,
 .p 56 (.bin .add (.t 54) (.t 55)),
 .l 57 (.idxS 1 (.t 53) (.t 56)) 53 .lst,
 .l 58 (.load false 1 (.t 57)) 57 .imm,
 .m 59 0,
 .m 60 9,
 .l 61 (.idxS 1 (.t 59) (.t 60)) 59 .lst,
 .l 62 (.load false 1 (.t 61)) 61 .imm,
 .l 63 (.idxS 1 (.t 47) (.t 48)) 47 .lst,
 .n (.store 1 (.t 63) (.t 58)),
 .l 64 (.idxS 1 (.t 49) (.t 52)) 49 .lst,
 .n (.store 1 (.t 64) (.t 62))]
def p245_10 : List (List Nat) := [[], [], [], [], [], [3, 4], [], [], [], [7, 8], [6, 9], [10], [], [], [12, 13], [14], [0, 1, 0, 1, 6, 7, 8, 9, 10, 11, 15], [16, 11, 0, 1, 6, 7, 8, 9, 10, 11, 15], [2, 5, 0, 1, 2, 3, 4, 5, 6, 7, 8, 9, 10, 11, 12, 13, 14, 15, 16, 17], [18, 15, 17, 0, 1, 2, 3, 4, 5, 6, 7, 8, 9, 10, 11, 12, 13, 14, 15, 16, 17]]
@[simp] def r245_6 : List AOp :=
 [.m 34 9,
 .p 35 (.bin .add (.t 34) (.i 1)),
 .m 9 35]
def l245_0 : AC :=
 .seq (.seq (.ops r245_5)
   (.cond (.t 33) (.skip) (.exit 0)))
 (.seq (.block 1 (.seq (.ops r245_7)
    (.seq (.seq (.ops r245_8)
     (.cond (.t 43) (.ops r245_9) (.skip)))
   (.tops r245_10
      p245_10))))
   (.ops r245_6))
def c245 : AC :=
 .seq (.ops r245_0)
 (.seq (.ops r245_1)
   (.cond (.t 15) (.seq (.ops r245_2)
    (.seq (.ops r245_3)
   (.seq (.ops r245_4)
     (.block 0 (.loop l245_0))))) (.skip)))
def a245 : AFn := { res := [], body := c245, keepA := false, keepR := false, pure := false }
theorem k245 : chkFn Tryz.prog Tryz.f245 a245 = true := by kernel_rfl
@[simp] def r246_0 : List AOp :=
 [.p 6 (.mov (.i 0)),
 .p 7 (.mov (.i 0))]
@[simp] def r246_1 : List AOp :=
 [.m 13 2,
 .m 14 1,
 .p 15 (.bin .sub (.t 13) (.t 14)),
 .m 8 15]
@[simp] def r246_2 : List AOp :=
 [.p 9 (.alloc true [.int .i64 0])]
@[simp] def r246_3 : List AOp :=
 [.m 16 1,
 .m 17 8,
 .p 18 (.bin .quo (.t 17) (.i 4)),
 .p 19 (.bin .mul (.t 18) (.i 1)),
 .p 20 (.bin .add (.t 16) (.t 19)),
 .m 10 20]
@[simp] def r246_4 : List AOp :=
 [.m 21 1,
 .m 22 8,
 .p 23 (.bin .quo (.t 22) (.i 4)),
 .p 24 (.bin .mul (.t 23) (.i 2)),
 .p 25 (.bin .add (.t 21) (.t 24)),
 .m 11 25]
@[simp] def r246_5 : List AOp :=
 [.m 26 1,
 .m 27 8,
 .p 28 (.bin .quo (.t 27) (.i 4)),
 .p 29 (.bin .mul (.t 28) (.i 3)),
 .p 30 (.bin .add (.t 26) (.t 29)),
 .m 12 30]
@[simp] def r246_6 : List AOp :=
 [.m 31 8,
 .p 32 (.bin .geq (.t 31) (.i 8))]
@[simp] def r246_7 : List AOp :=
 [.m 33 8,
 .p 34 (.bin .geq (.t 33) (.i 50))]
@[simp] def r246_8 : List AOp :=
 [.m 35 0,
 .m 36 10,
 .p 37 (.call 257 [.t 35, .t 36, .t 9]),
 .m 10 37]
@[simp] def r246_9 : List AOp :=
 [.m 38 0,
 .m 39 11,
 .p 40 (.call 257 [.t 38, .t 39, .t 9]),
 .m 11 40]
@[simp] def r246_10 : List AOp :=
 [.m 41 0,
 .m 42 12,
 .p 43 (.call 257 [.t 41, .t 42, .t 9]),
 .m 12 43]
@[simp] def r246_11 : List AOp :=
 [.m 44 0,
 .m 45 10,
 .m 46 11,
 .m 47 12,
 .p 48 (.call 258 [.t 44, .t 45, .t 46, .t 47, .t 9]),
 .m 11 48]
@[simp] def r246_12 : List AOp :=
 [.p 49 (.load false 1 (.t 9))]
@[simp] def r246_14 : List AOp :=
 [.p 52 (.bin .eql (.t 49) (.i 0)),
 .m 51 52]
@[simp] def r246_15 : List AOp :=
 [.m 53 11,
 .m 6 53,
 .p 7 (.mov (.i 1))]
@[simp] def r246_16 : List AOp :=
 [.p 55 (.bin .eql (.t 49) (.i 12)),
 .m 54 55]
@[simp] def r246_17 : List AOp :=
 [.m 56 11,
 .m 6 56,
 .p 7 (.mov (.i 2))]
@[simp] def r246_13 : List AOp :=
 [.m 50 11,
 .m 6 50,
 .p 7 (.mov (.i 0))]
def c246 : AC :=
 .seq (.ops r246_0)
 (.seq (.ops r246_1)
   (.seq (.ops r246_2)
  (.seq (.ops r246_3)
    (.seq (.ops r246_4)
   (.seq (.ops r246_5)
     (.seq (.seq (.ops r246_6)
      (.cond (.t 32) (.seq (.seq (.ops r246_7)
      (.cond (.t 34) (.seq (.ops r246_8)
       (.seq (.ops r246_9)
         (.ops r246_10))) (.skip)))
       (.ops r246_11)) (.skip)))
    (.seq (.ops r246_12)
      (.block 0 (.seq (.ops r246_14)
       (.cond (.t 51) (.seq (.ops r246_15)
        (.ret)) (.seq (.ops r246_16)
        (.cond (.t 54) (.seq (.ops r246_17)
         (.ret)) (.seq (.ops r246_13)
         (.ret))))))))))))))
def a246 : AFn := { res := [.tmp 6, .tmp 7], body := c246, keepA := false, keepR := false, pure := true }
theorem k246 : chkFn Tryz.prog Tryz.f246 a246 = true := by kernel_rfl
@[simp] def r247_0 : List AOp :=
 [.m 8 1,
 .m 6 8]
@[simp] def r247_1 : List AOp :=
 [.m 9 2,
 .p 10 (.bin .sub (.t 9) (.i 1)),
 .m 7 10]
@[simp] def r247_2 : List AOp :=
 [.m 11 6,
 .m 12 7,
 .p 13 (.bin .lss (.t 11) (.t 12))]
@[simp] def r247_3 : List AOp :=
 [.m 14 0,
 .m 15 6,
 .m 16 0,
 .m 17 7,
 .m 18 0,
 .m 19 7,
 .l 20 (.idxS 1 (.t 18) (.t 19)) 18 .lst,
 .l 21 (.load false 1 (.t 20)) 20 .imm,
 .m 22 0,
 .m 23 6,
 .l 24 (.idxS 1 (.t 22) (.t 23)) 22 .lst,
 .l 25 (.load false 1 (.t 24)) 24 .imm,
 .l 26 (.idxS 1 (.t 14) (.t 15)) 14 .lst,
 .n (.store 1 (.t 26) (.t 21)),
 .l 27 (.idxS 1 (.t 16) (.t 17)) 16 .lst,
 .n (.store 1 (.t 27) (.t 25))]
def p247_3 : List (List Nat) := [[], [], [], [], [], [], [4, 5], [6], [], [], [8, 9], [10], [0, 1, 0, 1, 4, 5, 6, 7, 11], [12, 7, 0, 1, 4, 5, 6, 7, 11], [2, 3, 0, 1, 2, 3, 4, 5, 6, 7, 8, 9, 10, 11, 12, 13], [14, 11, 13, 0, 1, 2, 3, 4, 5, 6, 7, 8, 9, 10, 11, 12, 13]]
@[simp] def r247_4 : List AOp :=
 [.m 28 6,
 .p 29 (.bin .add (.t 28) (.i 1)),
 .m 6 29]
@[simp] def r247_5 : List AOp :=
 [.m 30 7,
 .p 31 (.bin .sub (.t 30) (.i 1)),
 .m 7 31]
def l247_0 : AC :=
 .seq (.seq (.ops r247_2)
   (.cond (.t 13) (.skip) (.exit 0)))
 (.block 1 (.seq (.tops r247_3
     p247_3)
  (.seq (.ops r247_4)
    (.ops r247_5))))
def c247 : AC :=
 .seq (.ops r247_0)
 (.seq (.ops r247_1)
   (.block 0 (.loop l247_0)))
def a247 : AFn := { res := [], body := c247, keepA := false, keepR := false, pure := false }
theorem k247 : chkFn Tryz.prog Tryz.f247 a247 = true := by kernel_rfl
@[simp] def r248_0 : List AOp :=
 [.p 6 (.mov (.b false))]
@[simp] def r248_1 : List AOp :=
 [.m 11 1,
 .p 12 (.bin .add (.t 11) (.i 1)),
 .m 7 12]
@[simp] def r248_2 : List AOp :=
 [.p 8 (.mov (.i 0))]
@[simp] def r248_3 : List AOp :=
 [.m 13 8,
 .p 14 (.bin .lss (.t 13) (.i 5))]
@[simp] def r248_5 : List AOp :=
 [.m 17 7,
 .m 18 2,
 .p 19 (.bin .lss (.t 17) (.t 18)),
 .m 20 19,
 .q 21 20 true (.mov (.t 0)),
 .q 22 20 true (.mov (.t 7)),
 ⟨(some 23), (some (20, true)), .idxS 1 (.t 21) (.t 22), (some (.t 21, .lst))⟩,
 ⟨(some 24), (some (20, true)), .load false 1 (.t 23), (some (.t 23, .imm))⟩,
 .q 25 20 true (.mov (.t 0)),
 .q 26 20 true (.mov (.t 7)),
 .q 27 20 true (.bin .sub (.t 26) (.i 1)),
 ⟨(some 28), (some (20, true)), .idxS 1 (.t 25) (.t 27), (some (.t 25, .lst))⟩,
 ⟨(some 29), (some (20, true)), .load false 1 (.t 28), (some (.t 28, .imm))⟩,
 .q 30 20 true (.call 249 [.t 24, .t 29]),
 .q 31 20 true (.un .not (.t 30)),
 .p 32 (.pick (.t 20) (.t 31) (.b false))]
def p248_5 : List (List Nat) := [[], [], [0, 1], [2], [3], [3], [4, 5, 3], [6, 3], [3], [3], [9, 3], [8, 10, 3], [11, 3], [7, 12, 3, 3], [13, 3], [3, 14]]
@[simp] def r248_6 : List AOp :=
 [.m 33 7,
 .p 34 (.bin .add (.t 33) (.i 1)),
 .m 7 34]
def l248_1 : AC :=
 .seq (.seq (.tops r248_5
   p248_5)
   (.cond (.t 32) (.skip) (.exit 2)))
 (.block 3 (.ops r248_6))
@[simp] def r248_7 : List AOp :=
 [.m 35 7,
 .m 36 2,
 .p 37 (.bin .eql (.t 35) (.t 36))]
@[simp] def r248_8 : List AOp :=
 [.p 6 (.mov (.b true))]
@[simp] def r248_9 : List AOp :=
 [.m 38 2,
 .m 39 1,
 .p 40 (.bin .sub (.t 38) (.t 39)),
 .p 41 (.bin .lss (.t 40) (.i 50))]
@[simp] def r248_10 : List AOp :=
 [.p 6 (.mov (.b false))]
@[simp] def r248_11 : List AOp :=
 [.m 42 0,
 .m 43 7,
 .m 44 0,
 .m 45 7,
 .p 46 (.bin .sub (.t 45) (.i 1)),
 .m 47 0,
 .m 48 7,
 .p 49 (.bin .sub (.t 48) (.i 1)),
 .l 50 (.idxS 1 (.t 47) (.t 49)) 47 .lst,
 .l 51 (.load false 1 (.t 50)) 50 .imm,
 .m 52 0,
 .m 53 7,
 .l 54 (.idxS 1 (.t 52) (.t 53)) 52 .lst,
 .l 55 (.load false 1 (.t 54)) 54 .imm,
 .l 56 (.idxS 1 (.t 42) (.t 43)) 42 .lst,
 .n (.store 1 (.t 56) (.t 51)),
 .l 57 (.idxS 1 (.t 44) (.t 46)) 44 .lst,
 .n (.store 1 (.t 57) (.t 55))]
def p248_11 : List (List Nat) := [[], [], [], [], [3], [], [], [6], [5, 7], [8], [], [], [10, 11], [12], [0, 1, 0, 1, 5, 6, 7, 8, 9, 13], [14, 9, 0, 1, 5, 6, 7, 8, 9, 13], [2, 4, 0, 1, 2, 3, 4, 5, 6, 7, 8, 9, 10, 11, 12, 13, 14, 15], [16, 13, 15, 0, 1, 2, 3, 4, 5, 6, 7, 8, 9, 10, 11, 12, 13, 14, 15]]
@[simp] def r248_12 : List AOp :=
 [.m 58 7,
 .m 59 1,
 .p 60 (.bin .sub (.t 58) (.t 59)),
 .p 61 (.bin .geq (.t 60) (.i 2))]
@[simp] def r248_13 : List AOp :=
 [.m 62 7,
 .p 63 (.bin .sub (.t 62) (.i 1)),
 .m 9 63]
@[simp] def r248_14 : List AOp :=
 [.m 64 9,
 .p 65 (.bin .geq (.t 64) (.i 1))]
@[simp] def r248_16 : List AOp :=
 [.m 68 0,
 .m 69 9,
 .l 70 (.idxS 1 (.t 68) (.t 69)) 68 .lst,
 .l 71 (.load false 1 (.t 70)) 70 .imm,
 .m 72 0,
 .m 73 9,
 .p 74 (.bin .sub (.t 73) (.i 1)),
 .l 75 (.idxS 1 (.t 72) (.t 74)) 72 .lst,
 .l 76 (.load false 1 (.t 75)) 75 .imm,
 .p 77 (.call 249 [.t 71, .t 76]),
 .p 78 (.un .not (.t 77))]
def p248_16 : List (List Nat) := [[], [], [0, 1], [2], [], [], [5], [4, 6], [7], [3, 8], [9]]
@[simp] def r248_17 : List AOp :=
 [.m 79 0,
 .m 80 9,
 .m 81 0,
 .m 82 9,
 .p 83 (.bin .sub (.t 82) (.i 1)),
 .m 84 0,
 .m 85 9,
 .p 86 (.bin .sub (.t 85) (.i 1)),
 .l 87 (.idxS 1 (.t 84) (.t 86)) 84 .lst,
 .l 88 (.load false 1 (.t 87)) 87 .imm,
 .m 89 0,
 .m 90 9,
 .l 91 (.idxS 1 (.t 89) (.t 90)) 89 .lst,
 .l 92 (.load false 1 (.t 91)) 91 .imm,
 .l 93 (.idxS 1 (.t 79) (.t 80)) 79 .lst,
 .n (.store 1 (.t 93) (.t 88)),
 .l 94 (.idxS 1 (.t 81) (.t 83)) 81 .lst,
 .n (.store 1 (.t 94) (.t 92))]
def p248_17 : List (List Nat) := [[], [], [], [], [3], [], [], [6], [5, 7], [8], [], [], [10, 11], [12], [0, 1, 0, 1, 5, 6, 7, 8, 9, 13], [14, 9, 0, 1, 5, 6, 7, 8, 9, 13], [2, 4, 0, 1, 2, 3, 4, 5, 6, 7, 8, 9, 10, 11, 12, 13, 14, 15], [16, 13, 15, 0, 1, 2, 3, 4, 5, 6, 7, 8, 9, 10, 11, 12, 13, 14, 15]]
@[simp] def r248_15 : List AOp :=
 [.m 66 9,
 .p 67 (.bin .sub (.t 66) (.i 1)),
 .m 9 67]
def l248_2 : AC :=
 .seq (.seq (.ops r248_14)
   (.cond (.t 65) (.skip) (.exit 4)))
 (.seq (.block 5 (.seq (.seq (.tops r248_16
      p248_16)
   (.cond (.t 78) (.exit 4) (.skip)))
    (.tops r248_17
    p248_17)))
   (.ops r248_15))
@[simp] def r248_18 : List AOp :=
 [.m 95 2,
 .m 96 7,
 .p 97 (.bin .sub (.t 95) (.t 96)),
 .p 98 (.bin .geq (.t 97) (.i 2))]
@[simp] def r248_19 : List AOp :=
 [.m 99 7,
 .p 100 (.bin .add (.t 99) (.i 1)),
 .m 10 100]
@[simp] def r248_20 : List AOp :=
 [.m 101 10,
 .m 102 2,
 .p 103 (.bin .lss (.t 101) (.t 102))]
@[simp] def r248_22 : List AOp :=
 [.m 106 0,
 .m 107 10,
 .l 108 (.idxS 1 (.t 106) (.t 107)) 106 .lst,
 .l 109 (.load false 1 (.t 108)) 108 .imm,
 .m 110 0,
 .m 111 10,
 .p 112 (.bin .sub (.t 111) (.i 1)),
 .l 113 (.idxS 1 (.t 110) (.t 112)) 110 .lst,
 .l 114 (.load false 1 (.t 113)) 113 .imm,
 .p 115 (.call 249 [.t 109, .t 114]),
 .p 116 (.un .not (.t 115))]
def p248_22 : List (List Nat) := [[], [], [0, 1], [2], [], [], [5], [4, 6], [7], [3, 8], [9]]
@[simp] def r248_23 : List AOp :=
 [.m 117 0,
 .m 118 10,
 .m 119 0,
 .m 120 10,
 .p 121 (.bin .sub (.t 120) (.i 1)),
 .m 122 0,
 .m 123 10,
 .p 124 (.bin .sub (.t 123) (.i 1)),
 .l 125 (.idxS 1 (.t 122) (.t 124)) 122 .lst,
 .l 126 (.load false 1 (.t 125)) 125 .imm,
 .m 127 0,
 .m 128 10,
 .l 129 (.idxS 1 (.t 127) (.t 128)) 127 .lst,
 .l 130 (.load false 1 (.t 129)) 129 .imm,
 .l 131 (.idxS 1 (.t 117) (.t 118)) 117 .lst,
 .n (.store 1 (.t 131) (.t 126)),
 .l 132 (.idxS 1 (.t 119) (.t 121)) 119 .lst,
 .n (.store 1 (.t 132) (.t 130))]
def p248_23 : List (List Nat) := [[], [], [], [], [3], [], [], [6], [5, 7], [8], [], [], [10, 11], [12], [0, 1, 0, 1, 5, 6, 7, 8, 9, 13], [14, 9, 0, 1, 5, 6, 7, 8, 9, 13], [2, 4, 0, 1, 2, 3, 4, 5, 6, 7, 8, 9, 10, 11, 12, 13, 14, 15], [16, 13, 15, 0, 1, 2, 3, 4, 5, 6, 7, 8, 9, 10, 11, 12, 13, 14, 15]]
@[simp] def r248_21 : List AOp :=
 [.m 104 10,
 .p 105 (.bin .add (.t 104) (.i 1)),
 .m 10 105]
def l248_3 : AC :=
 .seq (.seq (.ops r248_20)
   (.cond (.t 103) (.skip) (.exit 6)))
 (.seq (.block 7 (.seq (.seq (.tops r248_22
      p248_22)
   (.cond (.t 116) (.exit 6) (.skip)))
    (.tops r248_23
    p248_23)))
   (.ops r248_21))
@[simp] def r248_4 : List AOp :=
 [.m 15 8,
 .p 16 (.bin .add (.t 15) (.i 1)),
 .m 8 16]
def l248_0 : AC :=
 .seq (.seq (.ops r248_3)
   (.cond (.t 14) (.skip) (.exit 0)))
 (.seq (.block 1 (.seq (.block 2 (.loop l248_1))
    (.seq (.seq (.ops r248_7)
     (.cond (.t 37) (.seq (.ops r248_8)
      (.ret)) (.skip)))
   (.seq (.seq (.ops r248_9)
    (.cond (.t 41) (.seq (.ops r248_10)
     (.ret)) (.skip)))
     (.seq (.tops r248_11
       p248_11)
    (.seq (.seq (.ops r248_12)
     (.cond (.t 61) (.seq (.ops r248_13)
      (.block 4 (.loop l248_2))) (.skip)))
      (.seq (.ops r248_18)
     (.cond (.t 98) (.seq (.ops r248_19)
      (.block 6 (.loop l248_3))) (.skip)))))))))
   (.ops r248_4))
@[simp] def r248_24 : List AOp :=
 [.p 6 (.mov (.b false))]
def c248 : AC :=
 .seq (.ops r248_0)
 (.seq (.ops r248_1)
   (.seq (.seq (.ops r248_2)
    (.block 0 (.loop l248_0)))
  (.seq (.ops r248_24)
    (.ret))))
def a248 : AFn := { res := [.tmp 6], body := c248, keepA := false, keepR := false, pure := false }
theorem k248 : chkFn Tryz.prog Tryz.f248 a248 = true := by kernel_rfl
@[simp] def r249_0 : List AOp :=
 [.p 4 (.mov (.b false))]
@[simp] def r249_1 : List AOp :=
 [.m 5 0,
 .p 6 (.call 259 [.t 5]),
 .m 7 6,
 .q 8 7 true (.mov (.t 1)),
 .q 9 7 true (.call 259 [.t 8]),
 .q 10 7 true (.un .not (.t 9)),
 .p 11 (.pick (.t 7) (.t 10) (.b false)),
 .m 12 11,
 .q 13 12 false (.mov (.t 0)),
 .q 14 12 false (.mov (.t 1)),
 .q 15 12 false (.bin .lss (.t 13) (.t 14)),
 .p 16 (.pick (.t 12) (.b true) (.t 15)),
 .m 4 16]
def c249 : AC :=
 .seq (.ops r249_0)
 (.seq (.ops r249_1)
   (.ret))
def a249 : AFn := { res := [.tmp 4], body := c249, keepA := false, keepR := false, pure := true }
theorem k249 : chkFn Tryz.prog Tryz.f249 a249 = true := by kernel_rfl
@[simp] def r250_0 : List AOp :=
 [.p 8 (.mov (.i 0))]
@[simp] def r250_1 : List AOp :=
 [.m 11 0,
 .m 12 1,
 .m 13 0,
 .m 14 3,
 .m 15 0,
 .m 16 3,
 .l 17 (.idxS 1 (.t 15) (.t 16)) 15 .lst,
 .l 18 (.load false 1 (.t 17)) 17 .imm,
 .m 19 0,
 .m 20 1,
 .l 21 (.idxS 1 (.t 19) (.t 20)) 19 .lst,
 .l 22 (.load false 1 (.t 21)) 21 .imm,
 .l 23 (.idxS 1 (.t 11) (.t 12)) 11 .lst,
 .n (.store 1 (.t 23) (.t 18)),
 .l 24 (.idxS 1 (.t 13) (.t 14)) 13 .lst,
 .n (.store 1 (.t 24) (.t 22))]
def p250_1 : List (List Nat) := [[], [], [], [], [], [], [4, 5], [6], [], [], [8, 9], [10], [0, 1, 0, 1, 4, 5, 6, 7, 11], [12, 7, 0, 1, 4, 5, 6, 7, 11], [2, 3, 0, 1, 2, 3, 4, 5, 6, 7, 8, 9, 10, 11, 12, 13], [14, 11, 13, 0, 1, 2, 3, 4, 5, 6, 7, 8, 9, 10, 11, 12, 13]]
@[simp] def r250_2 : List AOp :=
 [.m 25 1,
 .p 26 (.bin .add (.t 25) (.i 1)),
 .m 27 2,
 .p 28 (.bin .sub (.t 27) (.i 1)),
 .m 9 26,
 .m 10 28]
@[simp] def r250_3 : List AOp :=
 [.m 29 9,
 .m 30 10,
 .p 31 (.bin .leq (.t 29) (.t 30)),
 .m 32 31,
 .q 33 32 true (.mov (.t 0)),
 .q 34 32 true (.mov (.t 1)),
 ⟨(some 35), (some (32, true)), .idxS 1 (.t 33) (.t 34), (some (.t 33, .lst))⟩,
 ⟨(some 36), (some (32, true)), .load false 1 (.t 35), (some (.t 35, .imm))⟩,
 .q 37 32 true (.mov (.t 0)),
 .q 38 32 true (.mov (.t 9)),
 ⟨(some 39), (some (32, true)), .idxS 1 (.t 37) (.t 38), (some (.t 37, .lst))⟩,
 ⟨(some 40), (some (32, true)), .load false 1 (.t 39), (some (.t 39, .imm))⟩,
 .q 41 32 true (.call 249 [.t 36, .t 40]),
 .q 42 32 true (.un .not (.t 41)),
 .p 43 (.pick (.t 32) (.t 42) (.b false))]
def p250_3 : List (List Nat) := [[], [], [0, 1], [2], [3], [3], [4, 5, 3], [6, 3], [3], [3], [8, 9, 3], [10, 3], [7, 11, 3, 3], [12, 3], [3, 13]]
@[simp] def r250_4 : List AOp :=
 [.m 44 9,
 .p 45 (.bin .add (.t 44) (.i 1)),
 .m 9 45]
def l250_1 : AC :=
 .seq (.seq (.tops r250_3
   p250_3)
   (.cond (.t 43) (.skip) (.exit 2)))
 (.block 3 (.ops r250_4))
@[simp] def r250_5 : List AOp :=
 [.m 46 9,
 .m 47 10,
 .p 48 (.bin .leq (.t 46) (.t 47)),
 .m 49 48,
 .q 50 49 true (.mov (.t 0)),
 .q 51 49 true (.mov (.t 1)),
 ⟨(some 52), (some (49, true)), .idxS 1 (.t 50) (.t 51), (some (.t 50, .lst))⟩,
 ⟨(some 53), (some (49, true)), .load false 1 (.t 52), (some (.t 52, .imm))⟩,
 .q 54 49 true (.mov (.t 0)),
 .q 55 49 true (.mov (.t 10)),
 ⟨(some 56), (some (49, true)), .idxS 1 (.t 54) (.t 55), (some (.t 54, .lst))⟩,
 ⟨(some 57), (some (49, true)), .load false 1 (.t 56), (some (.t 56, .imm))⟩,
 .q 58 49 true (.call 249 [.t 53, .t 57]),
 .p 59 (.pick (.t 49) (.t 58) (.b false))]
def p250_5 : List (List Nat) := [[], [], [0, 1], [2], [3], [3], [4, 5, 3], [6, 3], [3], [3], [8, 9, 3], [10, 3], [7, 11, 3, 3], [3, 12]]
@[simp] def r250_6 : List AOp :=
 [.m 60 10,
 .p 61 (.bin .sub (.t 60) (.i 1)),
 .m 10 61]
def l250_2 : AC :=
 .seq (.seq (.tops r250_5
   p250_5)
   (.cond (.t 59) (.skip) (.exit 4)))
 (.block 5 (.ops r250_6))
@[simp] def r250_7 : List AOp :=
 [.m 62 9,
 .m 63 10,
 .p 64 (.bin .gtr (.t 62) (.t 63))]
@[simp] def r250_8 : List AOp :=
 [.m 65 0,
 .m 66 9,
 .m 67 0,
 .m 68 10,
 .m 69 0,
 .m 70 10,
 .l 71 (.idxS 1 (.t 69) (.t 70)) 69 .lst,
 .l 72 (.load false 1 (.t 71)) 71 .imm,
 .m 73 0,
 .m 74 9,
 .l 75 (.idxS 1 (.t 73) (.t 74)) 73 .lst,
 .l 76 (.load false 1 (.t 75)) 75 .imm,
 .l 77 (.idxS 1 (.t 65) (.t 66)) 65 .lst,
 .n (.store 1 (.t 77) (.t 72)),
 .l 78 (.idxS 1 (.t 67) (.t 68)) 67 .lst,
 .n (.store 1 (.t 78) (.t 76))]
def p250_8 : List (List Nat) := [[], [], [], [], [], [], [4, 5], [6], [], [], [8, 9], [10], [0, 1, 0, 1, 4, 5, 6, 7, 11], [12, 7, 0, 1, 4, 5, 6, 7, 11], [2, 3, 0, 1, 2, 3, 4, 5, 6, 7, 8, 9, 10, 11, 12, 13], [14, 11, 13, 0, 1, 2, 3, 4, 5, 6, 7, 8, 9, 10, 11, 12, 13]]
@[simp] def r250_9 : List AOp :=
 [.m 79 9,
 .p 80 (.bin .add (.t 79) (.i 1)),
 .m 9 80]
@[simp] def r250_10 : List AOp :=
 [.m 81 10,
 .p 82 (.bin .sub (.t 81) (.i 1)),
 .m 10 82]
def l250_0 : AC :=
 .block 1 (.seq (.block 2 (.loop l250_1))
   (.seq (.block 4 (.loop l250_2))
  (.seq (.seq (.ops r250_7)
   (.cond (.t 64) (.exit 0) (.skip)))
    (.seq (.tops r250_8
      p250_8)
   (.seq (.ops r250_9)
     (.ops r250_10))))))
@[simp] def r250_11 : List AOp :=
 [.m 83 9,
 .m 8 83]
def c250 : AC :=
 .seq (.ops r250_0)
 (.seq (.tops r250_1
   p250_1)
   (.seq (.ops r250_2)
  (.seq (.block 0 (.loop l250_0))
    (.seq (.ops r250_11)
   (.ret)))))
def a250 : AFn := { res := [.tmp 8], body := c250, keepA := false, keepR := false, pure := false }
theorem k250 : chkFn Tryz.prog Tryz.f250 a250 = true := by kernel_rfl
@[simp] def r251_0 : List AOp :=
 [.p 8 (.mov (.i 0)),
 .p 9 (.mov (.b false))]
@[simp] def r251_1 : List AOp :=
 [.m 12 0,
 .m 13 1,
 .m 14 0,
 .m 15 3,
 .m 16 0,
 .m 17 3,
 .l 18 (.idxS 1 (.t 16) (.t 17)) 16 .lst,
 .l 19 (.load false 1 (.t 18)) 18 .imm,
 .m 20 0,
 .m 21 1,
 .l 22 (.idxS 1 (.t 20) (.t 21)) 20 .lst,
 .l 23 (.load false 1 (.t 22)) 22 .imm,
 .l 24 (.idxS 1 (.t 12) (.t 13)) 12 .lst,
 .n (.store 1 (.t 24) (.t 19)),
 .l 25 (.idxS 1 (.t 14) (.t 15)) 14 .lst,
 .n (.store 1 (.t 25) (.t 23))]
def p251_1 : List (List Nat) := [[], [], [], [], [], [], [4, 5], [6], [], [], [8, 9], [10], [0, 1, 0, 1, 4, 5, 6, 7, 11], [12, 7, 0, 1, 4, 5, 6, 7, 11], [2, 3, 0, 1, 2, 3, 4, 5, 6, 7, 8, 9, 10, 11, 12, 13], [14, 11, 13, 0, 1, 2, 3, 4, 5, 6, 7, 8, 9, 10, 11, 12, 13]]
@[simp] def r251_2 : List AOp :=
 [.m 26 1,
 .p 27 (.bin .add (.t 26) (.i 1)),
 .m 28 2,
 .p 29 (.bin .sub (.t 28) (.i 1)),
 .m 10 27,
 .m 11 29]
@[simp] def r251_3 : List AOp :=
 [.m 30 10,
 .m 31 11,
 .p 32 (.bin .leq (.t 30) (.t 31)),
 .m 33 32,
 .q 34 33 true (.mov (.t 0)),
 .q 35 33 true (.mov (.t 10)),
 ⟨(some 36), (some (33, true)), .idxS 1 (.t 34) (.t 35), (some (.t 34, .lst))⟩,
 ⟨(some 37), (some (33, true)), .load false 1 (.t 36), (some (.t 36, .imm))⟩,
 .q 38 33 true (.mov (.t 0)),
 .q 39 33 true (.mov (.t 1)),
 ⟨(some 40), (some (33, true)), .idxS 1 (.t 38) (.t 39), (some (.t 38, .lst))⟩,
 ⟨(some 41), (some (33, true)), .load false 1 (.t 40), (some (.t 40, .imm))⟩,
 .q 42 33 true (.call 249 [.t 37, .t 41]),
 .p 43 (.pick (.t 33) (.t 42) (.b false))]
def p251_3 : List (List Nat) := [[], [], [0, 1], [2], [3], [3], [4, 5, 3], [6, 3], [3], [3], [8, 9, 3], [10, 3], [7, 11, 3, 3], [3, 12]]
@[simp] def r251_4 : List AOp :=
 [.m 44 10,
 .p 45 (.bin .add (.t 44) (.i 1)),
 .m 10 45]
def l251_0 : AC :=
 .seq (.seq (.tops r251_3
   p251_3)
   (.cond (.t 43) (.skip) (.exit 0)))
 (.block 1 (.ops r251_4))
@[simp] def r251_5 : List AOp :=
 [.m 46 10,
 .m 47 11,
 .p 48 (.bin .leq (.t 46) (.t 47)),
 .m 49 48,
 .q 50 49 true (.mov (.t 0)),
 .q 51 49 true (.mov (.t 11)),
 ⟨(some 52), (some (49, true)), .idxS 1 (.t 50) (.t 51), (some (.t 50, .lst))⟩,
 ⟨(some 53), (some (49, true)), .load false 1 (.t 52), (some (.t 52, .imm))⟩,
 .q 54 49 true (.mov (.t 0)),
 .q 55 49 true (.mov (.t 1)),
 ⟨(some 56), (some (49, true)), .idxS 1 (.t 54) (.t 55), (some (.t 54, .lst))⟩,
 ⟨(some 57), (some (49, true)), .load false 1 (.t 56), (some (.t 56, .imm))⟩,
 .q 58 49 true (.call 249 [.t 53, .t 57]),
 .q 59 49 true (.un .not (.t 58)),
 .p 60 (.pick (.t 49) (.t 59) (.b false))]
def p251_5 : List (List Nat) := [[], [], [0, 1], [2], [3], [3], [4, 5, 3], [6, 3], [3], [3], [8, 9, 3], [10, 3], [7, 11, 3, 3], [12, 3], [3, 13]]
@[simp] def r251_6 : List AOp :=
 [.m 61 11,
 .p 62 (.bin .sub (.t 61) (.i 1)),
 .m 11 62]
def l251_1 : AC :=
 .seq (.seq (.tops r251_5
   p251_5)
   (.cond (.t 60) (.skip) (.exit 2)))
 (.block 3 (.ops r251_6))
@[simp] def r251_7 : List AOp :=
 [.m 63 10,
 .m 64 11,
 .p 65 (.bin .gtr (.t 63) (.t 64))]
@[simp] def r251_8 : List AOp :=
 [.m 66 0,
 .m 67 11,
 .m 68 0,
 .m 69 1,
 .m 70 0,
 .m 71 1,
 .l 72 (.idxS 1 (.t 70) (.t 71)) 70 .lst,
 .l 73 (.load false 1 (.t 72)) 72 .imm,
 .m 74 0,
 .m 75 11,
 .l 76 (.idxS 1 (.t 74) (.t 75)) 74 .lst,
 .l 77 (.load false 1 (.t 76)) 76 .imm,
 .l 78 (.idxS 1 (.t 66) (.t 67)) 66 .lst,
 .n (.store 1 (.t 78) (.t 73)),
 .l 79 (.idxS 1 (.t 68) (.t 69)) 68 .lst,
 .n (.store 1 (.t 79) (.t 77))]
def p251_8 : List (List Nat) := [[], [], [], [], [], [], [4, 5], [6], [], [], [8, 9], [10], [0, 1, 0, 1, 4, 5, 6, 7, 11], [12, 7, 0, 1, 4, 5, 6, 7, 11], [2, 3, 0, 1, 2, 3, 4, 5, 6, 7, 8, 9, 10, 11, 12, 13], [14, 11, 13, 0, 1, 2, 3, 4, 5, 6, 7, 8, 9, 10, 11, 12, 13]]
@[simp] def r251_9 : List AOp :=
 [.m 80 11,
 .m 8 80,
 .p 9 (.mov (.b true))]
@[simp] def r251_10 : List AOp :=
 [.m 81 0,
 .m 82 10,
 .m 83 0,
 .m 84 11,
 .m 85 0,
 .m 86 11,
 .l 87 (.idxS 1 (.t 85) (.t 86)) 85 .lst,
 .l 88 (.load false 1 (.t 87)) 87 .imm,
 .m 89 0,
 .m 90 10,
 .l 91 (.idxS 1 (.t 89) (.t 90)) 89 .lst,
 .l 92 (.load false 1 (.t 91)) 91 .imm,
 .l 93 (.idxS 1 (.t 81) (.t 82)) 81 .lst,
 .n (.store 1 (.t 93) (.t 88)),
 .l 94 (.idxS 1 (.t 83) (.t 84)) 83 .lst,
 .n (.store 1 (.t 94) (.t 92))]
def p251_10 : List (List Nat) := [[], [], [], [], [], [], [4, 5], [6], [], [], [8, 9], [10], [0, 1, 0, 1, 4, 5, 6, 7, 11], [12, 7, 0, 1, 4, 5, 6, 7, 11], [2, 3, 0, 1, 2, 3, 4, 5, 6, 7, 8, 9, 10, 11, 12, 13], [14, 11, 13, 0, 1, 2, 3, 4, 5, 6, 7, 8, 9, 10, 11, 12, 13]]
@[simp] def r251_11 : List AOp :=
 [.m 95 10,
 .p 96 (.bin .add (.t 95) (.i 1)),
 .m 10 96]
@[simp] def r251_12 : List AOp :=
 [.m 97 11,
 .p 98 (.bin .sub (.t 97) (.i 1)),
 .m 11 98]
@[simp] def r251_13 : List AOp :=
 [.m 99 10,
 .m 100 11,
 .p 101 (.bin .leq (.t 99) (.t 100)),
 .m 102 101,
 .q 103 102 true (.mov (.t 0)),
 .q 104 102 true (.mov (.t 10)),
 ⟨(some 105), (some (102, true)), .idxS 1 (.t 103) (.t 104), (some (.t 103, .lst))⟩,
 ⟨(some 106), (some (102, true)), .load false 1 (.t 105), (some (.t 105, .imm))⟩,
 .q 107 102 true (.mov (.t 0)),
 .q 108 102 true (.mov (.t 1)),
 ⟨(some 109), (some (102, true)), .idxS 1 (.t 107) (.t 108), (some (.t 107, .lst))⟩,
 ⟨(some 110), (some (102, true)), .load false 1 (.t 109), (some (.t 109, .imm))⟩,
 .q 111 102 true (.call 249 [.t 106, .t 110]),
 .p 112 (.pick (.t 102) (.t 111) (.b false))]
def p251_13 : List (List Nat) := [[], [], [0, 1], [2], [3], [3], [4, 5, 3], [6, 3], [3], [3], [8, 9, 3], [10, 3], [7, 11, 3, 3], [3, 12]]
@[simp] def r251_14 : List AOp :=
 [.m 113 10,
 .p 114 (.bin .add (.t 113) (.i 1)),
 .m 10 114]
def l251_3 : AC :=
 .seq (.seq (.tops r251_13
   p251_13)
   (.cond (.t 112) (.skip) (.exit 6)))
 (.block 7 (.ops r251_14))
@[simp] def r251_15 : List AOp :=
 [.m 115 10,
 .m 116 11,
 .p 117 (.bin .leq (.t 115) (.t 116)),
 .m 118 117,
 .q 119 118 true (.mov (.t 0)),
 .q 120 118 true (.mov (.t 11)),
 ⟨(some 121), (some (118, true)), .idxS 1 (.t 119) (.t 120), (some (.t 119, .lst))⟩,
 ⟨(some 122), (some (118, true)), .load false 1 (.t 121), (some (.t 121, .imm))⟩,
 .q 123 118 true (.mov (.t 0)),
 .q 124 118 true (.mov (.t 1)),
 ⟨(some 125), (some (118, true)), .idxS 1 (.t 123) (.t 124), (some (.t 123, .lst))⟩,
 ⟨(some 126), (some (118, true)), .load false 1 (.t 125), (some (.t 125, .imm))⟩,
 .q 127 118 true (.call 249 [.t 122, .t 126]),
 .q 128 118 true (.un .not (.t 127)),
 .p 129 (.pick (.t 118) (.t 128) (.b false))]
def p251_15 : List (List Nat) := [[], [], [0, 1], [2], [3], [3], [4, 5, 3], [6, 3], [3], [3], [8, 9, 3], [10, 3], [7, 11, 3, 3], [12, 3], [3, 13]]
@[simp] def r251_16 : List AOp :=
 [.m 130 11,
 .p 131 (.bin .sub (.t 130) (.i 1)),
 .m 11 131]
def l251_4 : AC :=
 .seq (.seq (.tops r251_15
   p251_15)
   (.cond (.t 129) (.skip) (.exit 8)))
 (.block 9 (.ops r251_16))
@[simp] def r251_17 : List AOp :=
 [.m 132 10,
 .m 133 11,
 .p 134 (.bin .gtr (.t 132) (.t 133))]
@[simp] def r251_18 : List AOp :=
 [.m 135 0,
 .m 136 10,
 .m 137 0,
 .m 138 11,
 .m 139 0,
 .m 140 11,
 .l 141 (.idxS 1 (.t 139) (.t 140)) 139 .lst,
 .l 142 (.load false 1 (.t 141)) 141 .imm,
 .m 143 0,
 .m 144 10,
 .l 145 (.idxS 1 (.t 143) (.t 144)) 143 .lst,
 .l 146 (.load false 1 (.t 145)) 145 .imm,
 .l 147 (.idxS 1 (.t 135) (.t 136)) 135 .lst,
 .n (.store 1 (.t 147) (.t 142)),
 .l 148 (.idxS 1 (.t 137) (.t 138)) 137 .lst,
 .n (.store 1 (.t 148) (.t 146))]
def p251_18 : List (List Nat) := [[], [], [], [], [], [], [4, 5], [6], [], [], [8, 9], [10], [0, 1, 0, 1, 4, 5, 6, 7, 11], [12, 7, 0, 1, 4, 5, 6, 7, 11], [2, 3, 0, 1, 2, 3, 4, 5, 6, 7, 8, 9, 10, 11, 12, 13], [14, 11, 13, 0, 1, 2, 3, 4, 5, 6, 7, 8, 9, 10, 11, 12, 13]]
@[simp] def r251_19 : List AOp :=
 [.m 149 10,
 .p 150 (.bin .add (.t 149) (.i 1)),
 .m 10 150]
@[simp] def r251_20 : List AOp :=
 [.m 151 11,
 .p 152 (.bin .sub (.t 151) (.i 1)),
 .m 11 152]
def l251_2 : AC :=
 .block 5 (.seq (.block 6 (.loop l251_3))
   (.seq (.block 8 (.loop l251_4))
  (.seq (.seq (.ops r251_17)
   (.cond (.t 134) (.exit 4) (.skip)))
    (.seq (.tops r251_18
      p251_18)
   (.seq (.ops r251_19)
     (.ops r251_20))))))
@[simp] def r251_21 : List AOp :=
 [.m 153 0,
 .m 154 11,
 .m 155 0,
 .m 156 1,
 .m 157 0,
 .m 158 1,
 .l 159 (.idxS 1 (.t 157) (.t 158)) 157 .lst,
 .l 160 (.load false 1 (.t 159)) 159 .imm,
 .m 161 0,
 .m 162 11,
 .l 163 (.idxS 1 (.t 161) (.t 162)) 161 .lst,
 .l 164 (.load false 1 (.t 163)) 163 .imm,
 .l 165 (.idxS 1 (.t 153) (.t 154)) 153 .lst,
 .n (.store 1 (.t 165) (.t 160)),
 .l 166 (.idxS 1 (.t 155) (.t 156)) 155 .lst,
 .n (.store 1 (.t 166) (.t 164))]
def p251_21 : List (List Nat) := [[], [], [], [], [], [], [4, 5], [6], [], [], [8, 9], [10], [0, 1, 0, 1, 4, 5, 6, 7, 11], [12, 7, 0, 1, 4, 5, 6, 7, 11], [2, 3, 0, 1, 2, 3, 4, 5, 6, 7, 8, 9, 10, 11, 12, 13], [14, 11, 13, 0, 1, 2, 3, 4, 5, 6, 7, 8, 9, 10, 11, 12, 13]]
@[simp] def r251_22 : List AOp :=
 [.m 167 11,
 .m 8 167,
 .p 9 (.mov (.b false))]
def c251 : AC :=
 .seq (.ops r251_0)
 (.seq (.tops r251_1
   p251_1)
   (.seq (.ops r251_2)
  (.seq (.block 0 (.loop l251_0))
    (.seq (.block 2 (.loop l251_1))
   (.seq (.seq (.ops r251_7)
    (.cond (.t 65) (.seq (.tops r251_8
        p251_8)
     (.seq (.ops r251_9)
       (.ret))) (.skip)))
     (.seq (.tops r251_10
       p251_10)
    (.seq (.ops r251_11)
      (.seq (.ops r251_12)
     (.seq (.block 4 (.loop l251_2))
       (.seq (.tops r251_21
         p251_21)
      (.seq (.ops r251_22)
        (.ret))))))))))))
def a251 : AFn := { res := [.tmp 8, .tmp 9], body := c251, keepA := false, keepR := false, pure := false }
theorem k251 : chkFn Tryz.prog Tryz.f251 a251 = true := by kernel_rfl
@[simp] def r252_0 : List AOp :=
 [.p 2 (.mov (.i 0))]
@[simp] def r252_1 : List AOp :=
 [.m 3 0,
 .p 4 (.bin .geq (.t 3) (.c (.int .u32 65536)))]
@[simp] def r252_2 : List AOp :=
 [.m 5 0,
 .p 6 (.bin .shr (.t 5) (.u 16)),
 .m 0 6]
@[simp] def r252_3 : List AOp :=
 [.p 2 (.mov (.i 16))]
@[simp] def r252_4 : List AOp :=
 [.m 7 0,
 .p 8 (.bin .geq (.t 7) (.c (.int .u32 256)))]
@[simp] def r252_5 : List AOp :=
 [.m 9 0,
 .p 10 (.bin .shr (.t 9) (.u 8)),
 .m 0 10]
@[simp] def r252_6 : List AOp :=
 [.m 11 2,
 .p 12 (.bin .add (.t 11) (.i 8)),
 .m 2 12]
@[simp] def r252_7 : List AOp :=
 [.m 13 2,
 .m 14 0,
 .p 15 (.conv .u8 (.t 14)),
 .p 16 (.idxStr (.c (.str ⟨#[0, 1, 2, 2, 3, 3, 3, 3, 4, 4, 4, 4, 4, 4, 4, 4, 5, 5, 5, 5, 5, 5, 5, 5, 5, 5, 5, 5, 5, 5, 5, 5, 6, 6, 6, 6, 6, 6, 6, 6, 6, 6, 6, 6, 6, 6, 6, 6, 6, 6, 6, 6, 6, 6, 6, 6, 6, 6, 6, 6, 6, 6, 6, 6, 7, 7, 7, 7, 7, 7, 7, 7, 7, 7, 7, 7, 7, 7, 7, 7, 7, 7, 7, 7, 7, 7, 7, 7, 7, 7, 7, 7, 7, 7, 7, 7, 7, 7, 7, 7, 7, 7, 7, 7, 7, 7, 7, 7, 7, 7, 7, 7, 7, 7, 7, 7, 7, 7, 7, 7, 7, 7, 7, 7, 7, 7, 7, 7, 8, 8, 8, 8, 8, 8, 8, 8, 8, 8, 8, 8, 8, 8, 8, 8, 8, 8, 8, 8, 8, 8, 8, 8, 8, 8, 8, 8, 8, 8, 8, 8, 8, 8, 8, 8, 8, 8, 8, 8, 8, 8, 8, 8, 8, 8, 8, 8, 8, 8, 8, 8, 8, 8, 8, 8, 8, 8, 8, 8, 8, 8, 8, 8, 8, 8, 8, 8, 8, 8, 8, 8, 8, 8, 8, 8, 8, 8, 8, 8, 8, 8, 8, 8, 8, 8, 8, 8, 8, 8, 8, 8, 8, 8, 8, 8, 8, 8, 8, 8, 8, 8, 8, 8, 8, 8, 8, 8, 8, 8, 8, 8, 8, 8, 8, 8, 8, 8, 8, 8, 8, 8, 8, 8, 8, 8, 8, 8]⟩)) (.t 15)),
 .p 17 (.conv .i64 (.t 16)),
 .p 18 (.bin .add (.t 13) (.t 17)),
 .m 2 18]
def c252 : AC :=
 .seq (.ops r252_0)
 (.seq (.seq (.ops r252_1)
  (.cond (.t 4) (.seq (.ops r252_2)
   (.ops r252_3)) (.skip)))
   (.seq (.seq (.ops r252_4)
    (.cond (.t 8) (.seq (.ops r252_5)
     (.ops r252_6)) (.skip)))
  (.seq (.ops r252_7)
    (.ret))))
def a252 : AFn := { res := [.tmp 2], body := c252, keepA := false, keepR := false, pure := true }
theorem k252 : chkFn Tryz.prog Tryz.f252 a252 = true := by kernel_rfl
@[simp] def r253_0 : List AOp :=
 [.p 2 (.mov (.i 0))]
@[simp] def r253_1 : List AOp :=
 [.m 3 0,
 .p 4 (.bin .geq (.t 3) (.u 4294967296))]
@[simp] def r253_2 : List AOp :=
 [.m 5 0,
 .p 6 (.bin .shr (.t 5) (.u 32)),
 .m 0 6]
@[simp] def r253_3 : List AOp :=
 [.p 2 (.mov (.i 32))]
@[simp] def r253_4 : List AOp :=
 [.m 7 0,
 .p 8 (.bin .geq (.t 7) (.u 65536))]
@[simp] def r253_5 : List AOp :=
 [.m 9 0,
 .p 10 (.bin .shr (.t 9) (.u 16)),
 .m 0 10]
@[simp] def r253_6 : List AOp :=
 [.m 11 2,
 .p 12 (.bin .add (.t 11) (.i 16)),
 .m 2 12]
@[simp] def r253_7 : List AOp :=
 [.m 13 0,
 .p 14 (.bin .geq (.t 13) (.u 256))]
@[simp] def r253_8 : List AOp :=
 [.m 15 0,
 .p 16 (.bin .shr (.t 15) (.u 8)),
 .m 0 16]
@[simp] def r253_9 : List AOp :=
 [.m 17 2,
 .p 18 (.bin .add (.t 17) (.i 8)),
 .m 2 18]
@[simp] def r253_10 : List AOp :=
 [.m 19 2,
 .m 20 0,
 .p 21 (.conv .u8 (.t 20)),
 .p 22 (.idxStr (.c (.str ⟨#[0, 1, 2, 2, 3, 3, 3, 3, 4, 4, 4, 4, 4, 4, 4, 4, 5, 5, 5, 5, 5, 5, 5, 5, 5, 5, 5, 5, 5, 5, 5, 5, 6, 6, 6, 6, 6, 6, 6, 6, 6, 6, 6, 6, 6, 6, 6, 6, 6, 6, 6, 6, 6, 6, 6, 6, 6, 6, 6, 6, 6, 6, 6, 6, 7, 7, 7, 7, 7, 7, 7, 7, 7, 7, 7, 7, 7, 7, 7, 7, 7, 7, 7, 7, 7, 7, 7, 7, 7, 7, 7, 7, 7, 7, 7, 7, 7, 7, 7, 7, 7, 7, 7, 7, 7, 7, 7, 7, 7, 7, 7, 7, 7, 7, 7, 7, 7, 7, 7, 7, 7, 7, 7, 7, 7, 7, 7, 7, 8, 8, 8, 8, 8, 8, 8, 8, 8, 8, 8, 8, 8, 8, 8, 8, 8, 8, 8, 8, 8, 8, 8, 8, 8, 8, 8, 8, 8, 8, 8, 8, 8, 8, 8, 8, 8, 8, 8, 8, 8, 8, 8, 8, 8, 8, 8, 8, 8, 8, 8, 8, 8, 8, 8, 8, 8, 8, 8, 8, 8, 8, 8, 8, 8, 8, 8, 8, 8, 8, 8, 8, 8, 8, 8, 8, 8, 8, 8, 8, 8, 8, 8, 8, 8, 8, 8, 8, 8, 8, 8, 8, 8, 8, 8, 8, 8, 8, 8, 8, 8, 8, 8, 8, 8, 8, 8, 8, 8, 8, 8, 8, 8, 8, 8, 8, 8, 8, 8, 8, 8, 8, 8, 8, 8, 8, 8, 8]⟩)) (.t 21)),
 .p 23 (.conv .i64 (.t 22)),
 .p 24 (.bin .add (.t 19) (.t 23)),
 .m 2 24]
def c253 : AC :=
 .seq (.ops r253_0)
 (.seq (.seq (.ops r253_1)
  (.cond (.t 4) (.seq (.ops r253_2)
   (.ops r253_3)) (.skip)))
   (.seq (.seq (.ops r253_4)
    (.cond (.t 8) (.seq (.ops r253_5)
     (.ops r253_6)) (.skip)))
  (.seq (.seq (.ops r253_7)
   (.cond (.t 14) (.seq (.ops r253_8)
    (.ops r253_9)) (.skip)))
    (.seq (.ops r253_10)
   (.ret)))))
def a253 : AFn := { res := [.tmp 2], body := c253, keepA := false, keepR := false, pure := true }
theorem k253 : chkFn Tryz.prog Tryz.f253 a253 = true := by kernel_rfl
@[simp] def r254_0 : List AOp :=
 [.m 10 1,
 .m 8 10]
@[simp] def r254_1 : List AOp :=
 [.m 11 8,
 .p 12 (.bin .mul (.i 2) (.t 11)),
 .p 13 (.bin .add (.t 12) (.i 1)),
 .m 9 13]
@[simp] def r254_2 : List AOp :=
 [.m 14 9,
 .m 15 2,
 .p 16 (.bin .geq (.t 14) (.t 15))]
@[simp] def r254_3 : List AOp :=
 [.m 17 9,
 .p 18 (.bin .add (.t 17) (.i 1)),
 .m 19 2,
 .p 20 (.bin .lss (.t 18) (.t 19)),
 .m 21 20,
 .q 22 21 true (.mov (.t 0)),
 .q 23 21 true (.mov (.t 3)),
 .q 24 21 true (.mov (.t 9)),
 .q 25 21 true (.bin .add (.t 23) (.t 24)),
 ⟨(some 26), (some (21, true)), .idxS 1 (.t 22) (.t 25), (some (.t 22, .lst))⟩,
 ⟨(some 27), (some (21, true)), .load false 1 (.t 26), (some (.t 26, .imm))⟩,
 .q 28 21 true (.mov (.t 0)),
 .q 29 21 true (.mov (.t 3)),
 .q 30 21 true (.mov (.t 9)),
 .q 31 21 true (.bin .add (.t 29) (.t 30)),
 .q 32 21 true (.bin .add (.t 31) (.i 1)),
 ⟨(some 33), (some (21, true)), .idxS 1 (.t 28) (.t 32), (some (.t 28, .lst))⟩,
 ⟨(some 34), (some (21, true)), .load false 1 (.t 33), (some (.t 33, .imm))⟩,
 .q 35 21 true (.call 249 [.t 27, .t 34]),
 .p 36 (.pick (.t 21) (.t 35) (.b false))]
def p254_3 : List (List Nat) := [[], [0], [], [1, 2], [3], [4], [4], [4], [6, 7, 4], [5, 8, 4], [9, 4], [4], [4], [4], [12, 13, 4], [14, 4], [11, 15, 4], [16, 4], [10, 17, 4, 4], [4, 18]]
@[simp] def r254_4 : List AOp :=
 [.m 37 9,
 .p 38 (.bin .add (.t 37) (.i 1)),
 .m 9 38]
@[simp] def r254_5 : List AOp :=
 [.m 39 0,
 .m 40 3,
 .m 41 8,
 .p 42 (.bin .add (.t 40) (.t 41)),
 .l 43 (.idxS 1 (.t 39) (.t 42)) 39 .lst,
 .l 44 (.load false 1 (.t 43)) 43 .imm,
 .m 45 0,
 .m 46 3,
 .m 47 9,
 .p 48 (.bin .add (.t 46) (.t 47)),
 .l 49 (.idxS 1 (.t 45) (.t 48)) 45 .lst,
 .l 50 (.load false 1 (.t 49)) 49 .imm,
 .p 51 (.call 249 [.t 44, .t 50]),
 .p 52 (.un .not (.t 51))]
def p254_5 : List (List Nat) := [[], [], [], [1, 2], [0, 3], [4], [], [], [], [7, 8], [6, 9], [10], [5, 11], [12]]
@[simp] def r254_6 : List AOp :=
 [.m 53 0,
 .m 54 3,
 .m 55 8,
 .p 56 (.bin .add (.t 54) (.t 55)),
 .m 57 0,
 .m 58 3,
 .m 59 9,
 .p 60 (.bin .add (.t 58) (.t 59)),
 .m 61 0,
 .m 62 3,
 .m 63 9,
 .p 64 (.bin .add (.t 62) (.t 63)),
 .l 65 (.idxS 1 (.t 61) (.t 64)) 61 .lst,
 .l 66 (.load false 1 (.t 65)) 65 .imm,
 .m 67 0,
 .m 68 3,
 .m 69 8,
 .p 70 (.bin .add (.t 68) (.t 69)),
 .l 71 (.idxS 1 (.t 67) (.t 70)) 67 .lst,
 .l 72 (.load false 1 (.t 71)) 71 .imm,
 .l 73 (.idxS 1 (.t 53) (.t 56)) 53 .lst,
 .n (.store 1 (.t 73) (.t 66)),
 .l 74 (.idxS 1 (.t 57) (.t 60)) 57 .lst,
 .n (.store 1 (.t 74) (.t 72))]
def p254_6 : List (List Nat) := [[], [], [], [1, 2], [], [], [], [5, 6], [], [], [], [9, 10], [8, 11], [12], [], [], [], [15, 16], [14, 17], [18], [0, 3, 0, 1, 2, 3, 8, 9, 10, 11, 12, 13, 19], [20, 13, 0, 1, 2, 3, 8, 9, 10, 11, 12, 13, 19], [4, 7, 0, 1, 2, 3, 4, 5, 6, 7, 8, 9, 10, 11, 12, 13, 14, 15, 16, 17, 18, 19, 20, 21], [22, 19, 21, 0, 1, 2, 3, 4, 5, 6, 7, 8, 9, 10, 11, 12, 13, 14, 15, 16, 17, 18, 19, 20, 21]]
@[simp] def r254_7 : List AOp :=
 [.m 75 9,
 .m 8 75]
def l254_0 : AC :=
 .block 1 (.seq (.ops r254_1)
   (.seq (.seq (.ops r254_2)
    (.cond (.t 16) (.exit 0) (.skip)))
  (.seq (.seq (.tops r254_3
      p254_3)
   (.cond (.t 36) (.ops r254_4) (.skip)))
    (.seq (.seq (.tops r254_5
     p254_5)
     (.cond (.t 52) (.ret) (.skip)))
   (.seq (.tops r254_6
     p254_6)
     (.ops r254_7))))))
def c254 : AC :=
 .seq (.ops r254_0)
 (.block 0 (.loop l254_0))
def a254 : AFn := { res := [], body := c254, keepA := false, keepR := false, pure := false }
theorem k254 : chkFn Tryz.prog Tryz.f254 a254 = true := by kernel_rfl
@[simp] def r255_0 : List AOp :=
 [.p 2 (.mov (.u 0))]
@[simp] def r255_1 : List AOp :=
 [.m 3 0,
 .p 4 (.conv .u64 (.t 3)),
 .p 5 (.call 236 [.t 4]),
 .p 6 (.bin .shl (.u 1) (.t 5)),
 .m 2 6]
def c255 : AC :=
 .seq (.ops r255_0)
 (.seq (.ops r255_1)
   (.ret))
def a255 : AFn := { res := [.tmp 2], body := c255, keepA := false, keepR := false, pure := true }
theorem k255 : chkFn Tryz.prog Tryz.f255 a255 = true := by kernel_rfl
@[simp] def r256_0 : List AOp :=
 [.p 2 (.mov (.u 0))]
@[simp] def r256_1 : List AOp :=
 [.m 3 0,
 .p 4 (.nilchk (.t 3)),
 .p 5 (.load false 1 (.t 4)),
 .m 6 0,
 .p 7 (.nilchk (.t 6)),
 .p 8 (.load false 1 (.t 7)),
 .p 9 (.bin .shl (.t 8) (.u 13)),
 .p 10 (.bin .xor (.t 5) (.t 9)),
 .p 11 (.nilchk (.t 3)),
 .n (.store 1 (.t 11) (.t 10))]
def p256_1 : List (List Nat) := [[], [0], [1], [], [3], [4], [5], [2, 6], [0, 0, 1, 2, 3, 4, 5, 6, 7], [8, 7, 0, 1, 2, 3, 4, 5, 6, 7]]
@[simp] def r256_2 : List AOp :=
 [.m 12 0,
 .p 13 (.nilchk (.t 12)),
 .p 14 (.load false 1 (.t 13)),
 .m 15 0,
 .p 16 (.nilchk (.t 15)),
 .p 17 (.load false 1 (.t 16)),
 .p 18 (.bin .shr (.t 17) (.u 7)),
 .p 19 (.bin .xor (.t 14) (.t 18)),
 .p 20 (.nilchk (.t 12)),
 .n (.store 1 (.t 20) (.t 19))]
def p256_2 : List (List Nat) := [[], [0], [1], [], [3], [4], [5], [2, 6], [0, 0, 1, 2, 3, 4, 5, 6, 7], [8, 7, 0, 1, 2, 3, 4, 5, 6, 7]]
@[simp] def r256_3 : List AOp :=
 [.m 21 0,
 .p 22 (.nilchk (.t 21)),
 .p 23 (.load false 1 (.t 22)),
 .m 24 0,
 .p 25 (.nilchk (.t 24)),
 .p 26 (.load false 1 (.t 25)),
 .p 27 (.bin .shl (.t 26) (.u 17)),
 .p 28 (.bin .xor (.t 23) (.t 27)),
 .p 29 (.nilchk (.t 21)),
 .n (.store 1 (.t 29) (.t 28))]
def p256_3 : List (List Nat) := [[], [0], [1], [], [3], [4], [5], [2, 6], [0, 0, 1, 2, 3, 4, 5, 6, 7], [8, 7, 0, 1, 2, 3, 4, 5, 6, 7]]
@[simp] def r256_4 : List AOp :=
 [.m 30 0,
 .p 31 (.nilchk (.t 30)),
 .p 32 (.load false 1 (.t 31)),
 .m 2 32]
def c256 : AC :=
 .seq (.ops r256_0)
 (.seq (.tops r256_1
   p256_1)
   (.seq (.tops r256_2
     p256_2)
  (.seq (.tops r256_3
    p256_3)
    (.seq (.ops r256_4)
   (.ret)))))
def a256 : AFn := { res := [.tmp 2], body := c256, keepA := false, keepR := false, pure := false }
theorem k256 : chkFn Tryz.prog Tryz.f256 a256 = true := by kernel_rfl
@[simp] def r257_0 : List AOp :=
 [.p 6 (.mov (.i 0))]
@[simp] def r257_1 : List AOp :=
 [.m 7 0,
 .m 8 1,
 .p 9 (.bin .sub (.t 8) (.i 1)),
 .m 10 1,
 .m 11 1,
 .p 12 (.bin .add (.t 11) (.i 1)),
 .m 13 2,
 .p 14 (.call 258 [.t 7, .t 9, .t 10, .t 12, .t 13]),
 .m 6 14]
def c257 : AC :=
 .seq (.ops r257_0)
 (.seq (.ops r257_1)
   (.ret))
def a257 : AFn := { res := [.tmp 6], body := c257, keepA := false, keepR := false, pure := false }
theorem k257 : chkFn Tryz.prog Tryz.f257 a257 = true := by kernel_rfl
@[simp] def r258_0 : List AOp :=
 [.p 10 (.mov (.i 0))]
@[simp] def r258_1 : List AOp :=
 [.m 12 0,
 .m 13 1,
 .m 14 2,
 .m 15 4,
 .p 16 (.call 260 [.t 12, .t 13, .t 14, .t 15]),
 .m 11 16,
 .p 17 (.ext (.t 11) 0),
 .p 18 (.ext (.t 11) 1),
 .m 1 17,
 .m 2 18]
@[simp] def r258_2 : List AOp :=
 [.m 20 0,
 .m 21 2,
 .m 22 3,
 .m 23 4,
 .p 24 (.call 260 [.t 20, .t 21, .t 22, .t 23]),
 .m 19 24,
 .p 25 (.ext (.t 19) 0),
 .p 26 (.ext (.t 19) 1),
 .m 2 25,
 .m 3 26]
@[simp] def r258_3 : List AOp :=
 [.m 28 0,
 .m 29 1,
 .m 30 2,
 .m 31 4,
 .p 32 (.call 260 [.t 28, .t 29, .t 30, .t 31]),
 .m 27 32,
 .p 33 (.ext (.t 27) 0),
 .p 34 (.ext (.t 27) 1),
 .m 1 33,
 .m 2 34]
@[simp] def r258_4 : List AOp :=
 [.m 35 2,
 .m 10 35]
def c258 : AC :=
 .seq (.ops r258_0)
 (.seq (.ops r258_1)
   (.seq (.ops r258_2)
  (.seq (.ops r258_3)
    (.seq (.ops r258_4)
   (.ret)))))
def a258 : AFn := { res := [.tmp 10], body := c258, keepA := false, keepR := false, pure := false }
theorem k258 : chkFn Tryz.prog Tryz.f258 a258 = true := by kernel_rfl
@[simp] def r259_0 : List AOp :=
 [.p 2 (.mov (.b false))]
@[simp] def r259_1 : List AOp :=
 [.m 3 0,
 .m 4 0,
 .p 5 (.bin .neq (.t 3) (.t 4)),
 .m 2 5]
def c259 : AC :=
 .seq (.ops r259_0)
 (.seq (.ops r259_1)
   (.ret))
def a259 : AFn := { res := [.tmp 2], body := c259, keepA := false, keepR := false, pure := true }
theorem k259 : chkFn Tryz.prog Tryz.f259 a259 = true := by kernel_rfl
@[simp] def r260_0 : List AOp :=
 [.p 8 (.mov (.i 0)),
 .p 9 (.mov (.i 0))]
@[simp] def r260_1 : List AOp :=
 [.m 10 0,
 .m 11 2,
 .l 12 (.idxS 1 (.t 10) (.t 11)) 10 .lst,
 .l 13 (.load false 1 (.t 12)) 12 .imm,
 .m 14 0,
 .m 15 1,
 .l 16 (.idxS 1 (.t 14) (.t 15)) 14 .lst,
 .l 17 (.load false 1 (.t 16)) 16 .imm,
 .p 18 (.call 249 [.t 13, .t 17])]
def p260_1 : List (List Nat) := [[], [], [0, 1], [2], [], [], [4, 5], [6], [3, 7]]
@[simp] def r260_2 : List AOp :=
 [.m 19 3,
 .p 20 (.nilchk (.t 19)),
 .p 21 (.load false 1 (.t 20)),
 .p 22 (.bin .add (.t 21) (.i 1)),
 .p 23 (.nilchk (.t 19)),
 .n (.store 1 (.t 23) (.t 22))]
@[simp] def r260_3 : List AOp :=
 [.m 24 2,
 .m 25 1,
 .m 8 24,
 .m 9 25]
@[simp] def r260_4 : List AOp :=
 [.m 26 1,
 .m 27 2,
 .m 8 26,
 .m 9 27]
def c260 : AC :=
 .seq (.ops r260_0)
 (.seq (.seq (.tops r260_1
     p260_1)
  (.cond (.t 18) (.seq (.ops r260_2)
   (.seq (.ops r260_3)
     (.ret))) (.skip)))
   (.seq (.ops r260_4)
  (.ret)))
def a260 : AFn := { res := [.tmp 8, .tmp 9], body := c260, keepA := false, keepR := false, pure := false }
theorem k260 : chkFn Tryz.prog Tryz.f260 a260 = true := by kernel_rfl

end Go.Proofs.YtpbngohpklpalaaGreat

/- The table of the compact code of the program's functions, and that it fits the program: printed by mkcode.py. -/
namespace Go.Proofs.YtpbngohpklpalaaGreat
open Go.LS
def tl0 : List (FuncId × AFn) := [(3, a3), (7, a7), (15, a15), (16, a16), (17, a17), (18, a18), (19, a19), (20, a20), (21, a21), (22, a22), (24, a24), (26, a26), (28, a28), (29, a29), (30, a30), (41, a41), (52, a52), (53, a53), (54, a54), (55, a55), (56, a56), (57, a57), (58, a58), (59, a59), (60, a60), (61, a61), (62, a62), (63, a63), (64, a64), (66, a66), (67, a67), (69, a69), (70, a70), (71, a71), (72, a72), (80, a80), (81, a81), (82, a82), (85, a85), (87, a87)]
theorem tlok0 : ListOK Tryz.prog tl0 := ⟨⟨_, Tryz.func3, k3, rfl⟩, ⟨_, Tryz.func7, k7, rfl⟩, ⟨_, Tryz.func15, k15, rfl⟩, ⟨_, Tryz.func16, k16, rfl⟩, ⟨_, Tryz.func17, k17, rfl⟩, ⟨_, Tryz.func18, k18, rfl⟩, ⟨_, Tryz.func19, k19, rfl⟩, ⟨_, Tryz.func20, k20, rfl⟩, ⟨_, Tryz.func21, k21, rfl⟩, ⟨_, Tryz.func22, k22, rfl⟩, ⟨_, Tryz.func24, k24, rfl⟩, ⟨_, Tryz.func26, k26, rfl⟩, ⟨_, Tryz.func28, k28, rfl⟩, ⟨_, Tryz.func29, k29, rfl⟩, ⟨_, Tryz.func30, k30, rfl⟩, ⟨_, Tryz.func41, k41, rfl⟩, ⟨_, Tryz.func52, k52, rfl⟩, ⟨_, Tryz.func53, k53, rfl⟩, ⟨_, Tryz.func54, k54, rfl⟩, ⟨_, Tryz.func55, k55, rfl⟩, ⟨_, Tryz.func56, k56, rfl⟩, ⟨_, Tryz.func57, k57, rfl⟩, ⟨_, Tryz.func58, k58, rfl⟩, ⟨_, Tryz.func59, k59, rfl⟩, ⟨_, Tryz.func60, k60, rfl⟩, ⟨_, Tryz.func61, k61, rfl⟩, ⟨_, Tryz.func62, k62, rfl⟩, ⟨_, Tryz.func63, k63, rfl⟩, ⟨_, Tryz.func64, k64, rfl⟩, ⟨_, Tryz.func66, k66, rfl⟩, ⟨_, Tryz.func67, k67, rfl⟩, ⟨_, Tryz.func69, k69, rfl⟩, ⟨_, Tryz.func70, k70, rfl⟩, ⟨_, Tryz.func71, k71, rfl⟩, ⟨_, Tryz.func72, k72, rfl⟩, ⟨_, Tryz.func80, k80, rfl⟩, ⟨_, Tryz.func81, k81, rfl⟩, ⟨_, Tryz.func82, k82, rfl⟩, ⟨_, Tryz.func85, k85, rfl⟩, ⟨_, Tryz.func87, k87, rfl⟩, trivial⟩
def tl1 : List (FuncId × AFn) := [(88, a88), (89, a89), (90, a90), (91, a91), (92, a92), (93, a93), (94, a94), (96, a96), (102, a102), (105, a105), (112, a112), (113, a113), (114, a114), (115, a115), (116, a116), (117, a117), (118, a118), (119, a119), (120, a120), (121, a121), (122, a122), (123, a123), (127, a127), (128, a128), (129, a129), (130, a130), (138, a138), (139, a139), (140, a140), (141, a141), (142, a142), (143, a143), (144, a144), (145, a145), (146, a146), (147, a147), (149, a149), (156, a156), (157, a157), (158, a158)]
theorem tlok1 : ListOK Tryz.prog tl1 := ⟨⟨_, Tryz.func88, k88, rfl⟩, ⟨_, Tryz.func89, k89, rfl⟩, ⟨_, Tryz.func90, k90, rfl⟩, ⟨_, Tryz.func91, k91, rfl⟩, ⟨_, Tryz.func92, k92, rfl⟩, ⟨_, Tryz.func93, k93, rfl⟩, ⟨_, Tryz.func94, k94, rfl⟩, ⟨_, Tryz.func96, k96, rfl⟩, ⟨_, Tryz.func102, k102, rfl⟩, ⟨_, Tryz.func105, k105, rfl⟩, ⟨_, Tryz.func112, k112, rfl⟩, ⟨_, Tryz.func113, k113, rfl⟩, ⟨_, Tryz.func114, k114, rfl⟩, ⟨_, Tryz.func115, k115, rfl⟩, ⟨_, Tryz.func116, k116, rfl⟩, ⟨_, Tryz.func117, k117, rfl⟩, ⟨_, Tryz.func118, k118, rfl⟩, ⟨_, Tryz.func119, k119, rfl⟩, ⟨_, Tryz.func120, k120, rfl⟩, ⟨_, Tryz.func121, k121, rfl⟩, ⟨_, Tryz.func122, k122, rfl⟩, ⟨_, Tryz.func123, k123, rfl⟩, ⟨_, Tryz.func127, k127, rfl⟩, ⟨_, Tryz.func128, k128, rfl⟩, ⟨_, Tryz.func129, k129, rfl⟩, ⟨_, Tryz.func130, k130, rfl⟩, ⟨_, Tryz.func138, k138, rfl⟩, ⟨_, Tryz.func139, k139, rfl⟩, ⟨_, Tryz.func140, k140, rfl⟩, ⟨_, Tryz.func141, k141, rfl⟩, ⟨_, Tryz.func142, k142, rfl⟩, ⟨_, Tryz.func143, k143, rfl⟩, ⟨_, Tryz.func144, k144, rfl⟩, ⟨_, Tryz.func145, k145, rfl⟩, ⟨_, Tryz.func146, k146, rfl⟩, ⟨_, Tryz.func147, k147, rfl⟩, ⟨_, Tryz.func149, k149, rfl⟩, ⟨_, Tryz.func156, k156, rfl⟩, ⟨_, Tryz.func157, k157, rfl⟩, ⟨_, Tryz.func158, k158, rfl⟩, trivial⟩
def tl2 : List (FuncId × AFn) := [(159, a159), (160, a160), (165, a165), (166, a166), (167, a167), (168, a168), (169, a169), (170, a170), (171, a171), (175, a175), (176, a176), (177, a177), (178, a178), (181, a181), (182, a182), (183, a183), (185, a185), (186, a186), (187, a187), (188, a188), (189, a189), (190, a190), (191, a191), (192, a192), (193, a193), (194, a194), (195, a195), (196, a196), (197, a197), (198, a198), (199, a199), (200, a200), (201, a201), (202, a202), (203, a203), (204, a204), (205, a205), (206, a206), (207, a207), (208, a208)]
theorem tlok2 : ListOK Tryz.prog tl2 := ⟨⟨_, Tryz.func159, k159, rfl⟩, ⟨_, Tryz.func160, k160, rfl⟩, ⟨_, Tryz.func165, k165, rfl⟩, ⟨_, Tryz.func166, k166, rfl⟩, ⟨_, Tryz.func167, k167, rfl⟩, ⟨_, Tryz.func168, k168, rfl⟩, ⟨_, Tryz.func169, k169, rfl⟩, ⟨_, Tryz.func170, k170, rfl⟩, ⟨_, Tryz.func171, k171, rfl⟩, ⟨_, Tryz.func175, k175, rfl⟩, ⟨_, Tryz.func176, k176, rfl⟩, ⟨_, Tryz.func177, k177, rfl⟩, ⟨_, Tryz.func178, k178, rfl⟩, ⟨_, Tryz.func181, k181, rfl⟩, ⟨_, Tryz.func182, k182, rfl⟩, ⟨_, Tryz.func183, k183, rfl⟩, ⟨_, Tryz.func185, k185, rfl⟩, ⟨_, Tryz.func186, k186, rfl⟩, ⟨_, Tryz.func187, k187, rfl⟩, ⟨_, Tryz.func188, k188, rfl⟩, ⟨_, Tryz.func189, k189, rfl⟩, ⟨_, Tryz.func190, k190, rfl⟩, ⟨_, Tryz.func191, k191, rfl⟩, ⟨_, Tryz.func192, k192, rfl⟩, ⟨_, Tryz.func193, k193, rfl⟩, ⟨_, Tryz.func194, k194, rfl⟩, ⟨_, Tryz.func195, k195, rfl⟩, ⟨_, Tryz.func196, k196, rfl⟩, ⟨_, Tryz.func197, k197, rfl⟩, ⟨_, Tryz.func198, k198, rfl⟩, ⟨_, Tryz.func199, k199, rfl⟩, ⟨_, Tryz.func200, k200, rfl⟩, ⟨_, Tryz.func201, k201, rfl⟩, ⟨_, Tryz.func202, k202, rfl⟩, ⟨_, Tryz.func203, k203, rfl⟩, ⟨_, Tryz.func204, k204, rfl⟩, ⟨_, Tryz.func205, k205, rfl⟩, ⟨_, Tryz.func206, k206, rfl⟩, ⟨_, Tryz.func207, k207, rfl⟩, ⟨_, Tryz.func208, k208, rfl⟩, trivial⟩
def tl3 : List (FuncId × AFn) := [(209, a209), (210, a210), (211, a211), (212, a212), (213, a213), (214, a214), (215, a215), (216, a216), (217, a217), (218, a218), (219, a219), (220, a220), (221, a221), (222, a222), (223, a223), (224, a224), (225, a225), (226, a226), (227, a227), (228, a228), (229, a229), (230, a230), (231, a231), (232, a232), (233, a233), (234, a234), (235, a235), (236, a236), (237, a237), (238, a238), (239, a239), (240, a240), (241, a241), (242, a242), (243, a243), (244, a244), (245, a245), (246, a246), (247, a247), (248, a248)]
theorem tlok3 : ListOK Tryz.prog tl3 := ⟨⟨_, Tryz.func209, k209, rfl⟩, ⟨_, Tryz.func210, k210, rfl⟩, ⟨_, Tryz.func211, k211, rfl⟩, ⟨_, Tryz.func212, k212, rfl⟩, ⟨_, Tryz.func213, k213, rfl⟩, ⟨_, Tryz.func214, k214, rfl⟩, ⟨_, Tryz.func215, k215, rfl⟩, ⟨_, Tryz.func216, k216, rfl⟩, ⟨_, Tryz.func217, k217, rfl⟩, ⟨_, Tryz.func218, k218, rfl⟩, ⟨_, Tryz.func219, k219, rfl⟩, ⟨_, Tryz.func220, k220, rfl⟩, ⟨_, Tryz.func221, k221, rfl⟩, ⟨_, Tryz.func222, k222, rfl⟩, ⟨_, Tryz.func223, k223, rfl⟩, ⟨_, Tryz.func224, k224, rfl⟩, ⟨_, Tryz.func225, k225, rfl⟩, ⟨_, Tryz.func226, k226, rfl⟩, ⟨_, Tryz.func227, k227, rfl⟩, ⟨_, Tryz.func228, k228, rfl⟩, ⟨_, Tryz.func229, k229, rfl⟩, ⟨_, Tryz.func230, k230, rfl⟩, ⟨_, Tryz.func231, k231, rfl⟩, ⟨_, Tryz.func232, k232, rfl⟩, ⟨_, Tryz.func233, k233, rfl⟩, ⟨_, Tryz.func234, k234, rfl⟩, ⟨_, Tryz.func235, k235, rfl⟩, ⟨_, Tryz.func236, k236, rfl⟩, ⟨_, Tryz.func237, k237, rfl⟩, ⟨_, Tryz.func238, k238, rfl⟩, ⟨_, Tryz.func239, k239, rfl⟩, ⟨_, Tryz.func240, k240, rfl⟩, ⟨_, Tryz.func241, k241, rfl⟩, ⟨_, Tryz.func242, k242, rfl⟩, ⟨_, Tryz.func243, k243, rfl⟩, ⟨_, Tryz.func244, k244, rfl⟩, ⟨_, Tryz.func245, k245, rfl⟩, ⟨_, Tryz.func246, k246, rfl⟩, ⟨_, Tryz.func247, k247, rfl⟩, ⟨_, Tryz.func248, k248, rfl⟩, trivial⟩
def tl4 : List (FuncId × AFn) := [(249, a249), (250, a250), (251, a251), (252, a252), (253, a253), (254, a254), (255, a255), (256, a256), (257, a257), (258, a258), (259, a259), (260, a260)]
theorem tlok4 : ListOK Tryz.prog tl4 := ⟨⟨_, Tryz.func249, k249, rfl⟩, ⟨_, Tryz.func250, k250, rfl⟩, ⟨_, Tryz.func251, k251, rfl⟩, ⟨_, Tryz.func252, k252, rfl⟩, ⟨_, Tryz.func253, k253, rfl⟩, ⟨_, Tryz.func254, k254, rfl⟩, ⟨_, Tryz.func255, k255, rfl⟩, ⟨_, Tryz.func256, k256, rfl⟩, ⟨_, Tryz.func257, k257, rfl⟩, ⟨_, Tryz.func258, k258, rfl⟩, ⟨_, Tryz.func259, k259, rfl⟩, ⟨_, Tryz.func260, k260, rfl⟩, trivial⟩
def tl : List (FuncId × AFn) := tl0 ++ (tl1 ++ (tl2 ++ (tl3 ++ (tl4))))
theorem tlok : ListOK Tryz.prog tl := ListOK.append tlok0 (ListOK.append tlok1 (ListOK.append tlok2 (ListOK.append tlok3 (tlok4))))
def T0 : FuncId → Option AFn := tabOf tl
theorem T_mixed : Tryz.prog.follows .mixedOrders = true := by kernel_rfl
theorem T0_ok : TabOK Tryz.prog T0 := tabOK_of_list T_mixed tlok
theorem z3 : T0 3 = some a3 := by kernel_rfl
theorem z7 : T0 7 = some a7 := by kernel_rfl
theorem z15 : T0 15 = some a15 := by kernel_rfl
theorem z16 : T0 16 = some a16 := by kernel_rfl
theorem z17 : T0 17 = some a17 := by kernel_rfl
theorem z18 : T0 18 = some a18 := by kernel_rfl
theorem z19 : T0 19 = some a19 := by kernel_rfl
theorem z20 : T0 20 = some a20 := by kernel_rfl
theorem z21 : T0 21 = some a21 := by kernel_rfl
theorem z22 : T0 22 = some a22 := by kernel_rfl
theorem z24 : T0 24 = some a24 := by kernel_rfl
theorem z26 : T0 26 = some a26 := by kernel_rfl
theorem z28 : T0 28 = some a28 := by kernel_rfl
theorem z29 : T0 29 = some a29 := by kernel_rfl
theorem z30 : T0 30 = some a30 := by kernel_rfl
theorem z41 : T0 41 = some a41 := by kernel_rfl
theorem z52 : T0 52 = some a52 := by kernel_rfl
theorem z53 : T0 53 = some a53 := by kernel_rfl
theorem z54 : T0 54 = some a54 := by kernel_rfl
theorem z55 : T0 55 = some a55 := by kernel_rfl
theorem z56 : T0 56 = some a56 := by kernel_rfl
theorem z57 : T0 57 = some a57 := by kernel_rfl
theorem z58 : T0 58 = some a58 := by kernel_rfl
theorem z59 : T0 59 = some a59 := by kernel_rfl
theorem z60 : T0 60 = some a60 := by kernel_rfl
theorem z61 : T0 61 = some a61 := by kernel_rfl
theorem z62 : T0 62 = some a62 := by kernel_rfl
theorem z63 : T0 63 = some a63 := by kernel_rfl
theorem z64 : T0 64 = some a64 := by kernel_rfl
theorem z66 : T0 66 = some a66 := by kernel_rfl
theorem z67 : T0 67 = some a67 := by kernel_rfl
theorem z69 : T0 69 = some a69 := by kernel_rfl
theorem z70 : T0 70 = some a70 := by kernel_rfl
theorem z71 : T0 71 = some a71 := by kernel_rfl
theorem z72 : T0 72 = some a72 := by kernel_rfl
theorem z80 : T0 80 = some a80 := by kernel_rfl
theorem z81 : T0 81 = some a81 := by kernel_rfl
theorem z82 : T0 82 = some a82 := by kernel_rfl
theorem z85 : T0 85 = some a85 := by kernel_rfl
theorem z87 : T0 87 = some a87 := by kernel_rfl
theorem z88 : T0 88 = some a88 := by kernel_rfl
theorem z89 : T0 89 = some a89 := by kernel_rfl
theorem z90 : T0 90 = some a90 := by kernel_rfl
theorem z91 : T0 91 = some a91 := by kernel_rfl
theorem z92 : T0 92 = some a92 := by kernel_rfl
theorem z93 : T0 93 = some a93 := by kernel_rfl
theorem z94 : T0 94 = some a94 := by kernel_rfl
theorem z96 : T0 96 = some a96 := by kernel_rfl
theorem z102 : T0 102 = some a102 := by kernel_rfl
theorem z105 : T0 105 = some a105 := by kernel_rfl
theorem z112 : T0 112 = some a112 := by kernel_rfl
theorem z113 : T0 113 = some a113 := by kernel_rfl
theorem z114 : T0 114 = some a114 := by kernel_rfl
theorem z115 : T0 115 = some a115 := by kernel_rfl
theorem z116 : T0 116 = some a116 := by kernel_rfl
theorem z117 : T0 117 = some a117 := by kernel_rfl
theorem z118 : T0 118 = some a118 := by kernel_rfl
theorem z119 : T0 119 = some a119 := by kernel_rfl
theorem z120 : T0 120 = some a120 := by kernel_rfl
theorem z121 : T0 121 = some a121 := by kernel_rfl
theorem z122 : T0 122 = some a122 := by kernel_rfl
theorem z123 : T0 123 = some a123 := by kernel_rfl
theorem z127 : T0 127 = some a127 := by kernel_rfl
theorem z128 : T0 128 = some a128 := by kernel_rfl
theorem z129 : T0 129 = some a129 := by kernel_rfl
theorem z130 : T0 130 = some a130 := by kernel_rfl
theorem z138 : T0 138 = some a138 := by kernel_rfl
theorem z139 : T0 139 = some a139 := by kernel_rfl
theorem z140 : T0 140 = some a140 := by kernel_rfl
theorem z141 : T0 141 = some a141 := by kernel_rfl
theorem z142 : T0 142 = some a142 := by kernel_rfl
theorem z143 : T0 143 = some a143 := by kernel_rfl
theorem z144 : T0 144 = some a144 := by kernel_rfl
theorem z145 : T0 145 = some a145 := by kernel_rfl
theorem z146 : T0 146 = some a146 := by kernel_rfl
theorem z147 : T0 147 = some a147 := by kernel_rfl
theorem z149 : T0 149 = some a149 := by kernel_rfl
theorem z156 : T0 156 = some a156 := by kernel_rfl
theorem z157 : T0 157 = some a157 := by kernel_rfl
theorem z158 : T0 158 = some a158 := by kernel_rfl
theorem z159 : T0 159 = some a159 := by kernel_rfl
theorem z160 : T0 160 = some a160 := by kernel_rfl
theorem z165 : T0 165 = some a165 := by kernel_rfl
theorem z166 : T0 166 = some a166 := by kernel_rfl
theorem z167 : T0 167 = some a167 := by kernel_rfl
theorem z168 : T0 168 = some a168 := by kernel_rfl
theorem z169 : T0 169 = some a169 := by kernel_rfl
theorem z170 : T0 170 = some a170 := by kernel_rfl
theorem z171 : T0 171 = some a171 := by kernel_rfl
theorem z175 : T0 175 = some a175 := by kernel_rfl
theorem z176 : T0 176 = some a176 := by kernel_rfl
theorem z177 : T0 177 = some a177 := by kernel_rfl
theorem z178 : T0 178 = some a178 := by kernel_rfl
theorem z181 : T0 181 = some a181 := by kernel_rfl
theorem z182 : T0 182 = some a182 := by kernel_rfl
theorem z183 : T0 183 = some a183 := by kernel_rfl
theorem z185 : T0 185 = some a185 := by kernel_rfl
theorem z186 : T0 186 = some a186 := by kernel_rfl
theorem z187 : T0 187 = some a187 := by kernel_rfl
theorem z188 : T0 188 = some a188 := by kernel_rfl
theorem z189 : T0 189 = some a189 := by kernel_rfl
theorem z190 : T0 190 = some a190 := by kernel_rfl
theorem z191 : T0 191 = some a191 := by kernel_rfl
theorem z192 : T0 192 = some a192 := by kernel_rfl
theorem z193 : T0 193 = some a193 := by kernel_rfl
theorem z194 : T0 194 = some a194 := by kernel_rfl
theorem z195 : T0 195 = some a195 := by kernel_rfl
theorem z196 : T0 196 = some a196 := by kernel_rfl
theorem z197 : T0 197 = some a197 := by kernel_rfl
theorem z198 : T0 198 = some a198 := by kernel_rfl
theorem z199 : T0 199 = some a199 := by kernel_rfl
theorem z200 : T0 200 = some a200 := by kernel_rfl
theorem z201 : T0 201 = some a201 := by kernel_rfl
theorem z202 : T0 202 = some a202 := by kernel_rfl
theorem z203 : T0 203 = some a203 := by kernel_rfl
theorem z204 : T0 204 = some a204 := by kernel_rfl
theorem z205 : T0 205 = some a205 := by kernel_rfl
theorem z206 : T0 206 = some a206 := by kernel_rfl
theorem z207 : T0 207 = some a207 := by kernel_rfl
theorem z208 : T0 208 = some a208 := by kernel_rfl
theorem z209 : T0 209 = some a209 := by kernel_rfl
theorem z210 : T0 210 = some a210 := by kernel_rfl
theorem z211 : T0 211 = some a211 := by kernel_rfl
theorem z212 : T0 212 = some a212 := by kernel_rfl
theorem z213 : T0 213 = some a213 := by kernel_rfl
theorem z214 : T0 214 = some a214 := by kernel_rfl
theorem z215 : T0 215 = some a215 := by kernel_rfl
theorem z216 : T0 216 = some a216 := by kernel_rfl
theorem z217 : T0 217 = some a217 := by kernel_rfl
theorem z218 : T0 218 = some a218 := by kernel_rfl
theorem z219 : T0 219 = some a219 := by kernel_rfl
theorem z220 : T0 220 = some a220 := by kernel_rfl
theorem z221 : T0 221 = some a221 := by kernel_rfl
theorem z222 : T0 222 = some a222 := by kernel_rfl
theorem z223 : T0 223 = some a223 := by kernel_rfl
theorem z224 : T0 224 = some a224 := by kernel_rfl
theorem z225 : T0 225 = some a225 := by kernel_rfl
theorem z226 : T0 226 = some a226 := by kernel_rfl
theorem z227 : T0 227 = some a227 := by kernel_rfl
theorem z228 : T0 228 = some a228 := by kernel_rfl
theorem z229 : T0 229 = some a229 := by kernel_rfl
theorem z230 : T0 230 = some a230 := by kernel_rfl
theorem z231 : T0 231 = some a231 := by kernel_rfl
theorem z232 : T0 232 = some a232 := by kernel_rfl
theorem z233 : T0 233 = some a233 := by kernel_rfl
theorem z234 : T0 234 = some a234 := by kernel_rfl
theorem z235 : T0 235 = some a235 := by kernel_rfl
theorem z236 : T0 236 = some a236 := by kernel_rfl
theorem z237 : T0 237 = some a237 := by kernel_rfl
theorem z238 : T0 238 = some a238 := by kernel_rfl
theorem z239 : T0 239 = some a239 := by kernel_rfl
theorem z240 : T0 240 = some a240 := by kernel_rfl
theorem z241 : T0 241 = some a241 := by kernel_rfl
theorem z242 : T0 242 = some a242 := by kernel_rfl
theorem z243 : T0 243 = some a243 := by kernel_rfl
theorem z244 : T0 244 = some a244 := by kernel_rfl
theorem z245 : T0 245 = some a245 := by kernel_rfl
theorem z246 : T0 246 = some a246 := by kernel_rfl
theorem z247 : T0 247 = some a247 := by kernel_rfl
theorem z248 : T0 248 = some a248 := by kernel_rfl
theorem z249 : T0 249 = some a249 := by kernel_rfl
theorem z250 : T0 250 = some a250 := by kernel_rfl
theorem z251 : T0 251 = some a251 := by kernel_rfl
theorem z252 : T0 252 = some a252 := by kernel_rfl
theorem z253 : T0 253 = some a253 := by kernel_rfl
theorem z254 : T0 254 = some a254 := by kernel_rfl
theorem z255 : T0 255 = some a255 := by kernel_rfl
theorem z256 : T0 256 = some a256 := by kernel_rfl
theorem z257 : T0 257 = some a257 := by kernel_rfl
theorem z258 : T0 258 = some a258 := by kernel_rfl
theorem z259 : T0 259 = some a259 := by kernel_rfl
theorem z260 : T0 260 = some a260 := by kernel_rfl
end Go.Proofs.YtpbngohpklpalaaGreat

/- slices.AppendSeq over an iterator that gives nothing: it hands back what it was given. -/
namespace Go.Proofs.YtpbngohpklpalaaGreat
open Go.LS Go.RowKit Go.Proofs
theorem wpIn_rangeFunc_same {F : Fence} {n : Nat} {P : Program} {g : Operand} {ps : Array Tmp} {assign body : Code} {Q : Exit → Act → World → Prop} {a : Act} {w : World}
  (h : ∀ fn, F.fn fn → ∃ (l : Nat) (mark : List Deferred) (w₁ : World) (d : Deferred) (f : FuncId) (args : Array Value),
   (Instr.enterLoop fn a.tmps ps assign body F.round).run P w = .ok (l, mark) w₁ ∧
   (resolve a.eval (rangeCall g l) 0).run P w₁ = .ok d w₁ ∧
   (∀ f', Target.leads P w₁ d.target d.args = some f' → F.fn f') ∧
   (invoke d.target d.args).run P w₁ = .ok (.enter f args) w₁ ∧
   (F.depth.isSome = true → 1 ≤ n) ∧
   CallsIn F (n - 1) P f args w₁ (rangePost F n P l Q { a with defers := mark ++ a.defers })) :
  (Code.rangeFunc g ps assign body).wpIn F n P Q a w :=
 wpIn_rangeFunc (fun fn hf => let ⟨l, mark, w₁, d, f, args, h⟩ := h fn hf; ⟨l, mark, w₁, d, w₁, f, args, w₁, h⟩)

set_option maxRecDepth 100000 in
set_option maxHeartbeats 2000000 in
theorem appendSeq_none (g : FuncId) (lb : Array Value) (w : World) (fn : Func) (hf : Tryz.prog.funcs[g]? = some fn) (hb : fn.body.isSome = true) (hn : (fn.name == "runtime.NumGoroutine") = false) (R : World → Prop)
  (h : ∀ W1 y, W1 = (((w.alloc (.cells #[.slice none 0 0] 22)).alloc (.deferred (some []))).alloc (.loop y)) → y.state = .ready →
   Calls Tryz.prog g (#[.func (.yield (w.heap.size + 2)) #[] #[]] ++ lb) W1 fun e W2 => (∃ v, e = .returned v) ∧ (∀ j, j = w.heap.size ∨ j = w.heap.size + 1 ∨ j = w.heap.size + 2 → W2.heap[j]? = W1.heap[j]?) ∧
      (∀ W3, (∀ j, j ≠ w.heap.size + 1 → j ≠ w.heap.size + 2 → W3.heap[j]? = W2.heap[j]?) → Same W2 W3 → R W3)) :
  Calls Tryz.prog 234 #[.slice none 0 0, .func (.func g) #[] lb] w fun e w' => e = .returned (.slice none 0 0) ∧ R w' := by
 refine (callsIn_wide (n := 3)).1 ?_
 refine callsIn_of_wp_marks Tryz.func234 rfl trivial ?_ rfl
 simp only [Tryz.ntmps234, List.size_toArray, List.length_cons, List.length_nil, Nat.reduceAdd, Nat.reduceSub, Array.replicate_succ, Array.replicate_zero, List.push_toArray, List.append_toArray, List.nil_append, List.cons_append]
 gi_wp2
 refine wpIn_rangeFunc_same ?_
 intro fn' hfn'
 obtain ⟨W0, hW0⟩ : ∃ W0, w.alloc (.cells #[.slice none 0 0] 22) = W0 := ⟨_, rfl⟩
 have hs0 : W0.heap.size = w.heap.size + 1 := by rw [← hW0]; simp
 have hv0 : W0.heap[w.heap.size]? = some (.cells #[.slice none 0 0] 22 (0, 0)) := by rw [← hW0]; exact World.alloc_heap_new w _
 rw [hW0] at h ⊢
 refine ⟨W0.heap.size + 1, [{ target := .collected W0.heap.size, args := #[] }], _, { target := .fn (.func g) lb, args := #[.func (.yield (W0.heap.size + 1)) #[] #[]] }, g,
  #[.func (.yield (W0.heap.size + 1)) #[] #[]] ++ lb, run_enterLoop_outer _ _ _ _ _, ?_, ?_, ?_, fun _ => (by omega), ?_⟩
 ·simp [resolve, go_sem]
 ·intro f' hf'; exact trivial
 ·simp [invoke, go_sem, run_callFunc hf hb hn]
 ·have key : ∀ y : Loop, y.state = .ready → y.pending = none → Calls Tryz.prog g (#[Value.func (.yield (W0.heap.size + 1)) #[] #[]] ++ lb) ((W0.alloc (.deferred (some []))).alloc (.loop y)) fun e W2 => (∃ v, e = .returned v) ∧ ∃ W3,
    (Instr.endLoop (W0.heap.size + 1)).run Tryz.prog W2 = .ok none W3 ∧ W3.heap[w.heap.size]? = some (.cells #[.slice none 0 0] 22 (0, 0)) ∧ W3.heap[W0.heap.size]? = some (.deferred (some [])) ∧ R (W3.putObj W0.heap.size (.deferred none)) := by
   intro y hy hpend
   have hc := h _ y rfl hy
   rw [show w.heap.size + 2 = W0.heap.size + 1 by omega] at hc
   have hold : ∀ k, k < W0.heap.size → ((W0.alloc (.deferred (some []))).alloc (.loop y)).heap[k]? = W0.heap[k]? := fun k hk => (Below.heap_alloc _ _ k (by simp; omega)).trans (Below.heap_alloc _ _ k hk)
   have hD1 : ((W0.alloc (.deferred (some []))).alloc (.loop y)).heap[W0.heap.size]? = some (.deferred (some [])) := (Below.heap_alloc _ _ _ (by simp)).trans (World.alloc_heap_new W0 _)
   have hL1 : ((W0.alloc (.deferred (some []))).alloc (.loop y)).heap[W0.heap.size + 1]? = some (.loop y) := by
    have := World.alloc_heap_new (W0.alloc (.deferred (some []))) (.loop y)
    rwa [World.size_alloc] at this
   refine hc.mono ?_
   rintro e W2 ⟨hv, hk, hR⟩
   have hL2 : W2.heap[W0.heap.size + 1]? = some (.loop y) := by rw [hk _ (by omega)]; exact hL1
   have hD2 : W2.heap[W0.heap.size]? = some (.deferred (some [])) := by rw [hk _ (by omega)]; exact hD1
   have hB2 : W2.heap[w.heap.size]? = some (.cells #[.slice none 0 0] 22 (0, 0)) := by rw [hk _ (by omega), hold _ (by omega)]; exact hv0
   have hend := run_endLoop (P := Tryz.prog) hL2 (by rw [hy]; simp)
   rw [hpend] at hend
   refine ⟨hv, _, hend, (World.putObj_heap_other (by omega)).trans hB2, (World.putObj_heap_other (by omega)).trans hD2, hR _ (fun j h1 h2 => ?_) ⟨rfl, rfl, rfl, fun b c1 ty1 fr1 hb => ⟨c1, ?_, rfl⟩⟩⟩
   rotate_left
   ·have n1 : b ≠ W0.heap.size + 1 := fun e => by rw [e, hL2] at hb; cases hb
    have n2 : b ≠ W0.heap.size := fun e => by rw [e, hD2] at hb; cases hb
    rw [World.putObj_heap_other n2, World.putObj_heap_other n1]; exact hb
   rw [World.putObj_heap_other (by omega), World.putObj_heap_other (by omega)]
  refine (callsIn_wide.2 (key _ rfl rfl)).mono ?_
  rintro e W2 ⟨⟨v0, rfl⟩, W3, hend, hv3, hK3, hR3⟩
  rw [hs0] at hK3 hR3
  have hc3 : W3.cell? ⟨w.heap.size, 0, none⟩ = some (.slice none 0 0) := by simp [World.cell?, hv3]
  refine ⟨none, W3, hend, ?_⟩
  gi_wp2
  refine ⟨by simp, .inl ⟨_, _, rfl, run_takeDeferred hK3, ?_⟩⟩
  exact ⟨_, results_tmp rfl _ _ _, rfl, hR3⟩
noncomputable def appendE (args : List V) (h : LS.Heap) : Option (V × LS.Heap) :=
 match args with
 | [.lst .nil [], .fn g [] caps] => match callD T0 g (.undef :: caps) h with
  | some (_, h') => some (.lst .nil [], h')
  | none => none
 | _ => none
theorem Inv.others {G : Ghost} {h : LS.Heap} {w w' : World} {B : Nat → Prop} (hi : Inv G h w) (h1 : ∀ b, B b → ∀ id ob r, h.objs id = some ob → G.ρ id = some r → r.b ≠ b) (h2 : ∀ b, B b → ∀ q, G.M b q = none)
  (hw : ∀ j, ¬ B j → w'.heap[j]? = w.heap[j]?) : Inv G h w' := by
 refine ⟨fun b' o c hc => ?_, fun id ob ho => ?_, hi.fresh, hi.sep⟩
 ·have hne : ¬ B b' := fun e => by rw [h2 b' e] at hc; cases hc
  have := hi.imm b' o c hc
  rw [cell_heap] at this ⊢
  obtain ⟨cs, ty, fr, h3, h4⟩ := this
  exact ⟨cs, ty, fr, by rw [hw _ hne]; exact h3, h4⟩
 ·obtain ⟨r, h3, h4⟩ := hi.obj id ob ho
  exact ⟨r, h3, h4.heap (hw _ (fun e => h1 _ e _ _ _ ho h3 rfl))⟩
theorem append_serves {args : List V} {h h' : LS.Heap} {v : V} (he : appendE args h = some (v, h')) : Serves Tryz.prog 234 args h v h' := by
 unfold appendE at he
 split at he
 case h_2 => cases he
 rename_i g caps
 split at he
 case h_2 => cases he
 rename_i r h2 hcall
 injection he with he
 injection he with e1 e2
 subst e1 e2
 intro F w0 G w cargs hi hf hsame hlen hargs
 have hsz : cargs.size = 2 := hlen.symm
 obtain ⟨c0, c1, rfl⟩ : ∃ c0 c1, cargs = #[c0, c1] := by
  obtain ⟨l⟩ := cargs
  match l, hsz with
  | [a, b], _ => exact ⟨a, b, rfl⟩
 have r0 : R G (.lst .nil []) c0 := hargs 0 _ rfl rfl
 have r1 : R G (.fn g [] caps) c1 := hargs 1 _ rfl rfl
 obtain ⟨a, cap, b, o, s, f, rfl, _, _, ht, _⟩ := r0.lst_inv
 obtain ⟨rfl, rfl⟩ : a = none ∧ cap = 0 := ht
 obtain ⟨cx, cy, rfl, hx, hy⟩ := r1.fn_inv
 have hcx : cx = #[] := Array.eq_empty_of_size_eq_zero hx.size.symm
 subst hcx
 obtain ⟨fn, f1, f2, f3, f4⟩ := callD_sound T0_ok g _ _ _ _ hcall
 refine (appendSeq_none g cy w fn f1 f2 f3 (fun w' => ∃ G', G.le G' ∧ Inv G' h2 w' ∧ FrameOK F G' h2 w' ∧ Same w0 w') ?_).mono ?_
 ·intro W1 y hW1 _
  have x1 : Ext w W1 := by rw [hW1]; exact ((Ext.alloc _ _).trans (Ext.alloc _ _)).trans (Ext.alloc _ _)
  let F' : Nat → Option Obj := fun b => if b = w.heap.size ∨ b = w.heap.size + 1 ∨ b = w.heap.size + 2 then W1.heap[b]? else F b
  have hlt : ∀ b o, F b = some o → b < w.heap.size := fun b o h => (Array.getElem?_eq_some_iff.1 (hf b o h).1).1
  have hsz1 : W1.heap.size = w.heap.size + 3 := by rw [hW1]; simp
  have hfr : FrameOK F' G h W1 := by
   intro b o hb
   simp only [F'] at hb
   split at hb
   ·rename_i hb3
    refine ⟨hb, fun id ob r h1 h2 => ?_, fun q => ?_⟩
    ·obtain ⟨r', h3, h4⟩ := hi.obj id ob h1
     rw [h2] at h3
     injection h3 with h3
     subst h3
     have := h4.there
     omega
    ·cases hq : G.M b q with
     | none => rfl
     | some c => have := hi.there hq; omega
   ·exact (hf.ext x1) b o hb
  refine (f4 F' w0 G W1 _ (hi.ext x1) hfr (hsame.trans x1.same) (by simp [hy.size]; omega) (fun j x hj hfree => ?_)).mono ?_
  ·cases j with
   | zero => simp at hj; subst hj; exact .undef _
   | succ j =>
    have hj' : caps[j]? = some x := by simpa using hj
    have := hy.rel j x hj'
    have hjl : j < cy.size := by rw [← hy.size]; exact (List.getElem?_eq_some_iff.1 hj').1
    have e : (#[Value.func (.yield (w.heap.size + 2)) #[] #[]] ++ cy).getD (j + 1) Go.undef = cy.getD j Go.undef := by
     simp [Array.getElem?_append_right]
    rw [e]; exact this
  ·rintro e W2 ⟨cv, G', rfl, hG, hi2, hf2, hs2, _⟩
   have key : ∀ b, b = w.heap.size ∨ b = w.heap.size + 1 ∨ b = w.heap.size + 2 → ∃ o, F' b = some o ∧ W1.heap[b]? = some o := fun b hb => by
    have hl : b < W1.heap.size := by omega
    refine ⟨W1.heap[b], ?_, by simp [hl]⟩
    simp only [F']
    rw [if_pos hb]
    simp [hl]
   refine ⟨⟨cv, rfl⟩, fun j hj => ?_, fun W3 hW3 hs3 => ⟨G', hG, ?_, fun b o hb => ?_, hs2.trans hs3⟩⟩
   ·obtain ⟨o, k1, k2⟩ := key j hj
    rw [k2]; exact (hf2 j o k1).1
   ·refine Inv.others (B := fun j => j = w.heap.size + 1 ∨ j = w.heap.size + 2) hi2 (fun b hb => ?_) (fun b hb => ?_) (fun j hj => hW3 j (fun e => hj (.inl e)) (fun e => hj (.inr e)))
    ·obtain ⟨o, k1, k2⟩ := key b (.inr hb)
     exact (hf2 b o k1).2.1
    ·obtain ⟨o, k1, k2⟩ := key b (.inr hb)
     exact (hf2 b o k1).2.2
   ·have hbl := hlt b o hb
    have hFb : F' b = some o := by simp only [F']; rw [if_neg (by omega)]; exact hb
    obtain ⟨k1, k2⟩ := hf2 b o hFb
    exact ⟨by rw [hW3 b (by omega) (by omega)]; exact k1, k2⟩
 ·rintro e w' ⟨rfl, G', h1, h2, h3, h4⟩
  exact ⟨_, G', rfl, h1, h2, h3, h4, .lst (b := 0) (o := 0) (s := 0) (fun _ _ => Go.undef) rfl (by simp) (by simp) ⟨rfl, rfl⟩ (by simp) (by simp) (by simp) (by simp)⟩

end Go.Proofs.YtpbngohpklpalaaGreat

/- slices.AppendSeq over slices.Values: it hands back a new slice of the same numbers. -/
namespace Go.Proofs.YtpbngohpklpalaaGreat
open Go.LS Go.RowKit Go.Proofs Go.Shelf Go.Maps
def uptoZ (f : Nat → Int) (k : Nat) : List Int := (List.range k).map f
theorem uptoZ_succ (f : Nat → Int) (k : Nat) : uptoZ f (k + 1) = uptoZ f k ++ [f k] := by simp [uptoZ, List.range_succ]
theorem uptoZ_length (f : Nat → Int) (k : Nat) : (uptoZ f k).length = k := by simp [uptoZ]

set_option maxRecDepth 100000 in
set_option maxHeartbeats 2000000 in
theorem values1_in (F : Fence) (n : Nat) (hF : F.fn 221) (hro : F.round = none) (hn : 1 ≤ n) (l Bs n₀ b off len cap : Nat) (f : Nat → Int) (hreach : len * 8 ≤ 140737488351232) (hb : b < n₀) (W0 : World) (J : List Int → World → Prop)
  (hJ : ∀ pre W, J pre W → Below n₀ W0 W)
  (hY : ∀ pre x W, J pre W → pre.length < len → YieldAt F (n - 1) Tryz.prog l #[.int .i64 x] W fun e W' => e = .returned (.bool true) ∧ J (pre ++ [x]) W')
  (W : World) (hBs : W.cell? ⟨Bs, 0, none⟩ = some (.slice (some ⟨b, off, none⟩) len cap)) (hc : ∀ j, j < len → W0.cell? ⟨b, off + j, none⟩ = some (.int .i64 (f j))) (h0 : J [] W) :
  CallsIn F n Tryz.prog 221 #[.func (.yield l) #[] #[], .pointer (some ⟨Bs, 0, none⟩)] W fun e W' => (∃ v, e = .returned v) ∧ J (uptoZ f len) W' := by
 refine callsIn_of_wp Tryz.func221 rfl hF ?_ hro
 simp only [Tryz.ntmps221, List.size_toArray, List.length_cons, List.length_nil, Nat.reduceAdd, Nat.reduceSub, Array.replicate_succ, Array.replicate_zero, List.push_toArray, List.append_toArray, List.nil_append, List.cons_append]
 gi_wp2
 gi_loopw [7] (fun i wr => ∃ k : Nat, k ≤ len ∧ i = .int .i64 k ∧ J (uptoZ f k) wr)
  (fun i _ => len - (intOf i).toNat)
 case atStart => exact ⟨0, Nat.zero_le _, rfl, h0⟩
 case round =>
  obtain ⟨k, hk, rfl, hJs⟩ := hrel
  have hnx := hJ _ _ hJs
  have hcx : k < len → wr.cell? ⟨b, off + k, none⟩ = some (.int .i64 (f k)) := fun h => (hnx.cell (p := ⟨b, off + k, none⟩) hb).trans (hc k h)
  by_cases hlt : k < len
  ·obtain ⟨fn, tmps, assign, body, hy, hR⟩ := hY _ (f k) wr hJs (by rw [uptoZ_length]; exact hlt)
   have hcx' := hcx hlt
   gi_wp2
   refine hR.mono ?_
   rintro e W3 ⟨rfl, hJ3⟩
   gi_wp2
   go_roundw
   case rel => exact ⟨k + 1, by omega, by simp, by rw [uptoZ_succ]; exact hJ3⟩
   case measure => simp [intOf]; omega
  ·obtain rfl : k = len := by omega
   gi_wp2
   go_end0
   exact ⟨⟨_, rfl⟩, hJs⟩

def apAssign : Code := (Code.region 2 #[{ dst := some 5, op := Op.assign (Operand.tmp 7), type := 3, pos := "iter.go:51", after := #[], guard := none }] false)
def apBody : Code := (Code.block 1 (Code.region 3
 #[{ dst := some 8, op := Op.load 22 (Operand.tmp 2), type := 22, pos := "iter.go:52", after := #[], guard := none },
  { dst := some 9, op := Op.move (Operand.tmp 5), type := 3, pos := "iter.go:52", after := #[], guard := none },
  { dst := some 10, op := Op.buildSlice 22 1 #[(0, Operand.tmp 9)], type := 22, pos := "iter.go:52", after := #[{ on := 1, ground := Ground.data }], guard := none },
  { dst := some 11, op := Op.call { callee := Callee.builtin Builtin.append, args := #[Operand.tmp 8, Operand.tmp 10], argTypes := #[22, 22] }, type := 22, pos := "iter.go:52", after := #[{ on := 0, ground := Ground.data }, { on := 2, ground := Ground.data }], guard := none },
  { dst := none, op := Op.store 22 (Operand.tmp 2) (Operand.tmp 11), type := 0, pos := "iter.go:52", after := #[{ on := 3, ground := Ground.data }, { on := 3, ground := Ground.chain }, { on := 0, ground := Ground.phase }, { on := 1, ground := Ground.phase }, { on := 2, ground := Ground.phase }, { on := 3, ground := Ground.phase }], guard := none }] false))
def apRec (fn : FuncId) (sv : Value) (Bs D : Nat) (st : LoopState) (pend : Option Code) : Loop :=
 { state := st, pending := pend, fn, tmps := #[.slice none 0 0, sv, .pointer (some ⟨Bs, 0, none⟩), undef, .slice none 0 0, undef, sv, undef, undef, undef, undef, undef, undef], params := #[7], assign := apAssign, body := apBody, defers := D }
structure ApAt (w0 : World) (fn : FuncId) (sv : Value) (Bs l D : Nat) (ss : List Int) (W : World) : Prop where
 box : ∃ v, W.heap[Bs]? = some (.cells #[v] 22 (0, 0)) ∧ W.ownsRow w0.heap.size 3 1 v ss.length (ss.map (Value.int .i64)) ∧ (v = .slice none 0 0 ↔ ss = [])
 L : W.heap[l]? = some (.loop (apRec fn sv Bs D .ready none))
 K : W.heap[D]? = some (.deferred (some []))
 below : Below w0.heap.size w0 W
theorem grownBy_putObj' (W : World) (l : Nat) (o : Obj) : W.grownBy (W.putObj l o) (some l) :=
 ⟨rfl, rfl, rfl, by simp, fun k _ hk => World.putObj_heap_other (fun e => hk (by rw [e]))⟩
theorem grownBy_setCell0' (W : World) (b : Nat) (v : Value) : W.grownBy (W.setCell ⟨b, 0, none⟩ v) (some b) :=
 ⟨rfl, rfl, rfl, (KeepsWalks.setCell W _ v).size, fun k _ hk => Below.heap_setCell _ _ _ k (fun e => hk (by rw [e]))⟩
theorem ownsRow_ne' {W : World} {base : Nat} {e : TypeId} {size : Nat} {v : Value} {k : Nat} {xs : List Value} (h : W.ownsRow base e size v k xs) {j : Nat} {o : Obj} (hj : W.heap[j]? = some o) (hno : ∀ cur, o ≠ .cells cur e (0, 0)) :
  v.ownBlock = none ∨ v.ownBlock ≠ some j := by
 rcases h.2 with ⟨rfl, _⟩ | ⟨g, cap, cur, rfl, _, hgb, _⟩
 ·exact .inl rfl
 ·refine .inr fun e' => ?_
  have : g = j := by simpa [Value.ownBlock] using e'
  subst this; rw [hgb] at hj; cases hj; exact hno cur rfl
theorem cell_of_box' {W : World} {B : Nat} {v : Value} {t : TypeId} (h : W.heap[B]? = some (.cells #[v] t (0, 0))) : W.cell? ⟨B, 0, none⟩ = some v ∧ W.frozen? ⟨B, 0, none⟩ = false := by
 constructor <;> simp [World.cell?, World.frozen?, h]
theorem heap_setCell_box' {W : World} {B : Nat} {v : Value} {t : TypeId} (v' : Value) (h : W.heap[B]? = some (.cells #[v] t (0, 0))) : (W.setCell ⟨B, 0, none⟩ v').heap[B]? = some (.cells #[v'] t (0, 0)) := by
 obtain ⟨hlt, hk⟩ := Array.getElem?_eq_some_iff.1 h
 show (W.heap.modify B _)[B]? = _
 rw [Array.getElem?_eq_getElem (by rw [Array.size_modify]; exact hlt), Array.getElem_modify_self, hk]
 rfl
theorem info3 : (Tryz.prog.info? 3).map (fun i => (i.zero, i.size, i.bytes)) = some (some (.int .i64 0), 1, 8) := by kernel_rfl

set_option maxRecDepth 100000 in
set_option maxHeartbeats 2000000 in
theorem apYield (F : Fence) (m : Nat) (w0 : World) (fn : FuncId) (hfn : F.fn fn) (sv : Value) (Bs l D : Nat) (hBl : Bs ≠ l) (hDl : D ≠ l) (hDB : D ≠ Bs) (h0B : w0.heap.size ≤ Bs) (h0l : w0.heap.size ≤ l)
  (N : Nat) (hN : N ≤ maxLen) (hNb : N * 8 ≤ 140737488355328) (ss : List Int) (x : Int) (W : World) (h : ApAt w0 fn sv Bs l D ss W) (hlen : ss.length < N) :
  YieldAt F m Tryz.prog l #[.int .i64 x] W fun e W' => e = .returned (.bool true) ∧ ApAt w0 fn sv Bs l D (ss ++ [x]) W' := by
 obtain ⟨i0, hi, hz0, hz1, hz2⟩ := info_parts info3
 obtain ⟨v, hv, hrow, _⟩ := h.box
 refine ⟨fn, #[.slice none 0 0, sv, .pointer (some ⟨Bs, 0, none⟩), undef, .slice none 0 0, undef, sv, .int .i64 x, undef, undef, undef, undef, undef], apAssign, apBody, by simpa [apRec] using run_yield (P := Tryz.prog) (args := #[.int .i64 x]) h.L rfl, roundIn_of_wpIn hfn ?_⟩
 have hl : l < W.heap.size := (Array.getElem?_eq_some_iff.1 h.L).1
 have hbr := run_beginRound (P := Tryz.prog) h.L rfl
 obtain ⟨W2, hW2⟩ : ∃ W2, W.putObj l (.loop { apRec fn sv Bs D .ready none with state := .busy }) = W2 := ⟨_, rfl⟩
 rw [hW2] at hbr
 have hg2 : W.grownBy W2 (some l) := by rw [← hW2]; exact grownBy_putObj' _ _ _
 have hv2 : W2.heap[Bs]? = some (.cells #[v] 22 (0, 0)) := by rw [← hW2]; exact (World.putObj_heap_other hBl).trans hv
 have hK2 : W2.heap[D]? = some (.deferred (some [])) := by rw [← hW2]; exact (World.putObj_heap_other hDl).trans h.K
 have hL2 : W2.heap[l]? = some (.loop { apRec fn sv Bs D .ready none with state := .busy }) := by rw [← hW2]; exact World.putObj_heap_same hl
 have hrow2 : W2.ownsRow w0.heap.size 3 1 v ss.length (ss.map (Value.int .i64)) := hrow.kept hg2 (ownsRow_ne' hrow h.L (fun cur e => by cases e))
 have hb2 : Below w0.heap.size w0 W2 := h.below.grown hg2 h.below.size (fun k e => by cases e; exact h0l)
 obtain ⟨hc2, hf2⟩ := cell_of_box' hv2
 have hBlt : Bs < W2.heap.size := (Array.getElem?_eq_some_iff.1 hv2).1
 have hl2 : l < W2.heap.size := (Array.getElem?_eq_some_iff.1 hL2).1
 have hDlt : D < W2.heap.size := (Array.getElem?_eq_some_iff.1 hK2).1
 have ne_of : ∀ {j : Nat} {o : Obj}, W2.heap[j]? = some o → (∀ cur, o ≠ .cells cur 3 (0, 0)) → some j ≠ v.ownBlock := fun hj hno => by
  rcases ownsRow_ne' hrow2 hj hno with e | e
  ·rw [e]; simp
  ·exact fun e' => e e'.symm
 clear hW2
 unfold apAssign
 gi_wp2_with (rw [Oper.semAt_eq _ _ _ (fun c h => by cases h)]; go_simp; try go_bits)
 unfold apBody
 gi_wp2_with (first
  | (gi_at_builtin; refine wpListIn_append_own _ rfl _ _ 22 rfl w0.heap.size 3 i0 (.int .i64 0) 1 8 Tryz.underlying22 hi hz0 hz1 hz2 rfl (by decide) _ _ _ rfl (hrow2.alloc _) ⟨W2.heap.size, 0, none⟩ 1 1 [.int .i64 x] rfl rfl (cell_one_new _ _ _) (by simp [Value.oneCell']) (by omega) (by omega) (by have := hb2.size; simp; omega) ?_; intro v' w3 hown' hg3 hnil3
     have hv3 : w3.heap[Bs]? = some (.cells #[v] 22 (0, 0)) := (hg3.block Bs (by simp; omega) (ne_of hv2 (fun cur e => by cases e))).trans ((Below.heap_alloc _ _ Bs hBlt).trans hv2)
     obtain ⟨hc3, hf3⟩ := cell_of_box' hv3
     obtain ⟨g', cap', cur', rfl, hbase', hgb', hr1, hr2, hr3, hr4⟩ : ∃ g' cap' cur', v' = .slice (some ⟨g', 0, none⟩) (ss.length + 1) cap' ∧ w0.heap.size ≤ g' ∧ w3.heap[g']? = some (.cells cur' 3 (0, 0)) ∧ ss.length + 1 ≤ cap' ∧ cap' ≤ maxLen ∧ cur'.size = cap' * 1 ∧ cur'.toList.take ((ss.length + 1) * 1) = ss.map (Value.int .i64) ++ [.int .i64 x] := by
      rcases hown'.2 with ⟨_, h0⟩ | h'
      ·exact absurd h0 (by omega)
      ·exact h'
     simp only [Act.put, List.setIfInBounds_toArray, List.set_cons_succ, List.set_cons_zero])
  | (rw [Oper.semAt_eq _ _ _ (fun c h => by cases h)]; go_simp; try go_bits))
 have hg3' : (W2.alloc (.cells #[.int .i64 x] 3)).grownBy w3 v.ownBlock := hg3
 have hL3 : w3.heap[l]? = some (.loop { apRec fn sv Bs D .ready none with state := .busy }) := (hg3'.block l (by simp; omega) (ne_of hL2 (fun cur e => by cases e))).trans ((Below.heap_alloc _ _ l hl2).trans hL2)
 have hK3 : w3.heap[D]? = some (.deferred (some [])) := (hg3'.block D (by simp; omega) (ne_of hK2 (fun cur e => by cases e))).trans ((Below.heap_alloc _ _ D hDlt).trans hK2)
 obtain ⟨w4, hw4⟩ : ∃ w4, w3.setCell ⟨Bs, 0, none⟩ (.slice (some ⟨g', 0, none⟩) (ss.length + 1) cap') = w4 := ⟨_, rfl⟩
 rw [hw4]
 have hg4 : w3.grownBy w4 (some Bs) := by rw [← hw4]; exact grownBy_setCell0' _ _ _
 have hv4 : w4.heap[Bs]? = some (.cells #[.slice (some ⟨g', 0, none⟩) (ss.length + 1) cap'] 22 (0, 0)) := by rw [← hw4]; exact heap_setCell_box' _ hv3
 have hL4 : w4.heap[l]? = some (.loop { apRec fn sv Bs D .ready none with state := .busy }) := (hg4.block l (Array.getElem?_eq_some_iff.1 hL3).1 (fun e => hBl (by cases e; rfl))).trans hL3
 have hK4 : w4.heap[D]? = some (.deferred (some [])) := (hg4.block D (Array.getElem?_eq_some_iff.1 hK3).1 (fun e => hDB (by cases e; rfl))).trans hK3
 have hrow4 := hown'.kept hg4 (ownsRow_ne' hown' hv3 (fun cur e => by cases e))
 have hl4 : l < w4.heap.size := (Array.getElem?_eq_some_iff.1 hL4).1
 have hb3 : Below w0.heap.size w0 w3 := (hb2.alloc hb2.size _).grown hg3' (by have := hb2.size; simp; omega) (fun k e => (hrow2.lt k e).1)
 have hb4 : Below w0.heap.size w0 w4 := hb3.grown hg4 hb3.size (fun k e => by cases e; exact h0B)
 clear hw4
 refine ⟨_, _, run_endRound none hL4, rfl, ⟨⟨_, (World.putObj_heap_other hBl).trans hv4, ?_, by simp⟩, World.putObj_heap_same hl4, (World.putObj_heap_other hDl).trans hK4, hb4.grown (grownBy_putObj' _ _ _) hb4.size (fun k e => by cases e; exact h0l)⟩⟩
 have := hrow4.kept (grownBy_putObj' w4 l (.loop { { apRec fn sv Bs D .ready none with state := .busy } with state := if (none : Option Code).isNone then .ready else .done, pending := none })) (ownsRow_ne' hrow4 hL4 (fun cur e => by cases e))
 simpa using this

set_option maxRecDepth 100000 in
set_option maxHeartbeats 2000000 in
theorem appendSeq_values (w : World) (Bs b off len cap : Nat) (f : Nat → Int) (hlen : len ≤ 4096) (hb : b < w.heap.size) (hBw : Bs < w.heap.size) (hBs : w.cell? ⟨Bs, 0, none⟩ = some (.slice (some ⟨b, off, none⟩) len cap)) (hc : ∀ j, j < len → w.cell? ⟨b, off + j, none⟩ = some (.int .i64 (f j))) :
  Calls Tryz.prog 234 #[.slice none 0 0, .func (.func 221) #[] #[.pointer (some ⟨Bs, 0, none⟩)]] w fun e w' => ∃ v : Value, e = .returned v ∧ w'.ownsRow w.heap.size 3 1 v len ((uptoZ f len).map (Value.int .i64)) ∧ (v = .slice none 0 0 ↔ len = 0) ∧ Below w.heap.size w w' := by
 refine (callsIn_wide (n := 3)).1 ?_
 refine callsIn_of_wp_marks Tryz.func234 rfl trivial ?_ rfl
 simp only [Tryz.ntmps234, List.size_toArray, List.length_cons, List.length_nil, Nat.reduceAdd, Nat.reduceSub, Array.replicate_succ, Array.replicate_zero, List.push_toArray, List.append_toArray, List.nil_append, List.cons_append]
 gi_wp2
 refine wpIn_rangeFunc_same ?_
 intro fn hfn
 obtain ⟨W0, hW0⟩ : ∃ W0, w.alloc (.cells #[.slice none 0 0] 22) = W0 := ⟨_, rfl⟩
 have hs0 : W0.heap.size = w.heap.size + 1 := by rw [← hW0]; simp
 have hv0 : W0.heap[w.heap.size]? = some (.cells #[.slice none 0 0] 22 (0, 0)) := by rw [← hW0]; exact World.alloc_heap_new w _
 have hb0 : Below w.heap.size w W0 := by rw [← hW0]; exact (Below.refl _ w).alloc (Nat.le_refl _) _
 rw [hW0]
 obtain ⟨sv, hsv⟩ : ∃ sv, Value.func (.func 221) #[] #[.pointer (some ⟨Bs, 0, none⟩)] = sv := ⟨_, rfl⟩
 obtain ⟨W1, hW1⟩ : ∃ W1, (W0.alloc (.deferred (some []))).alloc (.loop (apRec fn sv w.heap.size W0.heap.size .ready none)) = W1 := ⟨_, rfl⟩
 have hold : ∀ k, k < W0.heap.size → W1.heap[k]? = W0.heap[k]? := fun k hk => by
  rw [← hW1]; exact (Below.heap_alloc _ _ k (by simp; omega)).trans (Below.heap_alloc _ _ k hk)
 have hb1 : Below w.heap.size w W1 := by rw [← hW1]; exact (hb0.alloc hb0.size _).alloc (by have := hb0.size; simp; omega) _
 have hM : ApAt w fn sv w.heap.size (W0.heap.size + 1) W0.heap.size [] W1 :=
  ⟨⟨_, (hold w.heap.size (by omega)).trans hv0, ⟨rfl, .inl ⟨rfl, rfl⟩⟩, by simp⟩,
    by rw [← hW1]; have := World.alloc_heap_new (W0.alloc (.deferred (some []))) (.loop (apRec fn sv w.heap.size W0.heap.size .ready none)); rwa [World.size_alloc] at this,
    by rw [← hW1]; exact (Below.heap_alloc _ _ _ (by simp)).trans (World.alloc_heap_new W0 _), hb1⟩
 refine ⟨W0.heap.size + 1, [{ target := .collected W0.heap.size, args := #[] }], W1, { target := .fn (.func 221) #[.pointer (some ⟨Bs, 0, none⟩)], args := #[.func (.yield (W0.heap.size + 1)) #[] #[]] }, 221,
  #[.func (.yield (W0.heap.size + 1)) #[] #[]] ++ #[.pointer (some ⟨Bs, 0, none⟩)], ?_, ?_, ?_, ?_, fun _ => (by omega), ?_⟩
 ·rw [← hW1, ← hsv]; exact run_enterLoop_outer _ _ _ _ _
 ·simp [resolve, go_sem]
 ·intro f' hf'; exact trivial
 ·have eg := enters_of Tryz.func221 (by kernel_rfl) rfl
  simp [invoke, go_sem, eg]
 ·refine (values1_in _ _ trivial rfl (by omega) (W0.heap.size + 1) Bs w.heap.size b off len cap f (by omega) hb w (ApAt w fn sv w.heap.size (W0.heap.size + 1) W0.heap.size) (fun pre W h => h.below)
   (fun pre x W hJ hl => apYield _ _ w fn hfn _ w.heap.size (W0.heap.size + 1) W0.heap.size (by omega) (by omega) (by omega) (Nat.le_refl _) (by omega) 4096 (by decide) (by decide) pre x W hJ (by omega))
   W1 ((hb1.cell (p := ⟨Bs, 0, none⟩) hBw).trans hBs) hc hM).mono ?_
  rintro e W2 ⟨⟨v0, rfl⟩, h2⟩
  obtain ⟨v, hv, hrow, hnil⟩ := h2.box
  have hend := run_endLoop (P := Tryz.prog) h2.L (by simp [apRec])
  obtain ⟨W3, hW3⟩ : ∃ W3, W2.putObj (W0.heap.size + 1) (.loop { apRec fn sv w.heap.size W0.heap.size .ready none with state := .exhausted }) = W3 := ⟨_, rfl⟩
  rw [hW3] at hend
  have hg3 : W2.grownBy W3 (some (W0.heap.size + 1)) := by rw [← hW3]; exact grownBy_putObj' _ _ _
  have hv3 : W3.heap[w.heap.size]? = some (.cells #[v] 22 (0, 0)) := by rw [← hW3]; exact (World.putObj_heap_other (by omega)).trans hv
  have hK3 : W3.heap[W0.heap.size]? = some (.deferred (some [])) := by rw [← hW3]; exact (World.putObj_heap_other (by omega)).trans h2.K
  have hrow3 := hrow.kept hg3 (ownsRow_ne' hrow h2.L (fun cur e => by cases e))
  have hb3 : Below w.heap.size w W3 := h2.below.grown hg3 h2.below.size (fun k e => by cases e; omega)
  obtain ⟨hc3, hf3⟩ := cell_of_box' hv3
  clear hW3
  refine ⟨none, W3, hend, ?_⟩
  gi_wp2
  rw [← hs0]
  refine ⟨by simp, .inl ⟨_, _, rfl, run_takeDeferred hK3, ?_⟩⟩
  rw [uptoZ_length] at hrow3
  exact ⟨_, results_tmp rfl _ _ _, v, rfl, hrow3.kept (grownBy_putObj' _ _ _) (ownsRow_ne' hrow3 hK3 (fun cur e => by cases e)), by rw [hnil, ← List.length_eq_zero_iff, uptoZ_length], hb3.grown (grownBy_putObj' _ _ _) hb3.size (fun k e => by cases e; omega)⟩

end Go.Proofs.YtpbngohpklpalaaGreat

/- slices.AppendSeq over slices.Values, as the abstract machine has it; the table. -/
namespace Go.Proofs.YtpbngohpklpalaaGreat
open Go.LS Go.RowKit Go.Proofs
def numB : List V → Bool
 | [.int .i64 _] => true
 | _ => false
def numOf : List V → Int
 | [.int .i64 n] => n
 | _ => 0
theorem numB_of {e : List V} (h : numB e = true) : e = [.int .i64 (numOf e)] := by
 unfold numB at h
 split at h
 ·rfl
 ·cases h
noncomputable def appendG (args : List V) (h : LS.Heap) : Option (V × LS.Heap) :=
 match args with
 | [.lst .nil [], .fn g [] [.obj id 0]] => if g = 221 then
   (match h.objs id with
   | some (.var [.lst _ (e :: l)]) => if l.length < 4096 ∧ (e :: l).all numB = true then some (.row h.next 0 (l.length + 1) (l.length + 1), h.new (.row (e :: l))) else none
   | _ => appendE args h)
   else appendE args h
 | _ => appendE args h
theorem inv_newRow {F : Nat → Option Obj} {G : Ghost} {h : LS.Heap} {w w' : World} (hi : Inv G h w) (hf : FrameOK F G h w) (hx : Ext w w') {l : List (List V)} {g cap : Nat} {ca : Array Value} {e : TypeId} (hg : w.heap.size ≤ g)
  (hb : w'.heap[g]? = some (.cells ca e (0, 0))) (hcap : l.length ≤ cap) (hsz : cap * 1 ≤ ca.size) (hl : ∀ (i : Nat) (el : List V), l[i]? = some el → el.length = 1 ∧ ∀ (j : Nat) (x : V), el[j]? = some x → x.leaf = true ∧ ∀ G', R G' x (ca.getD (i * 1 + j) Go.undef)) :
  ∃ G', G.le G' ∧ Inv G' (h.new (.row l)) w' ∧ FrameOK F G' (h.new (.row l)) w' ∧ ∀ n, n ≤ cap → R G' (.row h.next 0 n n) (.slice (some ⟨g, 0, none⟩) n cap) := by
 have hr0 : G.ρ h.next = none := hi.fresh _ (Nat.le_refl _)
 have hle : G.le ⟨G.M, upd G.ρ h.next (some ⟨g, 1, cap⟩)⟩ := ⟨fun _ _ _ h => h, fun id r hr => by
  simp only [upd]
  split
  ·rename_i e; subst e; rw [hr0] at hr; cases hr
  ·exact hr⟩
 have hM : ∀ q, G.M g q = none := fun q => by
  cases hq : G.M g q with
  | none => rfl
  | some c => have := hi.there hq; omega
 have old : ∀ id ob, (h.new (.row l)).objs id = some ob → (id = h.next ∧ ob = .row l) ∨ (id ≠ h.next ∧ h.objs id = some ob) := fun id ob ho => by
  simp only [Heap.new, upd] at ho
  split at ho
  ·rename_i e; injection ho with ho; exact .inl ⟨e, ho.symm⟩
  ·rename_i e; exact .inr ⟨e, ho⟩
 have recOf : ∀ id ob r, h.objs id = some ob → (upd G.ρ h.next (some ⟨g, 1, cap⟩)) id = some r → id ≠ h.next → G.ρ id = some r := fun id ob r _ hr hne => by
  simp only [upd] at hr
  rw [if_neg hne] at hr
  exact hr
 have far : ∀ id ob r, h.objs id = some ob → G.ρ id = some r → r.b ≠ g := fun id ob r ho hr => by
  obtain ⟨r', h1, h2⟩ := hi.obj id ob ho
  rw [hr] at h1
  injection h1 with h1
  subst h1
  have := h2.there
  omega
 refine ⟨⟨G.M, upd G.ρ h.next (some ⟨g, 1, cap⟩)⟩, hle, ⟨fun b o c hc => hx.cell (hi.imm b o c hc), ?_, ?_, ?_⟩, ?_, ?_⟩
 ·intro id ob ho
  rcases old id ob ho with ⟨rfl, rfl⟩ | ⟨hne, ho⟩
  ·exact ⟨⟨g, 1, cap⟩, by simp [upd], ca, e, hb, hsz, hcap, fun i el hi' => ⟨(hl i el hi').1, fun j x hj => ⟨((hl i el hi').2 j x hj).1, ((hl i el hi').2 j x hj).2 _⟩⟩, hM⟩
  ·obtain ⟨r, h1, h2⟩ := hi.obj id ob ho
   exact ⟨r, hle.r _ _ h1, (h2.ext hx).ghost hle (fun o h => h)⟩
 ·intro id hid
  have : id ≠ h.next := by simp only [Heap.new] at hid; omega
  simp only [upd]
  rw [if_neg this]
  exact hi.fresh id (by simp only [Heap.new] at hid; omega)
 ·intro id id' ob ob' r r' h1 h2 h3 h4 h5
  rcases old id ob h1 with ⟨rfl, rfl⟩ | ⟨n1, o1⟩
  ·rcases old id' ob' h2 with ⟨rfl, rfl⟩ | ⟨n2, o2⟩
   ·rfl
   ·have e3 : r = ⟨g, 1, cap⟩ := by simpa [upd] using h3.symm
    subst e3
    exact absurd h5.symm (far _ _ _ o2 (recOf _ _ _ o2 h4 n2))
  ·rcases old id' ob' h2 with ⟨rfl, rfl⟩ | ⟨n2, o2⟩
   ·have e4 : r' = ⟨g, 1, cap⟩ := by simpa [upd] using h4.symm
    subst e4
    exact absurd h5 (far _ _ _ o1 (recOf _ _ _ o1 h3 n1))
   ·exact hi.sep _ _ _ _ _ _ o1 o2 (recOf _ _ _ o1 h3 n1) (recOf _ _ _ o2 h4 n2) h5
 ·intro b o hb'
  obtain ⟨f1, f2, f3⟩ := hf b o hb'
  refine ⟨hx.heap _ _ f1, fun id ob r ho hr => ?_, f3⟩
  rcases old id ob ho with ⟨rfl, rfl⟩ | ⟨hne, ho⟩
  ·have e3 : r = ⟨g, 1, cap⟩ := by simpa [upd] using hr.symm
   subst e3
   have := (Array.getElem?_eq_some_iff.1 f1).1
   show g ≠ b
   omega
  ·exact f2 id ob r ho (recOf _ _ _ ho hr hne)
 ·intro n hn
  exact .row (r := ⟨g, 1, cap⟩) (by simp [upd]) (Nat.le_refl _) hn (by simp) (fun _ => by simp)
theorem append_servesG {args : List V} {h h' : LS.Heap} {v : V} (he : appendG args h = some (v, h')) : Serves Tryz.prog 234 args h v h' := by
 unfold appendG at he
 split at he
 case h_2 => exact append_serves he
 rename_i g id
 split at he
 case isFalse => exact append_serves he
 rename_i hgv
 subst hgv
 split at he
 case h_2 => exact append_serves he
 rename_i tg e l hob
 split at he
 case isFalse => cases he
 rename_i hcond
 obtain ⟨hlen, hall⟩ := hcond
 injection he with he
 injection he with e1 e2
 subst e1 e2
 intro F w0 G w cargs hi hf hsame hsz hargs
 obtain ⟨c0, c1, rfl⟩ : ∃ c0 c1, cargs = #[c0, c1] := by
  obtain ⟨l⟩ := cargs
  match l, hsz with
  | [a, b], _ => exact ⟨a, b, rfl⟩
 have r0 : R G (.lst .nil []) c0 := hargs 0 _ rfl rfl
 have r1 : R G (.fn 221 [] [.obj id 0]) c1 := hargs 1 _ rfl rfl
 obtain ⟨a, cap, b, o, s, f, rfl, _, _, ht, _⟩ := r0.lst_inv
 obtain ⟨rfl, rfl⟩ : a = none ∧ cap = 0 := ht
 obtain ⟨cx, cy, rfl, hx, hy⟩ := r1.fn_inv
 have hcx : cx = #[] := Array.eq_empty_of_size_eq_zero hx.size.symm
 subst hcx
 obtain ⟨p, rfl⟩ : ∃ p, cy = #[p] := by
  obtain ⟨l⟩ := cy
  match l, hy.size with
  | [a], _ => exact ⟨a, rfl⟩
 have rp : R G (.obj id 0) p := hy.rel 0 _ rfl
 obtain ⟨rc, hrc, hob2⟩ := hi.obj id _ hob
 have hp : p = .pointer (some ⟨rc.b, 0, none⟩) := by
  cases rp with
  | obj h1 => rw [hrc] at h1; injection h1 with h1; subst h1; rfl
 subst hp
 obtain ⟨cs, ty, hb1, hcr, hnoM⟩ := hob2
 obtain ⟨sv, rfl⟩ : ∃ sv, cs = #[sv] := by
  obtain ⟨l⟩ := cs
  match l, hcr.size with
  | [a], _ => exact ⟨a, rfl⟩
 have rl : R G (.lst tg (e :: l)) sv := hcr.rel 0 _ rfl
 cases rl with
 | lst c hl1 hl2 hl3 hl4 hl5 hl6 hl7 hl8 =>
 rename_i a' len' cap' b' o' s'
 subst hl1
 obtain rfl := hl3 (by simp)
 have hnum : ∀ (i : Nat) (el : List V), (e :: l)[i]? = some el → el = [.int .i64 (numOf el)] := fun i el hel => numB_of (List.all_eq_true.1 hall el (List.mem_of_getElem? hel))
 have hs1 : s' = 1 := by have := hl5 0 e rfl; rw [hnum 0 e rfl] at this; exact this.symm
 subst hs1
 have hcell : ∀ i, i < (e :: l).length → w.cell? ⟨b', o' + i, none⟩ = some (.int .i64 (numOf ((e :: l).getD i []))) ∧ b' < w.heap.size := fun i hi' => by
  have hel : (e :: l)[i]? = some ((e :: l).getD i []) := by rw [List.getD_eq_getElem?_getD, List.getElem?_eq_getElem hi']; rfl
  have h0 : ((e :: l).getD i [])[0]? = some (.int .i64 (numOf ((e :: l).getD i []))) := by rw [hnum i _ hel]; rfl
  have hM := hl6 i _ 0 _ hel h0
  have hR := hl8 i _ 0 _ hel h0
  have : c i 0 = .int .i64 (numOf ((e :: l).getD i [])) := by
   generalize c i 0 = q at hR
   cases hR; rfl
  rw [this] at hM
  have h1 := hi.imm _ _ _ hM
  rw [Nat.mul_one, Nat.add_zero] at h1
  exact ⟨h1, hi.there hM⟩
 have hbw := (hcell 0 (by simp)).2
 have hbw2 : rc.b < w.heap.size := (Array.getElem?_eq_some_iff.1 hb1).1
 refine (appendSeq_values w rc.b b' o' (e :: l).length cap' (fun i => numOf ((e :: l).getD i [])) (by simp; omega) hbw hbw2 (by simp [World.cell?, hb1]) (fun j hj => (hcell j hj).1)).mono ?_
 rintro ed w' ⟨v, rfl, hown, hnil, hbl⟩
 rcases hown.2 with ⟨_, h0⟩ | ⟨g, cap2, cur, rfl, hg, hgb, q1, q2, q3, q4⟩
 ·simp at h0
 have hx : Ext w w' := ⟨fun k ob hk => by rw [hbl.block k (Array.getElem?_eq_some_iff.1 hk).1]; exact hk, hbl.os, hbl.tape, hbl.output, Shapes.of fun k ob hk => by rw [hbl.block k (Array.getElem?_eq_some_iff.1 hk).1]; exact hk⟩
 obtain ⟨G', g1, g2, g3, g4⟩ := inv_newRow hi hf hx (l := e :: l) hg hgb q1 (by omega) (fun i el hel => by
  have hil : i < (e :: l).length := (List.getElem?_eq_some_iff.1 hel).1
  have he1 := hnum i el hel
  refine ⟨by rw [he1]; rfl, fun j x hj => ?_⟩
  rw [he1] at hj
  cases j with
  | succ j => simp at hj
  | zero =>
   simp at hj
   subst hj
   refine ⟨rfl, fun G' => ?_⟩
   have hq : cur.getD (i * 1 + 0) Go.undef = .int .i64 (numOf el) := by
    have e1 : cur.toList[i]? = ((uptoZ (fun i => numOf ((e :: l).getD i [])) (e :: l).length).map (Value.int .i64))[i]? := by
     rw [← q4, List.getElem?_take]
     rw [if_pos (by omega)]
    have e2 : ((uptoZ (fun i => numOf ((e :: l).getD i [])) (e :: l).length).map (Value.int .i64))[i]? = some (.int .i64 (numOf el)) := by
     have : (e :: l).getD i [] = el := by rw [List.getD_eq_getElem?_getD, hel]; rfl
     rw [List.getElem?_map, uptoZ, List.getElem?_map, List.getElem?_range hil]
     simp only [Option.map_some, this]
    rw [e2] at e1
    rw [Array.getElem?_toList] at e1
    simp [e1]
   rw [hq]
   exact .int _ _)
 refine ⟨_, G', rfl, g1, g2, g3, hsame.trans hx.same, g4 _ q1⟩
noncomputable def T : FuncId → Option AFn := fun f => if f = 234 then some { a234 with ext := some appendG } else T0 f
theorem T_of {k : FuncId} (h : k ≠ 234) : T k = T0 k := if_neg h
theorem T_ok : TabOK Tryz.prog T := by
 refine ⟨T_mixed, fun f af hf => ?_, fun f af e hf he => ?_⟩
 ·unfold T at hf
  split at hf
  ·rename_i h
   injection hf with hf
   subst h hf
   obtain ⟨fn, c, h1, h2, h3, h4⟩ := T0_ok.fn _ _ z234
   exact ⟨fn, c, h1, h2, h3, fun h => by cases h⟩
  ·exact T0_ok.fn f af hf
 ·unfold T at hf
  split at hf
  ·rename_i h
   injection hf with hf
   subst h hf
   injection he with he
   subst he
   exact fun args h v h' _ hr => append_servesG hr
  ·exact T0_ok.ext f af e hf he

end Go.Proofs.YtpbngohpklpalaaGreat

/- The table, function by function: printed by mkcode.py. -/
namespace Go.Proofs.YtpbngohpklpalaaGreat
open Go.LS
theorem t3 : T 3 = some a3 := (T_of (by decide)).trans z3
theorem t7 : T 7 = some a7 := (T_of (by decide)).trans z7
theorem t15 : T 15 = some a15 := (T_of (by decide)).trans z15
theorem t16 : T 16 = some a16 := (T_of (by decide)).trans z16
theorem t17 : T 17 = some a17 := (T_of (by decide)).trans z17
theorem t18 : T 18 = some a18 := (T_of (by decide)).trans z18
theorem t19 : T 19 = some a19 := (T_of (by decide)).trans z19
theorem t20 : T 20 = some a20 := (T_of (by decide)).trans z20
theorem t21 : T 21 = some a21 := (T_of (by decide)).trans z21
theorem t22 : T 22 = some a22 := (T_of (by decide)).trans z22
theorem t24 : T 24 = some a24 := (T_of (by decide)).trans z24
theorem t26 : T 26 = some a26 := (T_of (by decide)).trans z26
theorem t28 : T 28 = some a28 := (T_of (by decide)).trans z28
theorem t29 : T 29 = some a29 := (T_of (by decide)).trans z29
theorem t30 : T 30 = some a30 := (T_of (by decide)).trans z30
theorem t41 : T 41 = some a41 := (T_of (by decide)).trans z41
theorem t52 : T 52 = some a52 := (T_of (by decide)).trans z52
theorem t53 : T 53 = some a53 := (T_of (by decide)).trans z53
theorem t54 : T 54 = some a54 := (T_of (by decide)).trans z54
theorem t55 : T 55 = some a55 := (T_of (by decide)).trans z55
theorem t56 : T 56 = some a56 := (T_of (by decide)).trans z56
theorem t57 : T 57 = some a57 := (T_of (by decide)).trans z57
theorem t58 : T 58 = some a58 := (T_of (by decide)).trans z58
theorem t59 : T 59 = some a59 := (T_of (by decide)).trans z59
theorem t60 : T 60 = some a60 := (T_of (by decide)).trans z60
theorem t61 : T 61 = some a61 := (T_of (by decide)).trans z61
theorem t62 : T 62 = some a62 := (T_of (by decide)).trans z62
theorem t63 : T 63 = some a63 := (T_of (by decide)).trans z63
theorem t64 : T 64 = some a64 := (T_of (by decide)).trans z64
theorem t66 : T 66 = some a66 := (T_of (by decide)).trans z66
theorem t67 : T 67 = some a67 := (T_of (by decide)).trans z67
theorem t69 : T 69 = some a69 := (T_of (by decide)).trans z69
theorem t70 : T 70 = some a70 := (T_of (by decide)).trans z70
theorem t71 : T 71 = some a71 := (T_of (by decide)).trans z71
theorem t72 : T 72 = some a72 := (T_of (by decide)).trans z72
theorem t80 : T 80 = some a80 := (T_of (by decide)).trans z80
theorem t81 : T 81 = some a81 := (T_of (by decide)).trans z81
theorem t82 : T 82 = some a82 := (T_of (by decide)).trans z82
theorem t85 : T 85 = some a85 := (T_of (by decide)).trans z85
theorem t87 : T 87 = some a87 := (T_of (by decide)).trans z87
theorem t88 : T 88 = some a88 := (T_of (by decide)).trans z88
theorem t89 : T 89 = some a89 := (T_of (by decide)).trans z89
theorem t90 : T 90 = some a90 := (T_of (by decide)).trans z90
theorem t91 : T 91 = some a91 := (T_of (by decide)).trans z91
theorem t92 : T 92 = some a92 := (T_of (by decide)).trans z92
theorem t93 : T 93 = some a93 := (T_of (by decide)).trans z93
theorem t94 : T 94 = some a94 := (T_of (by decide)).trans z94
theorem t96 : T 96 = some a96 := (T_of (by decide)).trans z96
theorem t102 : T 102 = some a102 := (T_of (by decide)).trans z102
theorem t105 : T 105 = some a105 := (T_of (by decide)).trans z105
theorem t112 : T 112 = some a112 := (T_of (by decide)).trans z112
theorem t113 : T 113 = some a113 := (T_of (by decide)).trans z113
theorem t114 : T 114 = some a114 := (T_of (by decide)).trans z114
theorem t115 : T 115 = some a115 := (T_of (by decide)).trans z115
theorem t116 : T 116 = some a116 := (T_of (by decide)).trans z116
theorem t117 : T 117 = some a117 := (T_of (by decide)).trans z117
theorem t118 : T 118 = some a118 := (T_of (by decide)).trans z118
theorem t119 : T 119 = some a119 := (T_of (by decide)).trans z119
theorem t120 : T 120 = some a120 := (T_of (by decide)).trans z120
theorem t121 : T 121 = some a121 := (T_of (by decide)).trans z121
theorem t122 : T 122 = some a122 := (T_of (by decide)).trans z122
theorem t123 : T 123 = some a123 := (T_of (by decide)).trans z123
theorem t127 : T 127 = some a127 := (T_of (by decide)).trans z127
theorem t128 : T 128 = some a128 := (T_of (by decide)).trans z128
theorem t129 : T 129 = some a129 := (T_of (by decide)).trans z129
theorem t130 : T 130 = some a130 := (T_of (by decide)).trans z130
theorem t138 : T 138 = some a138 := (T_of (by decide)).trans z138
theorem t139 : T 139 = some a139 := (T_of (by decide)).trans z139
theorem t140 : T 140 = some a140 := (T_of (by decide)).trans z140
theorem t141 : T 141 = some a141 := (T_of (by decide)).trans z141
theorem t142 : T 142 = some a142 := (T_of (by decide)).trans z142
theorem t143 : T 143 = some a143 := (T_of (by decide)).trans z143
theorem t144 : T 144 = some a144 := (T_of (by decide)).trans z144
theorem t145 : T 145 = some a145 := (T_of (by decide)).trans z145
theorem t146 : T 146 = some a146 := (T_of (by decide)).trans z146
theorem t147 : T 147 = some a147 := (T_of (by decide)).trans z147
theorem t149 : T 149 = some a149 := (T_of (by decide)).trans z149
theorem t156 : T 156 = some a156 := (T_of (by decide)).trans z156
theorem t157 : T 157 = some a157 := (T_of (by decide)).trans z157
theorem t158 : T 158 = some a158 := (T_of (by decide)).trans z158
theorem t159 : T 159 = some a159 := (T_of (by decide)).trans z159
theorem t160 : T 160 = some a160 := (T_of (by decide)).trans z160
theorem t165 : T 165 = some a165 := (T_of (by decide)).trans z165
theorem t166 : T 166 = some a166 := (T_of (by decide)).trans z166
theorem t167 : T 167 = some a167 := (T_of (by decide)).trans z167
theorem t168 : T 168 = some a168 := (T_of (by decide)).trans z168
theorem t169 : T 169 = some a169 := (T_of (by decide)).trans z169
theorem t170 : T 170 = some a170 := (T_of (by decide)).trans z170
theorem t171 : T 171 = some a171 := (T_of (by decide)).trans z171
theorem t175 : T 175 = some a175 := (T_of (by decide)).trans z175
theorem t176 : T 176 = some a176 := (T_of (by decide)).trans z176
theorem t177 : T 177 = some a177 := (T_of (by decide)).trans z177
theorem t178 : T 178 = some a178 := (T_of (by decide)).trans z178
theorem t181 : T 181 = some a181 := (T_of (by decide)).trans z181
theorem t182 : T 182 = some a182 := (T_of (by decide)).trans z182
theorem t183 : T 183 = some a183 := (T_of (by decide)).trans z183
theorem t185 : T 185 = some a185 := (T_of (by decide)).trans z185
theorem t186 : T 186 = some a186 := (T_of (by decide)).trans z186
theorem t187 : T 187 = some a187 := (T_of (by decide)).trans z187
theorem t188 : T 188 = some a188 := (T_of (by decide)).trans z188
theorem t189 : T 189 = some a189 := (T_of (by decide)).trans z189
theorem t190 : T 190 = some a190 := (T_of (by decide)).trans z190
theorem t191 : T 191 = some a191 := (T_of (by decide)).trans z191
theorem t192 : T 192 = some a192 := (T_of (by decide)).trans z192
theorem t193 : T 193 = some a193 := (T_of (by decide)).trans z193
theorem t194 : T 194 = some a194 := (T_of (by decide)).trans z194
theorem t195 : T 195 = some a195 := (T_of (by decide)).trans z195
theorem t196 : T 196 = some a196 := (T_of (by decide)).trans z196
theorem t197 : T 197 = some a197 := (T_of (by decide)).trans z197
theorem t198 : T 198 = some a198 := (T_of (by decide)).trans z198
theorem t199 : T 199 = some a199 := (T_of (by decide)).trans z199
theorem t200 : T 200 = some a200 := (T_of (by decide)).trans z200
theorem t201 : T 201 = some a201 := (T_of (by decide)).trans z201
theorem t202 : T 202 = some a202 := (T_of (by decide)).trans z202
theorem t203 : T 203 = some a203 := (T_of (by decide)).trans z203
theorem t204 : T 204 = some a204 := (T_of (by decide)).trans z204
theorem t205 : T 205 = some a205 := (T_of (by decide)).trans z205
theorem t206 : T 206 = some a206 := (T_of (by decide)).trans z206
theorem t207 : T 207 = some a207 := (T_of (by decide)).trans z207
theorem t208 : T 208 = some a208 := (T_of (by decide)).trans z208
theorem t209 : T 209 = some a209 := (T_of (by decide)).trans z209
theorem t210 : T 210 = some a210 := (T_of (by decide)).trans z210
theorem t211 : T 211 = some a211 := (T_of (by decide)).trans z211
theorem t212 : T 212 = some a212 := (T_of (by decide)).trans z212
theorem t213 : T 213 = some a213 := (T_of (by decide)).trans z213
theorem t214 : T 214 = some a214 := (T_of (by decide)).trans z214
theorem t215 : T 215 = some a215 := (T_of (by decide)).trans z215
theorem t216 : T 216 = some a216 := (T_of (by decide)).trans z216
theorem t217 : T 217 = some a217 := (T_of (by decide)).trans z217
theorem t218 : T 218 = some a218 := (T_of (by decide)).trans z218
theorem t219 : T 219 = some a219 := (T_of (by decide)).trans z219
theorem t220 : T 220 = some a220 := (T_of (by decide)).trans z220
theorem t221 : T 221 = some a221 := (T_of (by decide)).trans z221
theorem t222 : T 222 = some a222 := (T_of (by decide)).trans z222
theorem t223 : T 223 = some a223 := (T_of (by decide)).trans z223
theorem t224 : T 224 = some a224 := (T_of (by decide)).trans z224
theorem t225 : T 225 = some a225 := (T_of (by decide)).trans z225
theorem t226 : T 226 = some a226 := (T_of (by decide)).trans z226
theorem t227 : T 227 = some a227 := (T_of (by decide)).trans z227
theorem t228 : T 228 = some a228 := (T_of (by decide)).trans z228
theorem t229 : T 229 = some a229 := (T_of (by decide)).trans z229
theorem t230 : T 230 = some a230 := (T_of (by decide)).trans z230
theorem t231 : T 231 = some a231 := (T_of (by decide)).trans z231
theorem t232 : T 232 = some a232 := (T_of (by decide)).trans z232
theorem t233 : T 233 = some a233 := (T_of (by decide)).trans z233
theorem t235 : T 235 = some a235 := (T_of (by decide)).trans z235
theorem t236 : T 236 = some a236 := (T_of (by decide)).trans z236
theorem t237 : T 237 = some a237 := (T_of (by decide)).trans z237
theorem t238 : T 238 = some a238 := (T_of (by decide)).trans z238
theorem t239 : T 239 = some a239 := (T_of (by decide)).trans z239
theorem t240 : T 240 = some a240 := (T_of (by decide)).trans z240
theorem t241 : T 241 = some a241 := (T_of (by decide)).trans z241
theorem t242 : T 242 = some a242 := (T_of (by decide)).trans z242
theorem t243 : T 243 = some a243 := (T_of (by decide)).trans z243
theorem t244 : T 244 = some a244 := (T_of (by decide)).trans z244
theorem t245 : T 245 = some a245 := (T_of (by decide)).trans z245
theorem t246 : T 246 = some a246 := (T_of (by decide)).trans z246
theorem t247 : T 247 = some a247 := (T_of (by decide)).trans z247
theorem t248 : T 248 = some a248 := (T_of (by decide)).trans z248
theorem t249 : T 249 = some a249 := (T_of (by decide)).trans z249
theorem t250 : T 250 = some a250 := (T_of (by decide)).trans z250
theorem t251 : T 251 = some a251 := (T_of (by decide)).trans z251
theorem t252 : T 252 = some a252 := (T_of (by decide)).trans z252
theorem t253 : T 253 = some a253 := (T_of (by decide)).trans z253
theorem t254 : T 254 = some a254 := (T_of (by decide)).trans z254
theorem t255 : T 255 = some a255 := (T_of (by decide)).trans z255
theorem t256 : T 256 = some a256 := (T_of (by decide)).trans z256
theorem t257 : T 257 = some a257 := (T_of (by decide)).trans z257
theorem t258 : T 258 = some a258 := (T_of (by decide)).trans z258
theorem t259 : T 259 = some a259 := (T_of (by decide)).trans z259
theorem t260 : T 260 = some a260 := (T_of (by decide)).trans z260
end Go.Proofs.YtpbngohpklpalaaGreat

/- Forms: what may be; the same. -/
namespace Go.Proofs.YtpbngohpklpalaaGreat
open Go.LS Go.IntWalk
def terms (l : List (Int × Int)) : List (List V) := l.map fun p => [.int .i64 p.1, .int .u64 p.2]
theorem terms_get (l m : List (Int × Int)) (v s : Int) : (terms (l ++ (v, s) :: m))[l.length]? = some [.int .i64 v, .int .u64 s] := by
 simp [terms]
@[simp] theorem retag_terms (l : List (Int × Int)) : V.retagLL (terms l) = terms l := by
 rw [V.retagLL_map]; simp [terms]
theorem terms_len (l : List (Int × Int)) : (terms l).length = l.length := by simp [terms]
@[simp] theorem terms_getElem (l : List (Int × Int)) (i : Nat) (h : i < (terms l).length) : (terms l)[i] = [.int .i64 (l[i]'(by simpa [terms] using h)).1, .int .u64 (l[i]'(by simpa [terms] using h)).2] := by
 simp [terms]
def formC (tg : Tag) (l : List (Int × Int)) (off : Int) : List V := [.lst tg (terms l), .int .u64 off]
def mayL : Int → List (Int × Int) → Bool
 | _, [] => true
 | last, (v, s) :: l => if v ≤ last ∨ 1023 < v ∨ s = 0 then false else mayL v l
theorem may_loop (all : List (Int × Int)) (hlen : (all.length : Int) < 2 ^ 62) (rest : List (Int × Int)) : ∀ (done : List (Int × Int)) (hd : all = done ++ rest) (last : Int) (t : Nat → V) (loc : LS.Loc) (h : LS.Heap)
   (tg : Tag) (h7 : t 7 = .lst tg (terms all)) (h8 : t 8 = .int .i64 all.length) (h9 : t 9 = .int .i64 done.length) (h3 : t 3 = .int .i64 last),
   W T (.loop l20_0) ⟨t, loc, h⟩ (fun e s => s.h = h ∧ ((mayL last rest = true ∧ e = .exit 0) ∨ (mayL last rest = false ∧ e = .ret ∧ s.t 2 = .bool false))) := by
 induction rest with
 | nil =>
  intro done hd last t loc h tg h7 h8 h9 h3
  have hlt : ¬ ((done.length : Int) < all.length) := by rw [hd]; simp
  refine W_loop' l20_0.eq_1 ?_
  refine W_seq (W_ops (s1 := ?_) (by simp only [r20_3]; simp [h9, h8, hlt]; exact rfl) ?_)
  exact W_seq (W_cond_f (by simp) (W_exit ⟨rfl, .inl ⟨rfl, rfl⟩⟩))
 | cons p rest ih =>
  obtain ⟨v, s⟩ := p
  intro done hd last t loc h tg h7 h8 h9 h3
  have hlt : ((done.length : Int) < all.length) := by rw [hd]; simp; omega
  have hL : (terms all)[done.length]? = some [.int .i64 v, .int .u64 s] := by rw [hd]; exact terms_get _ _ _ _
  have hw : IntKind.i64.wrap ((done.length : Int) + 1) = ((done ++ [(v, s)]).length : Int) := by rw [i64_in _ (by omega)]; simp
  refine W_loop' l20_0.eq_1 ?_
  refine W_seq (W_ops (s1 := ?_) (by simp only [r20_3]; simp [h9, h8, hlt]; exact rfl) ?_)
  refine W_seq (W_cond_t (by simp) (W_skip ?_))
  refine W_seq (W_block (W_seq (W_ops (s1 := ?_) (by simp only [r20_4]; simp [h9, h7, hL]; exact rfl) ?_)))
  by_cases hc : v ≤ last
  ·refine W_seq (W_seq (W_ops (s1 := ?_) (by simp only [r20_5]; simp [h3, hc]; exact rfl) ?_))
   refine W_cond_t (by simp) (W_seq (W_ops (s1 := ?_) (by simp only [r20_6]; simp; exact rfl) (W_ret ?_)))
   simp [mayL, hc]
  by_cases hc2 : 1023 < v
  ·refine W_seq (W_seq (W_ops (s1 := ?_) (by simp only [r20_5]; simp [h3, hc, hc2]; exact rfl) ?_))
   refine W_cond_t (by simp) (W_seq (W_ops (s1 := ?_) (by simp only [r20_6]; simp; exact rfl) (W_ret ?_)))
   simp [mayL, hc2]
  by_cases hc3 : s = 0
  ·refine W_seq (W_seq (W_ops (s1 := ?_) (by simp only [r20_5]; simp [h3, hc, hc2, hc3]; exact rfl) ?_))
   refine W_cond_t (by simp) (W_seq (W_ops (s1 := ?_) (by simp only [r20_6]; simp; exact rfl) (W_ret ?_)))
   simp [mayL, hc3]
  refine W_seq (W_seq (W_ops (s1 := ?_) (by simp only [r20_5]; simp [h3, hc, hc2, hc3]; exact rfl) ?_))
  refine W_cond_f (by simp) (W_skip ?_)
  refine W_ops (s1 := ?_) (by simp only [r20_7]; simp; exact rfl) ?_
  refine W_ops (s1 := ?_) (by simp only [r20_8]; simp [h9, hw]; exact rfl) ?_
  have hm : mayL last ((v, s) :: rest) = mayL v rest := by simp [mayL, hc, hc2, hc3]
  simp only [hm]
  exact ih (done ++ [(v, s)]) (by simp [hd]) v _ _ h tg (by simp [h7]) (by simp [h8]) (by simp) (by simp)
theorem May_run (tg : Tag) (l : List (Int × Int)) (off : Int) (hlen : (l.length : Int) < 2 ^ 62) (h : LS.Heap) :
  callD T 20 [.agg (formC tg l off)] h = some (.bool (mayL 0 l), h) := by
 refine W_call t20 rfl rfl (by simp) ?_
 show W T c20 _ _
 unfold c20
 refine W_seq (W_ops (s1 := ?_) (by simp only [r20_0]; simp [initT, formC, a20]; exact rfl) ?_)
 refine W_seq (W_ops (s1 := ?_) (by simp only [r20_1]; simp; exact rfl) ?_)
 refine W_seq (W_seq (W_ops (s1 := ?_) (by simp only [r20_2]; simp [terms_len]; exact rfl) ?_))
 refine W_block ((may_loop l hlen l [] rfl 0 _ _ h .ro (by simp) (by simp) (by simp) (by simp)).mono ?_)
 rintro e ⟨t1, loc1, h1⟩ ⟨hh, ⟨hm, rfl⟩ | ⟨hm, rfl, h2⟩⟩
 ·refine W_seq (W_ops (s1 := ?_) (by simp only [r20_9]; simp; exact rfl) (W_ret ?_))
  exact ⟨.inr rfl, [.bool true], by simp [a20, resV, resV1], by simp [a20, packV, hm], rfl, by simp only at hh; subst hh; exact .refl _⟩
 ·exact ⟨.inr rfl, [.bool false], by simp at h2; simp [a20, resV, resV1, h2], by simp [a20, packV, hm], rfl, by simp only at hh; subst hh; exact .refl _⟩

end Go.Proofs.YtpbngohpklpalaaGreat

/- Forms: the same, and the document's answers to what may be and what is the same. -/
namespace Go.Proofs.YtpbngohpklpalaaGreat
open Go.LS Go.IntWalk
theorem terms_at {l : List (Int × Int)} {i : Nat} (h : i < l.length) : (terms l)[i]? = some [.int .i64 l[i].1, .int .u64 l[i].2] := by
 simp [terms, h]
theorem equal_loop (a b : List (Int × Int)) (hab : a.length = b.length) (hlen : (a.length : Int) < 2 ^ 62) : ∀ (k i : Nat) (hk : a.length - i = k) (hi : i ≤ a.length) (t : Nat → V) (loc : LS.Loc) (h : LS.Heap)
  (ta tb : Tag) (h0 : t 0 = .lst ta (terms a)) (h1 : t 1 = .lst tb (terms b)) (h12 : t 12 = .int .i64 a.length) (h13 : t 13 = .int .i64 i),
  W T (.loop l112_0) ⟨t, loc, h⟩ (fun e s => s.h = h ∧ ((a.drop i = b.drop i ∧ e = .exit 0) ∨ (a.drop i ≠ b.drop i ∧ e = .ret ∧ s.t 4 = .bool false)))
 | 0, i, hk, hi, t, loc, h, ta, tb, h0, h1, h12, h13 => by
  have hlt : ¬ ((i : Int) < a.length) := by omega
  refine W_loop' l112_0.eq_1 ?_
  refine W_seq (W_ops (s1 := ?_) (by simp only [r112_4]; simp [h12, h13, hlt]; exact rfl) ?_)
  refine W_seq (W_cond_f (by simp) (W_exit ⟨rfl, .inl ⟨?_, rfl⟩⟩))
  rw [List.drop_eq_nil_of_le (by omega), List.drop_eq_nil_of_le (by omega)]
 | k + 1, i, hk, hi, t, loc, h, ta, tb, h0, h1, h12, h13 => by
  have hia : i < a.length := by omega
  have hib : i < b.length := by omega
  have hlt : ((i : Int) < a.length) := by omega
  have hw : IntKind.i64.wrap ((i : Int) + 1) = ((i + 1 : Nat) : Int) := by rw [i64_in _ (by omega)]; simp
  have ga := terms_at hia
  have gb := terms_at hib
  refine W_loop' l112_0.eq_1 ?_
  refine W_seq (W_ops (s1 := ?_) (by simp only [r112_4]; simp [h12, h13, hlt]; exact rfl) ?_)
  refine W_seq (W_cond_t (by simp) (W_skip ?_))
  refine W_seq (W_block (W_seq (W_ops (s1 := ?_) (by simp only [r112_5]; simp [h13]; exact rfl) ?_)))
  refine W_seq (W_tops (s1 := ?_) (by simp only [r112_6]; simp [h0, h1, ga, gb]; exact rfl) ?_)
  have hd : a.drop i = a[i] :: a.drop (i + 1) := by rw [List.drop_eq_getElem_cons hia]
  have hd2 : b.drop i = b[i] :: b.drop (i + 1) := by rw [List.drop_eq_getElem_cons hib]
  by_cases he : a[i] = b[i]
  ·refine W_cond_f (by simp [he]) (W_skip ?_)
   refine W_ops (s1 := ?_) (by simp only [r112_8]; simp [h13, hw]; exact rfl) ?_
   have ih := equal_loop a b hab hlen k (i + 1) (by omega) (by omega)
   refine (ih _ _ h ta tb (by simp [h0]) (by simp [h1]) (by simp [h12]) (by simp)).mono ?_
   rw [hd, hd2, he]
   simp only [List.cons.injEq, true_and, ne_eq]
   exact fun e s h => h
  ·have hne : ¬ (a[i].1 = b[i].1 ∧ a[i].2 = b[i].2) := fun h => he (Prod.ext h.1 h.2)
   refine W_cond_t (by simp; exact Decidable.not_and_iff_not_or_not.1 hne) (W_seq (W_ops (s1 := ?_) (by simp only [r112_7]; simp; exact rfl) (W_ret ⟨rfl, .inr ⟨?_, rfl, by simp⟩⟩)))
   rw [hd, hd2]
   intro h
   injection h with h
   exact he h
theorem Equal_run (ta tb : Tag) (a b : List (Int × Int)) (hlen : (a.length : Int) < 2 ^ 62) (hlen2 : (b.length : Int) < 2 ^ 62) (h : LS.Heap) :
  callD T 112 [.lst ta (terms a), .lst tb (terms b)] h = some (.bool (decide (a = b)), h) := by
 refine W_call t112 rfl rfl (by simp) ?_
 show W T c112 _ _
 unfold c112
 refine W_seq (W_ops (s1 := ?_) (by simp only [r112_0]; simp [initT, a112]; exact rfl) ?_)
 by_cases hab : a.length = b.length
 ·refine W_seq (W_seq (W_ops (s1 := ?_) (by simp only [r112_1]; simp [terms_len, hab]; exact rfl) ?_))
  refine W_cond_f (by simp) (W_skip ?_)
  refine W_seq (W_seq (W_ops (s1 := ?_) (by simp only [r112_3]; simp [terms_len]; exact rfl) ?_))
  refine W_block ((equal_loop a b hab hlen a.length 0 (by omega) (by omega) _ _ h .ro .ro (by simp) (by simp) (by simp) (by simp)).mono ?_)
  rintro e ⟨t1, loc1, h1⟩ ⟨hh, ⟨hm, rfl⟩ | ⟨hm, rfl, h2⟩⟩
  ·refine W_seq (W_ops (s1 := ?_) (by simp only [r112_9]; simp; exact rfl) (W_ret ?_))
   have hm : a = b := by simpa using hm
   exact ⟨.inr rfl, [.bool true], by simp [a112, resV, resV1], by simp [a112, packV, hm], rfl, by simp only at hh; subst hh; exact .refl _⟩
  ·have hm : a ≠ b := by simpa using hm
   exact ⟨.inr rfl, [.bool false], by simp at h2; simp [a112, resV, resV1, h2], by simp [a112, packV, hm], rfl, by simp only at hh; subst hh; exact .refl _⟩
 ·have hne : a ≠ b := fun h => hab (by rw [h])
  have hne2 : ¬ ((a.length : Int) = b.length) := by omega
  refine W_seq (W_seq (W_ops (s1 := ?_) (by simp only [r112_1]; simp [terms_len, hne2]; exact rfl) ?_))
  refine W_cond_t (by simp [hab]) (W_seq (W_ops (s1 := ?_) (by simp only [r112_2]; simp; exact rfl) (W_ret ?_)))
  exact ⟨.inr rfl, [.bool false], by simp [a112, resV, resV1], by simp [a112, packV, hne], rfl, .refl _⟩
theorem Same_run (ta tb : Tag) (a b : List (Int × Int)) (oa ob : Int) (hlen : (a.length : Int) < 2 ^ 62) (hlen2 : (b.length : Int) < 2 ^ 62) (h : LS.Heap) :
  callD T 52 [.agg (formC ta a oa), .agg (formC tb b ob)] h = some (.bool (decide (oa = ob) && decide (a = b)), h) := by
 refine W_call t52 rfl rfl (by simp) ?_
 show W T c52 _ _
 unfold c52
 have hE := Equal_run .ro .ro a b hlen hlen2 h
 refine W_seq (W_ops (s1 := ?_) (by simp only [r52_0]; simp [formC, a52]; exact rfl) ?_)
 by_cases ho : oa = ob
 ·refine W_seq (W_ops (s1 := ?_) (by simp only [r52_1]; simp [ho, hE]; exact rfl) (W_ret ?_))
  exact ⟨.inr rfl, [.bool (decide (a = b))], by simp [a52, resV, resV1], by simp [a52, packV, ho], rfl, .refl _⟩
 ·refine W_seq (W_ops (s1 := ?_) (by simp only [r52_1]; simp [ho]; exact rfl) (W_ret ?_))
  exact ⟨.inr rfl, [.bool false], by simp [a52, resV, resV1], by simp [a52, packV, ho], rfl, .refl _⟩
theorem refSame_loop (a b : List (Int × Int)) (oa ob : Int) (hab : a.length = b.length) (hlen : (a.length : Int) < 2 ^ 62) : ∀ (k i : Nat) (hk : a.length - i = k) (hi : i ≤ a.length) (t : Nat → V) (loc : LS.Loc) (h : LS.Heap)
  (h2 : t 2 = .loc 2 0 0) (h3 : t 3 = .loc 3 0 0) (l2 : loc 2 = some (0, [.lst .ro (terms a), .int .u64 oa])) (l3 : loc 3 = some (0, [.lst .ro (terms b), .int .u64 ob])) (h5 : t 5 = .int .i64 i),
  W T (.loop l19_0) ⟨t, loc, h⟩ (fun e s => s.h = h ∧ ((a.drop i = b.drop i ∧ e = .exit 0) ∨ (a.drop i ≠ b.drop i ∧ e = .ret ∧ s.t 4 = .bool false)))
 | 0, i, hk, hi, t, loc, h, h2, h3, l2, l3, h5 => by
  have hlt : ¬ ((i : Int) < a.length) := by omega
  refine W_loop' l19_0.eq_1 ?_
  refine W_seq (W_seq (W_ops (s1 := ?_) (by simp only [r19_4]; simp [h2, l2, h5, terms_len, hlt]; exact rfl) ?_))
  refine W_cond_f (by simp) (W_exit ⟨rfl, .inl ⟨?_, rfl⟩⟩)
  rw [List.drop_eq_nil_of_le (by omega), List.drop_eq_nil_of_le (by omega)]
 | k + 1, i, hk, hi, t, loc, h, h2, h3, l2, l3, h5 => by
  have hia : i < a.length := by omega
  have hib : i < b.length := by omega
  have hlt : ((i : Int) < a.length) := by omega
  have hw : IntKind.i64.wrap ((i : Int) + 1) = ((i + 1 : Nat) : Int) := by rw [i64_in _ (by omega)]; simp
  have ga := terms_at hia
  have gb := terms_at hib
  refine W_loop' l19_0.eq_1 ?_
  refine W_seq (W_seq (W_ops (s1 := ?_) (by simp only [r19_4]; simp [h2, l2, h5, terms_len, hlt]; exact rfl) ?_))
  refine W_cond_t (by simp) (W_skip ?_)
  refine W_seq (W_block (W_seq (W_tops (s1 := ?_) (by simp only [r19_6]; simp [h2, h3, l2, l3, h5, ga, gb]; exact rfl) ?_)))
  have hd : a.drop i = a[i] :: a.drop (i + 1) := by rw [List.drop_eq_getElem_cons hia]
  have hd2 : b.drop i = b[i] :: b.drop (i + 1) := by rw [List.drop_eq_getElem_cons hib]
  by_cases he : a[i] = b[i]
  ·refine W_cond_f (by simp [he]) (W_skip ?_)
   refine W_ops (s1 := ?_) (by simp only [r19_5]; simp [h5, hw]; exact rfl) ?_
   have ih := refSame_loop a b oa ob hab hlen k (i + 1) (by omega) (by omega)
   refine (ih _ _ h (by simp [h2]) (by simp [h3]) (by simp [l2]) (by simp [l3]) (by simp)).mono ?_
   rw [hd, hd2, he]
   simp only [List.cons.injEq, true_and, ne_eq]
   exact fun e s h => h
  ·have hne : ¬ (a[i].1 = b[i].1 ∧ a[i].2 = b[i].2) := fun h => he (Prod.ext h.1 h.2)
   refine W_cond_t (by simp; exact Decidable.not_and_iff_not_or_not.1 hne) (W_seq (W_ops (s1 := ?_) (by simp only [r19_7]; simp; exact rfl) (W_ret ⟨rfl, .inr ⟨?_, rfl, by simp⟩⟩)))
   rw [hd, hd2]
   intro h
   injection h with h
   exact he h
theorem refSame_run (ta tb : Tag) (a b : List (Int × Int)) (oa ob : Int) (hlen : (a.length : Int) < 2 ^ 62) (hlen2 : (b.length : Int) < 2 ^ 62) (h : LS.Heap) :
  callD T 19 [.agg (formC ta a oa), .agg (formC tb b ob)] h = some (.bool (decide (oa = ob) && decide (a = b)), h) := by
 refine W_call t19 rfl rfl (by simp) ?_
 show W T c19 _ _
 unfold c19
 refine W_seq (W_ops (s1 := ?_) (by simp only [r19_0]; simp [formC, a19]; exact rfl) ?_)
 by_cases ho : oa = ob
 case neg =>
  refine W_seq (W_seq (W_ops (s1 := ?_) (by simp only [r19_1]; simp [ho]; exact rfl) ?_))
  refine W_cond_t (by simp) (W_seq (W_ops (s1 := ?_) (by simp only [r19_2]; simp; exact rfl) (W_ret ?_)))
  exact ⟨.inr rfl, [.bool false], by simp [a19, resV, resV1], by simp [a19, packV, ho], rfl, .refl _⟩
 by_cases hab : a.length = b.length
 ·refine W_seq (W_seq (W_ops (s1 := ?_) (by simp only [r19_1]; simp [ho, terms_len, hab]; exact rfl) ?_))
  refine W_cond_f (by simp) (W_skip ?_)
  refine W_seq (W_seq (W_ops (s1 := ?_) (by simp only [r19_3]; simp; exact rfl) ?_))
  refine W_block ((refSame_loop a b oa ob hab hlen a.length 0 (by omega) (by omega) _ _ h (by simp [nextVer]) (by simp [nextVer]) (by simp [nextVer]; exact ho.symm) (by simp [nextVer]) (by simp)).mono ?_)
  rintro e ⟨t1, loc1, h1⟩ ⟨hh, ⟨hm, rfl⟩ | ⟨hm, rfl, h2⟩⟩
  ·refine W_seq (W_ops (s1 := ?_) (by simp only [r19_8]; simp; exact rfl) (W_ret ?_))
   have hm : a = b := by simpa using hm
   exact ⟨.inr rfl, [.bool true], by simp [a19, resV, resV1], by simp [a19, packV, hm, ho], rfl, by simp only at hh; subst hh; exact .refl _⟩
  ·have hm : a ≠ b := by simpa using hm
   exact ⟨.inr rfl, [.bool false], by simp at h2; simp [a19, resV, resV1, h2], by simp [a19, packV, hm], rfl, by simp only at hh; subst hh; exact .refl _⟩
 ·have hne : a ≠ b := fun h => hab (by rw [h])
  have hne2 : ¬ ((a.length : Int) = b.length) := by omega
  refine W_seq (W_seq (W_ops (s1 := ?_) (by simp only [r19_1]; simp [ho, terms_len, hab]; exact rfl) ?_))
  refine W_cond_t (by simp; exact hne2) (W_seq (W_ops (s1 := ?_) (by simp only [r19_2]; simp; exact rfl) (W_ret ?_)))
  exact ⟨.inr rfl, [.bool false], by simp [a19, resV, resV1], by simp [a19, packV, hne], rfl, .refl _⟩

end Go.Proofs.YtpbngohpklpalaaGreat

/- Forms: the document's answer to what may be; whether all of some forms may be. -/
namespace Go.Proofs.YtpbngohpklpalaaGreat
open Go.LS Go.IntWalk
theorem mayP_run (tg : Tag) (l : List (Int × Int)) (off : Int) (hlen : (l.length : Int) < 2 ^ 62) (h : LS.Heap) :
  callD T 166 [.agg (formC tg l off)] h = some (.bool (!mayL 0 l), h) := by
 refine W_call t166 rfl rfl (by simp) ?_
 show W T c166 _ _
 unfold c166
 have hM := May_run .ro l off hlen h
 simp only [formC] at hM
 refine W_seq (W_ops (s1 := ?_) (by simp only [r166_0]; simp [formC, a166]; exact rfl) ?_)
 refine W_seq (W_ops (s1 := ?_) (by simp only [r166_1]; simp [hM]; exact rfl) (W_ret ?_))
 exact ⟨.inr rfl, [.bool (!mayL 0 l)], by simp [a166, resV, resV1], by simp [a166, packV], rfl, .refl _⟩
theorem may_run (ta tb tl : Tag) (a b : List (Int × Int)) (oa ob : Int) (ha : (a.length : Int) < 2 ^ 62) (hb : (b.length : Int) < 2 ^ 62) (h : LS.Heap) :
  callD T 113 [.lst tl [formC ta a oa, formC tb b ob]] h = some (.bool (mayL 0 a && mayL 0 b), h) := by
 have h1 := mayP_run .ro a oa ha h
 have h2 := mayP_run .ro b ob hb h
 simp only [formC] at h1 h2
 have hI : callD T 185 [.lst .ro [formC .ro a oa, formC .ro b ob], .fn 166 [] []] h = some (.int .i64 (if mayL 0 a = false then 0 else if mayL 0 b = false then 1 else -1), h) := by
  refine W_call t185 rfl rfl (by simp) ?_
  show W T c185 _ _
  unfold c185
  refine W_seq (W_ops (s1 := ?_) (by simp only [r185_0]; simp [formC, a185]; exact rfl) ?_)
  refine W_seq (W_seq (W_ops (s1 := ?_) (by simp only [r185_1]; simp; exact rfl) ?_))
  refine W_block (W_loop' l185_0.eq_1 ?_)
  refine W_seq (W_ops (s1 := ?_) (by simp only [r185_2]; simp; exact rfl) ?_)
  refine W_seq (W_cond_t (by simp) (W_skip ?_))
  refine W_seq (W_block (W_seq (W_ops (s1 := ?_) (by simp only [r185_3]; simp; exact rfl) ?_)))
  refine W_seq (W_ops (s1 := ?_) (by simp only [r185_4]; simp [h1]; exact rfl) ?_)
  by_cases ca : mayL 0 a = false
  ·refine W_cond_t (by simp [ca]) (W_seq (W_ops (s1 := ?_) (by simp only [r185_5]; simp; exact rfl) (W_ret ?_)))
   exact ⟨.inr rfl, [.int .i64 0], by simp [a185, resV, resV1], by simp [a185, packV, ca], rfl, .refl _⟩
  have ca' : mayL 0 a = true := by simpa using ca
  refine W_cond_f (by simp [ca']) (W_skip ?_)
  have w1 : IntKind.i64.wrap 1 = 1 := i64_in _ (by omega)
  have w2 : IntKind.i64.wrap 2 = 2 := i64_in _ (by omega)
  refine W_ops (s1 := ?_) (by simp only [r185_6]; simp [w1]; exact rfl) ?_
  refine W_loop' l185_0.eq_1 ?_
  refine W_seq (W_ops (s1 := ?_) (by simp only [r185_2]; simp; exact rfl) ?_)
  refine W_seq (W_cond_t (by simp) (W_skip ?_))
  refine W_seq (W_block (W_seq (W_ops (s1 := ?_) (by simp only [r185_3]; simp; exact rfl) ?_)))
  refine W_seq (W_ops (s1 := ?_) (by simp only [r185_4]; simp [h2]; exact rfl) ?_)
  by_cases cb : mayL 0 b = false
  ·refine W_cond_t (by simp [cb]) (W_seq (W_ops (s1 := ?_) (by simp only [r185_5]; simp; exact rfl) (W_ret ?_)))
   exact ⟨.inr rfl, [.int .i64 1], by simp [a185, resV, resV1], by simp [a185, packV, ca', cb], rfl, .refl _⟩
  have cb' : mayL 0 b = true := by simpa using cb
  refine W_cond_f (by simp [cb']) (W_skip ?_)
  refine W_ops (s1 := ?_) (by simp only [r185_6]; simp [w2]; exact rfl) ?_
  refine W_loop' l185_0.eq_1 ?_
  refine W_seq (W_ops (s1 := ?_) (by simp only [r185_2]; simp; exact rfl) ?_)
  refine W_seq (W_cond_f (by simp) (W_exit ?_))
  refine W_seq (W_ops (s1 := ?_) (by simp only [r185_7]; simp; exact rfl) (W_ret ?_))
  exact ⟨.inr rfl, [.int .i64 (-1)], by simp [a185, resV, resV1], by simp [a185, packV, ca', cb'], rfl, .refl _⟩
 have hC : callD T 165 [.lst .ro [formC .ro a oa, formC .ro b ob], .fn 166 [] []] h = some (.bool (!(mayL 0 a && mayL 0 b)), h) := by
  refine W_call t165 rfl rfl (by simp) ?_
  show W T c165 _ _
  unfold c165
  simp only [formC] at hI
  refine W_seq (W_ops (s1 := ?_) (by simp only [r165_0]; simp [formC, a165]; exact rfl) ?_)
  refine W_seq (W_ops (s1 := ?_) (by simp only [r165_1]; simp [hI]; exact rfl) (W_ret ?_))
  exact ⟨.inr rfl, _, by simp [a165, resV, resV1]; exact rfl, by cases h1 : mayL 0 a <;> cases h2 : mayL 0 b <;> simp [a165, packV], rfl, .refl _⟩
 refine W_call t113 rfl rfl (by simp) ?_
 show W T c113 _ _
 unfold c113
 simp only [formC] at hC
 refine W_seq (W_ops (s1 := ?_) (by simp only [r113_0]; simp [formC, a113]; exact rfl) ?_)
 refine W_seq (W_ops (s1 := ?_) (by simp only [r113_1]; simp [hC]; exact rfl) (W_ret ?_))
 exact ⟨.inr rfl, [.bool (mayL 0 a && mayL 0 b)], by simp [a113, resV, resV1], by simp [a113, packV], rfl, .refl _⟩

end Go.Proofs.YtpbngohpklpalaaGreat

/- Forms: two forms, term by term. -/
namespace Go.Proofs.YtpbngohpklpalaaGreat
open Go.LS Go.IntWalk
def keepT (v s : Int) (l : List (Int × Int)) : List (Int × Int) := if s = 0 then l else (v, s) :: l
def bothL (f : Int → Int → Int) : List (Int × Int) → List (Int × Int) → List (Int × Int)
 | [], [] => []
 | (v, s) :: x, [] => keepT v (f s 0) (bothL f x [])
 | [], (w, r) :: y => keepT w (f 0 r) (bothL f [] y)
 | (v, s) :: x, (w, r) :: y => if v < w then keepT v (f s 0) (bothL f x ((w, r) :: y)) else if w < v then keepT w (f 0 r) (bothL f ((v, s) :: x) y) else keepT v (f s r) (bothL f x y)
termination_by a b => a.length + b.length
structure BothInv (xs ys : List (Int × Int)) (ox oy : Int) (F : FuncId) (caps : List V) (h0 : LS.Heap) (off : Int) (i j : Nat) (out : List (Int × Int)) (s : St) : Prop where
 t2 : s.t 2 = .fn F [] caps
 t3 : s.t 3 = .loc 3 0 0
 t4 : s.t 4 = .loc 4 0 0
 t6 : s.t 6 = .loc 6 0 0
 t7 : s.t 7 = .loc 7 0 0
 t8 : s.t 8 = .int .i64 i
 t9 : s.t 9 = .int .i64 j
 l3 : s.loc 3 = some (0, [.lst .ro (terms xs), .int .u64 ox])
 l4 : s.loc 4 = some (0, [.lst .ro (terms ys), .int .u64 oy])
 l6 : s.loc 6 = some (0, [.lst .nil [], .int .u64 0])
 acc : ∃ a, s.loc 7 = some (0, [a, .int .u64 off]) ∧ Acc 2 h0 s.h a (terms out)
 hx : HExt h0 s.h
theorem terms_append (a b : List (Int × Int)) : terms (a ++ b) = terms a ++ terms b := by simp [terms]
theorem terms_ok (a : List (Int × Int)) : okSize 2 (terms a) = true := by cases a <;> simp [terms, okSize]

section
variable {xs ys : List (Int × Int)} {ox oy : Int} {F : FuncId} {caps : List V} {h0 : LS.Heap} {off : Int} {f : Int → Int → Int}
theorem both_tail {i j : Nat} {out : List (Int × Int)} {t : Nat → V} {loc : LS.Loc} {h : LS.Heap} {ver : Nat} {v s : Int} (hi : BothInv xs ys ox oy F caps h0 off i j out ⟨t, loc, h⟩)
  (h10 : t 10 = .loc 10 ver 0) (l10 : loc 10 = some (ver, [.int .i64 v, .int .u64 s])) (hout : (out.length : Int) < 2 ^ 40) :
  W T (.seq (.ops r114_13) (.cond (.t 140) (.ops r114_14) (.skip))) ⟨t, loc, h⟩ (fun e s1 => e = .normal ∧ BothInv xs ys ox oy F caps h0 off i j (out ++ keepT v s []) s1) := by
 obtain ⟨t2, t3, t4, t6, t7, t8, t9, l3, l4, l6, ⟨a, l7, ha⟩, hx⟩ := hi
 simp only at t2 t3 t4 t6 t7 t8 t9 l3 l4 l6 l7 ha hx
 refine W_seq (W_ops (s1 := ?_) (by simp only [r114_13]; simp [h10, l10]; exact rfl) ?_)
 by_cases hs : s = 0
 ·refine W_cond_f (by simp [hs]) (W_skip ⟨rfl, ?_⟩)
  simp only [keepT, hs, if_true, List.append_nil]
  exact ⟨by simp [t2], by simp [t3], by simp [t4], by simp [t6], by simp [t7], by simp [t8], by simp [t9], l3, l4, l6, ⟨a, l7, ha⟩, hx⟩
 ·obtain ⟨a', h', e1, e2, e3⟩ := ha.append (bytes := 16) (m := [[.int .i64 v, .int .u64 s]]) (tg := .exact) hx (by simp) (by simp [okSize]) (terms_ok _) (by simp [terms_len]; omega)
  obtain ⟨tk, rfl, e4⟩ : ∃ tk, a' = .lst (.own tk) (terms out ++ [[.int .i64 v, .int .u64 s]]) ∧ h'.objs tk = some (.tok (terms out ++ [[V.int .i64 v, V.int .u64 s]]).length 2) ∧ h0.next ≤ tk := by
   rcases e2 with ⟨h9, _⟩ | h9
   ·simp at h9
   ·exact h9
  refine W_cond_t (by simp [hs]) (W_ops (s1 := ?_) (by simp only [r114_14]; simp [t7, l7, h10, l10, e1]; exact rfl) ⟨rfl, ?_⟩)
  refine ⟨by simp [t2], by simp [t3], by simp [t4], by simp [t6], by simp [t7], by simp [t8], by simp [t9], by simp [l3], by simp [l4], by simp [l6], ⟨_, by simp; exact rfl, ?_⟩, e3⟩
  simp only [keepT, hs, if_false, terms_append]
  exact .inr ⟨tk, by simp [terms], by simpa [terms] using e4.1, e4.2⟩
def DoOK (F : FuncId) (caps : List V) (h0 : LS.Heap) (f : Int → Int → Int) : Prop := ∀ (a b : Int) (h : LS.Heap), HExt h0 h → callD T F (.int .u64 a :: .int .u64 b :: caps) h = some (.int .u64 (f a b), h)
theorem both_body (hf : DoOK F caps h0 f) (hlx : (xs.length : Int) < 2 ^ 39) (hly : (ys.length : Int) < 2 ^ 39) {i j : Nat} (hi : i ≤ xs.length) (hj : j ≤ ys.length) (hij : i < xs.length ∨ j < ys.length) {out : List (Int × Int)} (hout : (out.length : Int) < 2 ^ 40)
  {t : Nat → V} {loc : LS.Loc} {h : LS.Heap} (hinv : BothInv xs ys ox oy F caps h0 off i j out ⟨t, loc, h⟩) :
  W T l114_0 ⟨t, loc, h⟩ (fun e s1 => e = .normal ∧ ∃ i' j' l, i ≤ i' ∧ j ≤ j' ∧ i' ≤ xs.length ∧ j' ≤ ys.length ∧ i + j < i' + j' ∧ l.length ≤ 1 ∧ bothL f (xs.drop i) (ys.drop j) = l ++ bothL f (xs.drop i') (ys.drop j') ∧ BothInv xs ys ox oy F caps h0 off i' j' (out ++ l) s1) := by
 obtain ⟨t2, t3, t4, t6, t7, t8, t9, l3, l4, l6, ⟨a, l7, ha⟩, hx⟩ := hinv
 simp only at t2 t3 t4 t6 t7 t8 t9 l3 l4 l6 l7 ha hx
 have hwi : IntKind.i64.wrap ((i : Int) + 1) = ((i + 1 : Nat) : Int) := by rw [i64_in _ (by omega)]; simp
 have hwj : IntKind.i64.wrap ((j : Int) + 1) = ((j + 1 : Nat) : Int) := by rw [i64_in _ (by omega)]; simp
 unfold l114_0
 -- what is done behind the choice
 have fin : ∀ {i' j' : Nat} {v s : Int} {t1 : Nat → V} {loc1 : LS.Loc} {ver : Nat}, t1 10 = .loc 10 ver 0 → loc1 10 = some (ver, [.int .i64 v, .int .u64 s]) → BothInv xs ys ox oy F caps h0 off i' j' out ⟨t1, loc1, h⟩ →
   i ≤ i' → j ≤ j' → i' ≤ xs.length → j' ≤ ys.length → i + j < i' + j' → bothL f (xs.drop i) (ys.drop j) = keepT v s (bothL f (xs.drop i') (ys.drop j')) →
   W T (.seq (.ops r114_13) (.cond (.t 140) (.ops r114_14) (.skip))) ⟨t1, loc1, h⟩ (blockW 1 (fun e s1 => e = .normal ∧ ∃ i' j' l, i ≤ i' ∧ j ≤ j' ∧ i' ≤ xs.length ∧ j' ≤ ys.length ∧ i + j < i' + j' ∧ l.length ≤ 1 ∧ bothL f (xs.drop i) (ys.drop j) = l ++ bothL f (xs.drop i') (ys.drop j') ∧ BothInv xs ys ox oy F caps h0 off i' j' (out ++ l) s1)) := by
  intro i' j' v s t1 loc1 ver h10 l10 hinv' h1 h2 h3 h4 h5 h6
  refine (both_tail hinv' h10 l10 hout).mono ?_
  rintro e s1 ⟨rfl, hb⟩
  refine ⟨rfl, i', j', keepT v s [], h1, h2, h3, h4, h5, ?_, ?_, hb⟩
  ·unfold keepT; split <;> simp
  ·rw [h6]; unfold keepT; split <;> simp
 have hany : ∀ (e1 : t 8 = .int .i64 i), True := fun _ => trivial
 by_cases hxi : i < xs.length
 ·have gx := terms_at hxi
  have dx : xs.drop i = (xs[i].1, xs[i].2) :: xs.drop (i + 1) := by rw [List.drop_eq_getElem_cons hxi]
  refine W_seq (W_seq (W_ops (s1 := ?_) (by simp only [r114_3]; simp [t3, t4, t8, t9, l3, l4, terms_len, hxi]; exact rfl) ?_))
  refine W_cond_t (by simp) (W_skip ?_)
  refine W_block (W_seq (W_ops (s1 := ?_) (by simp only [r114_4]; simp; exact rfl) ?_))
  by_cases hyj : j < ys.length
  ·have gy := terms_at hyj
   have dy : ys.drop j = (ys[j].1, ys[j].2) :: ys.drop (j + 1) := by rw [List.drop_eq_getElem_cons hyj]
   have hne : ¬ ((j : Int) = ys.length) := by omega
   have hne' : ¬ (j = ys.length) := by omega
   have hnx : ¬ ((i : Int) = xs.length) := by omega
   have hnx' : ¬ (i = xs.length) := by omega
   by_cases c1 : xs[i].1 < ys[j].1
   ·have hd := hf xs[i].2 0 h hx
    refine W_seq (W_block (W_seq (W_tops (s1 := ?_) (by simp only [r114_7]; simp [t3, t4, t8, t9, l3, l4, terms_len, hne, hne', hxi, gx, gy, c1]; exact rfl) ?_)))
    refine W_cond_t (by simp) (W_seq (W_tops (s1 := ?_) (by simp only [r114_8]; simp [t2, t3, t4, t8, t9, l3, l4, gx, hd]; exact rfl) ?_))
    refine W_ops (s1 := ?_) (by simp only [r114_9]; simp [t8, hwi]; exact rfl) ?_
    refine fin (i' := i + 1) (j' := j) (v := xs[i].1) (s := f xs[i].2 0) (by simp; exact rfl) (by simp) ⟨by simp [t2], by simp [t3], by simp [t4], by simp [t6], by simp [t7], by simp, by simp [t9], by simp [l3], by simp [l4], by simp [l6], ⟨a, by simp [l7], ha⟩, hx⟩ (by omega) (by omega) (by omega) (by omega) (by omega) ?_
    rw [dx, dy, bothL, if_pos c1]
   by_cases c2 : ys[j].1 < xs[i].1
   ·have hd := hf 0 ys[j].2 h hx
    refine W_seq (W_block (W_seq (W_tops (s1 := ?_) (by simp only [r114_7]; simp [t3, t4, t8, t9, l3, l4, terms_len, hne, hne', hxi, hyj, gx, gy, c1]; exact rfl) ?_)))
    refine W_cond_f (by simp) (W_seq (W_tops (s1 := ?_) (by simp only [r114_10]; simp [t3, t4, t8, t9, l3, l4, terms_len, hnx, hnx', hxi, hyj, gx, gy, c2]; exact rfl) ?_))
    refine W_cond_t (by simp) (W_seq (W_tops (s1 := ?_) (by simp only [r114_11]; simp [t2, t3, t4, t8, t9, l3, l4, gy, hd]; exact rfl) ?_))
    refine W_ops (s1 := ?_) (by simp only [r114_12]; simp [t9, hwj]; exact rfl) ?_
    refine fin (i' := i) (j' := j + 1) (v := ys[j].1) (s := f 0 ys[j].2) (by simp; exact rfl) (by simp) ⟨by simp [t2], by simp [t3], by simp [t4], by simp [t6], by simp [t7], by simp [t8], by simp, by simp [l3], by simp [l4], by simp [l6], ⟨a, by simp [l7], ha⟩, hx⟩ (by omega) (by omega) (by omega) (by omega) (by omega) ?_
    rw [dx, dy, bothL, if_neg c1, if_pos c2]
   ·have hd := hf xs[i].2 ys[j].2 h hx
    refine W_seq (W_block (W_seq (W_tops (s1 := ?_) (by simp only [r114_7]; simp [t3, t4, t8, t9, l3, l4, terms_len, hne, hne', hxi, hyj, gx, gy, c1]; exact rfl) ?_)))
    refine W_cond_f (by simp) (W_seq (W_tops (s1 := ?_) (by simp only [r114_10]; simp [t3, t4, t8, t9, l3, l4, terms_len, hnx, hnx', hxi, hyj, gx, gy, c2]; exact rfl) ?_))
    refine W_cond_f (by simp) (W_seq (W_tops (s1 := ?_) (by simp only [r114_5]; simp [t2, t3, t4, t8, t9, l3, l4, gx, gy, hd]; exact rfl) ?_))
    refine W_ops (s1 := ?_) (by simp only [r114_6]; simp [t8, t9, hwi, hwj]; exact rfl) ?_
    refine fin (i' := i + 1) (j' := j + 1) (v := xs[i].1) (s := f xs[i].2 ys[j].2) (by simp; exact rfl) (by simp) ⟨by simp [t2], by simp [t3], by simp [t4], by simp [t6], by simp [t7], by simp, by simp, by simp [l3], by simp [l4], by simp [l6], ⟨a, by simp [l7], ha⟩, hx⟩ (by omega) (by omega) (by omega) (by omega) (by omega) ?_
    rw [dx, dy, bothL, if_neg c1, if_neg c2]
  ·have hje : j = ys.length := by omega
   have dy : ys.drop j = [] := List.drop_eq_nil_of_le (by omega)
   have hd := hf xs[i].2 0 h hx
   refine W_seq (W_block (W_seq (W_tops (s1 := ?_) (by simp only [r114_7]; simp [t3, t4, t8, t9, l3, l4, terms_len, hje]; exact rfl) ?_)))
   refine W_cond_t (by simp) (W_seq (W_tops (s1 := ?_) (by simp only [r114_8]; simp [t2, t3, t4, t8, t9, l3, l4, gx, hd]; exact rfl) ?_))
   refine W_ops (s1 := ?_) (by simp only [r114_9]; simp [t8, hwi]; exact rfl) ?_
   refine fin (i' := i + 1) (j' := j) (v := xs[i].1) (s := f xs[i].2 0) (by simp; exact rfl) (by simp) ⟨by simp [t2], by simp [t3], by simp [t4], by simp [t6], by simp [t7], by simp, by simp [t9], by simp [l3], by simp [l4], by simp [l6], ⟨a, by simp [l7], ha⟩, hx⟩ (by omega) (by omega) (by omega) (by omega) (by omega) ?_
   rw [dx, dy, bothL]
 ·have hyj : j < ys.length := by omega
  have hie : i = xs.length := by omega
  have gy := terms_at hyj
  have dx : xs.drop i = [] := List.drop_eq_nil_of_le (by omega)
  have dy : ys.drop j = (ys[j].1, ys[j].2) :: ys.drop (j + 1) := by rw [List.drop_eq_getElem_cons hyj]
  have hne : ¬ ((j : Int) = ys.length) := by omega
  have hne' : ¬ (j = ys.length) := by omega
  have hd := hf 0 ys[j].2 h hx
  refine W_seq (W_seq (W_ops (s1 := ?_) (by simp only [r114_3]; simp [t3, t4, t8, t9, l3, l4, terms_len, hxi, hyj]; exact rfl) ?_))
  refine W_cond_t (by simp) (W_skip ?_)
  refine W_block (W_seq (W_ops (s1 := ?_) (by simp only [r114_4]; simp; exact rfl) ?_))
  refine W_seq (W_block (W_seq (W_tops (s1 := ?_) (by simp only [r114_7]; simp [t3, t4, t8, t9, l3, l4, terms_len, hne, hne', hxi]; exact rfl) ?_)))
  refine W_cond_f (by simp) (W_seq (W_tops (s1 := ?_) (by simp only [r114_10]; simp [t3, t4, t8, t9, l3, l4, terms_len, hie]; exact rfl) ?_))
  refine W_cond_t (by simp) (W_seq (W_tops (s1 := ?_) (by simp only [r114_11]; simp [t2, t3, t4, t8, t9, l3, l4, gy, hd]; exact rfl) ?_))
  refine W_ops (s1 := ?_) (by simp only [r114_12]; simp [t9, hwj]; exact rfl) ?_
  refine fin (i' := i) (j' := j + 1) (v := ys[j].1) (s := f 0 ys[j].2) (by simp; exact rfl) (by simp) ⟨by simp [t2], by simp [t3], by simp [t4], by simp [t6], by simp [t7], by simp [t8], by simp, by simp [l3], by simp [l4], by simp [l6], ⟨a, by simp [l7], ha⟩, hx⟩ (by omega) (by omega) (by omega) (by omega) (by omega) ?_
  rw [dx, dy, bothL]
theorem both_loop (hf : DoOK F caps h0 f) (hlx : (xs.length : Int) < 2 ^ 39) (hly : (ys.length : Int) < 2 ^ 39) : ∀ (k i j : Nat) (out : List (Int × Int)) (s : St), (xs.length - i) + (ys.length - j) ≤ k → i ≤ xs.length → j ≤ ys.length → out.length ≤ i + j →
  BothInv xs ys ox oy F caps h0 off i j out s → W T (.loop l114_0) s (fun e s1 => e = .exit 0 ∧ ∃ i' j', BothInv xs ys ox oy F caps h0 off i' j' (out ++ bothL f (xs.drop i) (ys.drop j)) s1)
 | k, i, j, out, ⟨t, loc, h⟩, hk, hi, hj, hout, hinv => by
  by_cases hij : i < xs.length ∨ j < ys.length
  ·refine W_loop ((both_body hf hlx hly hi hj hij (by omega) hinv).mono ?_)
   rintro e s1 ⟨rfl, i', j', l, h1, h2, h3, h4, h5, h6, h7, h8⟩
   cases k with
   | zero => omega
   | succ k =>
    refine (both_loop hf hlx hly k i' j' (out ++ l) s1 (by omega) h3 h4 (by simp; omega) h8).mono ?_
    rintro e s2 ⟨rfl, i2, j2, hb⟩
    rw [h7, ← List.append_assoc]
    exact ⟨rfl, i2, j2, hb⟩
  ·have hxi : ¬ i < xs.length := by omega
   have hyj : ¬ j < ys.length := by omega
   have hinv' := hinv
   obtain ⟨t2, t3, t4, t6, t7, t8, t9, l3, l4, l6, ⟨a, l7, ha⟩, hx⟩ := hinv
   simp only at t2 t3 t4 t6 t7 t8 t9 l3 l4 l6 l7 ha hx
   refine W_loop' l114_0.eq_1 (W_seq (W_seq (W_ops (s1 := ?_) (by simp only [r114_3]; simp [t3, t4, t8, t9, l3, l4, terms_len, hxi, hyj]; exact rfl) ?_)))
   refine W_cond_f (by simp) (W_exit ⟨rfl, i, j, ?_⟩)
   rw [List.drop_eq_nil_of_le (by omega), List.drop_eq_nil_of_le (by omega), bothL, List.append_nil]
   exact ⟨by simp [t2], by simp [t3], by simp [t4], by simp [t6], by simp [t7], by simp [t8], by simp [t9], by simp [l3], by simp [l4], by simp [l6], ⟨a, by simp [l7], ha⟩, hx⟩

end
theorem under_terms (n : Nat) (l : List (Int × Int)) : V.underLL n (terms l) = true := by
 induction l with
 | nil => rfl
 | cons p l ih => simp [terms] at *; simpa [V.underLL, V.underL] using ih
attribute [simp] under_terms
theorem both_run {F : FuncId} {caps : List V} {h : LS.Heap} {f : Int → Int → Int} (hf : DoOK F caps h f) (hcaps : ∀ v ∈ caps, v.retag = v) (ta tb : Tag) (xs ys : List (Int × Int)) (ox oy : Int) (hlx : (xs.length : Int) < 2 ^ 39) (hly : (ys.length : Int) < 2 ^ 39) :
  callD T 114 [.agg (formC ta xs ox), .agg (formC tb ys oy), .fn F [] caps] h = some (.agg (formC .ro (bothL f xs ys) (f ox oy)), h) := by
 refine W_call t114 rfl rfl (by simp) ?_
 show W T c114 _ _
 unfold c114
 have hd := hf ox oy h (.refl h)
 refine W_seq (W_ops (s1 := ?_) (by simp only [r114_0]; simp [formC, a114]; exact rfl) ?_)
 refine W_seq (W_ops (s1 := ?_) (by simp only [r114_1]; simp [hd, nextVer]; exact rfl) ?_)
 refine W_seq (W_ops (s1 := ?_) (by simp only [r114_2]; simp; exact rfl) ?_)
 refine W_seq (W_block ((both_loop (xs := xs) (ys := ys) (ox := ox) (oy := oy) (off := f ox oy) hf hlx hly (xs.length + ys.length) 0 0 [] _ (by omega) (by omega) (by omega) (by simp)
  ⟨by simp, by simp [nextVer], by simp [nextVer], by simp [nextVer], by simp [nextVer], by simp, by simp, by simp [nextVer], by simp [nextVer], by simp [nextVer], ⟨.lst .nil [], by simp [nextVer], .nil _ _ _⟩, .refl h⟩).mono ?_))
 rintro e ⟨t1, loc1, h1⟩ ⟨rfl, i', j', hinv⟩
 obtain ⟨t2, t3, t4, t6, t7, t8, t9, l3, l4, l6, ⟨a, l7, ha⟩, hx⟩ := hinv
 simp only at t2 t3 t4 t6 t7 t8 t9 l3 l4 l6 l7 ha hx
 refine W_seq (W_ops (s1 := ?_) (by simp only [r114_15]; simp [t6, t7, l6, l7]; exact rfl) (W_ret ?_))
 have hr := ha.retag
 simp only [List.nil_append, List.drop_zero] at hr
 refine ⟨.inr rfl, [.agg [a, .int .u64 (f ox oy)]], by simp [a114, resV, resV1, t6], ?_, by simp [formC], hx⟩
 simp [a114, packV, formC, hr]

end Go.Proofs.YtpbngohpklpalaaGreat
