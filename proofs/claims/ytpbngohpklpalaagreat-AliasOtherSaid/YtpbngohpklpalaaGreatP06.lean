/- A part of the proof: an abstract machine for the program's code and what each of its functions comes to there. No conditions. -/
import Derived.Test.YtpbngohpklpalaaGreatP05
import Derived.Test.YtpbngohpklpalaaGreatChecked
import Derived.KernelRfl

set_option linter.unusedSimpArgs false
set_option linter.unusedVariables false

/- Compact code of the program's functions, each checked against the program's form: printed by mkcode.py. -/
namespace Go.Proofs.YtpbngohpklpalaaGreat
open Go.LS
@[simp] def r92_0 : List AOp :=
 [.p 1 (.box false 3 (.t 0)),
 .p 2 (.alloc false [.lst .nil [], .lst .nil []]),
 .p 3 (.mov (.i 0))]
@[simp] def r92_1 : List AOp :=
 [.p 11 (.off 2 (.t 1)),
 .p 12 (.load false 1 (.t 11)),
 .p 13 (.len (.t 12)),
 .m 4 13]
@[simp] def r92_2 : List AOp :=
 [.m 14 4,
 .p 15 (.bin .eql (.t 14) (.i 0)),
 .m 16 15,
 .q 17 16 false (.mov (.t 4)),
 .q 18 16 false (.bin .gtr (.t 17) (.i 64)),
 .p 19 (.pick (.t 16) (.b true) (.t 18))]
@[simp] def r92_3 : List AOp :=
 [.p 20 (.build [.lst .nil [], .lst .nil []] []),
 .n (.store 2 (.t 2) (.t 20)),
 .p 3 (.mov (.i 5))]
@[simp] def r92_4 : List AOp :=
 [.p 5 (.mov (.c (.lst .nil [])))]
@[simp] def r92_5 : List AOp :=
 [.p 6 (.mov (.i 0))]
@[simp] def r92_6 : List AOp :=
 [.m 21 6,
 .m 22 4,
 .p 23 (.bin .lss (.t 21) (.t 22))]
@[simp] def r92_8 : List AOp :=
 [.p 26 (.off 2 (.t 1)),
 .p 27 (.load false 1 (.t 26)),
 .m 28 6,
 .p 29 (.idxS 5 (.t 27) (.t 28)),
 .p 30 (.off 2 (.t 29)),
 .p 31 (.load true 3 (.t 30)),
 .p 7 (.alloc false [.int .i64 0, .int .i64 0, .lst .nil []]),
 .n (.store 3 (.t 7) (.t 31))]
@[simp] def r92_9 : List AOp :=
 [.l 32 (.off 0 (.t 7)) 7 (.loc 7),
 .l 33 (.load false 1 (.t 32)) 32 (.loc 7),
 .p 34 (.bin .lss (.t 33) (.i 0)),
 .m 35 34,
 ⟨(some 36), (some (35, false)), .off 0 (.t 7), (some (.t 7, .loc 7))⟩,
 ⟨(some 37), (some (35, false)), .load false 1 (.t 36), (some (.t 36, .loc 7))⟩,
 .q 38 35 false (.bin .gtr (.t 37) (.i 3)),
 .p 39 (.pick (.t 35) (.b true) (.t 38)),
 .m 40 39,
 ⟨(some 41), (some (40, false)), .off 2 (.t 7), (some (.t 7, .loc 7))⟩,
 ⟨(some 42), (some (40, false)), .load false 1 (.t 41), (some (.t 41, .loc 7))⟩,
 .q 43 40 false (.len (.t 42)),
 .q 44 40 false (.bslice false 4 1 [.int .i64 0] [(0, .i 0), (1, .i 1), (2, .i 2), (3, .i 0)]),
 ⟨(some 45), (some (40, false)), .off 0 (.t 7), (some (.t 7, .loc 7))⟩,
 ⟨(some 46), (some (40, false)), .load false 1 (.t 45), (some (.t 45, .loc 7))⟩,
 ⟨(some 47), (some (40, false)), .idxS 1 (.t 44) (.t 46), (some (.t 44, .lst))⟩,
 ⟨(some 48), (some (40, false)), .load false 1 (.t 47), (some (.t 47, .imm))⟩,
 .q 49 40 false (.bin .neq (.t 43) (.t 48)),
 .p 50 (.pick (.t 40) (.b true) (.t 49))]
def p92_9 : List (List Nat) := [[], [0], [1], [2], [3], [4, 3], [5, 3], [3, 6], [7, 3], [8], [9, 8], [10, 8], [8], [8], [13, 8], [12, 14, 8], [15, 8], [11, 16, 8], [8, 17]]
@[simp] def r92_10 : List AOp :=
 [.p 51 (.build [.lst .nil [], .lst .nil []] []),
 .n (.store 2 (.t 2) (.t 51)),
 .p 3 (.mov (.i 5))]
@[simp] def r92_11 : List AOp :=
 [.p 8 (.mov (.c (.lst .nil [])))]
@[simp] def r92_12 : List AOp :=
 [.p 9 (.mov (.i 0))]
@[simp] def r92_13 : List AOp :=
 [.m 52 9,
 .p 53 (.off 2 (.t 7)),
 .p 54 (.load false 1 (.t 53)),
 .p 55 (.len (.t 54)),
 .p 56 (.bin .lss (.t 52) (.t 55))]
@[simp] def r92_15 : List AOp :=
 [.p 59 (.off 2 (.t 7)),
 .p 60 (.load false 1 (.t 59)),
 .m 61 9,
 .p 62 (.idxS 1 (.t 60) (.t 61)),
 .p 63 (.load false 1 (.t 62)),
 .p 64 (.bin .leq (.t 63) (.i 0)),
 .m 65 64,
 .q 66 65 false (.off 2 (.t 7)),
 .q 67 65 false (.load false 1 (.t 66)),
 .q 68 65 false (.mov (.t 9)),
 .q 69 65 false (.idxS 1 (.t 67) (.t 68)),
 .q 70 65 false (.load false 1 (.t 69)),
 .q 71 65 false (.mov (.t 4)),
 .q 72 65 false (.bin .geq (.t 70) (.t 71)),
 .p 73 (.pick (.t 65) (.b true) (.t 72))]
@[simp] def r92_16 : List AOp :=
 [.p 74 (.build [.lst .nil [], .lst .nil []] []),
 .n (.store 2 (.t 2) (.t 74)),
 .p 3 (.mov (.i 5))]
@[simp] def r92_14 : List AOp :=
 [.m 57 9,
 .p 58 (.bin .add (.t 57) (.i 1)),
 .m 9 58]
def l92_1 : AC :=
 .seq (.seq (.ops r92_13)
   (.cond (.t 56) (.skip) (.exit 2)))
 (.seq (.block 3 (.seq (.ops r92_15)
    (.cond (.t 73) (.seq (.ops r92_16)
     (.ret)) (.skip))))
   (.ops r92_14))
@[simp] def r92_17 : List AOp :=
 [.p 10 (.mov (.i 1))]
@[simp] def r92_18 : List AOp :=
 [.m 75 10,
 .m 76 4,
 .p 77 (.bin .lss (.t 75) (.t 76))]
@[simp] def r92_20 : List AOp :=
 [.p 80 (.off 2 (.t 7)),
 .p 81 (.load false 1 (.t 80)),
 .m 82 10,
 .p 83 (.call 105 [.t 81, .t 82])]
@[simp] def r92_21 : List AOp :=
 [.m 84 8,
 .m 85 10,
 .p 86 (.bslice false 1 1 [.int .i64 0] [(0, .t 85)]),
 .p 87 (.append false 1 8 (.t 84) (.t 86)),
 .m 8 87]
@[simp] def r92_19 : List AOp :=
 [.m 78 10,
 .p 79 (.bin .add (.t 78) (.i 1)),
 .m 10 79]
def l92_2 : AC :=
 .seq (.seq (.ops r92_18)
   (.cond (.t 77) (.skip) (.exit 4)))
 (.seq (.block 5 (.seq (.ops r92_20)
    (.cond (.t 83) (.ops r92_21) (.skip))))
   (.ops r92_19))
@[simp] def r92_22 : List AOp :=
 [.m 88 5,
 .m 89 8,
 .p 90 (.bslice false 1 1 [.lst .nil []] [(0, .t 89)]),
 .p 91 (.append false 1 24 (.t 88) (.t 90)),
 .m 5 91]
@[simp] def r92_7 : List AOp :=
 [.m 24 6,
 .p 25 (.bin .add (.t 24) (.i 1)),
 .m 6 25]
def l92_0 : AC :=
 .seq (.seq (.ops r92_6)
   (.cond (.t 23) (.skip) (.exit 0)))
 (.seq (.block 1 (.seq (.ops r92_8)
    (.seq (.seq (.tops r92_9
     p92_9)
     (.cond (.t 50) (.seq (.ops r92_10)
      (.ret)) (.skip)))
   (.seq (.ops r92_11)
     (.seq (.seq (.ops r92_12)
      (.block 2 (.loop l92_1)))
    (.seq (.seq (.ops r92_17)
     (.block 4 (.loop l92_2)))
      (.ops r92_22)))))))
   (.ops r92_7))
@[simp] def r92_23 : List AOp :=
 [.m 92 5,
 .p 93 (.call 144 [.t 92]),
 .p 94 (.ext (.t 93) 0),
 .p 95 (.ext (.t 93) 1),
 .n (.store 2 (.t 2) (.t 94)),
 .m 3 95]
def c92 : AC :=
 .seq (.ops r92_0)
 (.seq (.ops r92_1)
   (.seq (.seq (.ops r92_2)
    (.cond (.t 19) (.seq (.ops r92_3)
     (.ret)) (.skip)))
  (.seq (.ops r92_4)
    (.seq (.seq (.ops r92_5)
     (.block 0 (.loop l92_0)))
   (.seq (.ops r92_23)
     (.ret))))))
def a92 : AFn := { res := [.cell 2 2 true, .tmp 3], body := c92, keepA := false, keepR := false, pure := true }
theorem k92 : chkFn Tryz.prog Tryz.f92 a92 = true := by kernel_rfl
@[simp] def r93_0 : List AOp :=
 [.p 2 (.box false 2 (.t 0)),
 .p 4 (.mov (.c (.lst .nil [])))]
@[simp] def r93_1 : List AOp :=
 [.p 16 (.load true 2 (.t 2)),
 .p 17 (.call 145 [.t 16]),
 .p 18 (.un .not (.t 17)),
 .m 19 18,
 .q 20 19 false (.mov (.t 1)),
 .q 21 19 false (.bin .lss (.t 20) (.i 0)),
 .p 22 (.pick (.t 19) (.b true) (.t 21)),
 .m 23 22,
 .q 24 23 false (.mov (.t 1)),
 .q 25 23 false (.off 0 (.t 2)),
 .q 26 23 false (.load false 1 (.t 25)),
 .q 27 23 false (.len (.t 26)),
 .q 28 23 false (.bin .geq (.t 24) (.t 27)),
 .p 29 (.pick (.t 23) (.b true) (.t 28))]
@[simp] def r93_2 : List AOp :=
 [.p 4 (.mov (.c (.lst .nil [])))]
@[simp] def r93_3 : List AOp :=
 [.p 30 (.off 0 (.t 2)),
 .p 31 (.load false 1 (.t 30)),
 .p 32 (.len (.t 31)),
 .m 5 32]
@[simp] def r93_4 : List AOp :=
 [.p 33 (.load true 2 (.t 2)),
 .m 34 1,
 .p 35 (.call 141 [.t 33, .t 34, .c (.int .i64 (-1))]),
 .m 6 35]
@[simp] def r93_5 : List AOp :=
 [.m 36 5,
 .p 37 (.mkslice true 1 24 [.lst .nil []] (.t 36) (.t 36)),
 .m 7 37]
@[simp] def r93_6 : List AOp :=
 [.p 8 (.mov (.i 0))]
@[simp] def r93_7 : List AOp :=
 [.m 38 8,
 .m 39 5,
 .p 40 (.bin .lss (.t 38) (.t 39))]
@[simp] def r93_9 : List AOp :=
 [.m 43 7,
 .m 44 8,
 .m 45 5,
 .p 46 (.mkslice true 1 1 [.bool false] (.t 45) (.t 45)),
 .p 47 (.idxS 1 (.t 43) (.t 44)),
 .n (.store 1 (.t 47) (.t 46))]
@[simp] def r93_10 : List AOp :=
 [.p 48 (.load true 2 (.t 2)),
 .m 49 1,
 .m 50 8,
 .p 51 (.call 141 [.t 48, .t 49, .t 50]),
 .m 9 51]
@[simp] def r93_11 : List AOp :=
 [.p 10 (.mov (.i 0))]
@[simp] def r93_12 : List AOp :=
 [.m 52 10,
 .m 53 5,
 .p 54 (.bin .lss (.t 52) (.t 53))]
@[simp] def r93_14 : List AOp :=
 [.m 57 7,
 .m 58 8,
 .l 59 (.idxS 1 (.t 57) (.t 58)) 57 .lst,
 .l 60 (.load false 1 (.t 59)) 59 .imm,
 .m 61 10,
 .m 62 6,
 .m 63 10,
 .l 64 (.idxS 1 (.t 62) (.t 63)) 62 .lst,
 .l 65 (.load false 1 (.t 64)) 64 .imm,
 .m 66 65,
 .q 67 66 true (.mov (.t 9)),
 .q 68 66 true (.mov (.t 10)),
 ⟨(some 69), (some (66, true)), .idxS 1 (.t 67) (.t 68), (some (.t 67, .lst))⟩,
 ⟨(some 70), (some (66, true)), .load false 1 (.t 69), (some (.t 69, .imm))⟩,
 .q 71 66 true (.un .not (.t 70)),
 .p 72 (.pick (.t 66) (.t 71) (.b false)),
 .l 73 (.idxS 1 (.t 60) (.t 61)) 60 .lst,
 .n (.store 1 (.t 73) (.t 72))]
def p93_14 : List (List Nat) := [[], [], [0, 1], [2], [], [], [], [5, 6], [7], [8], [9], [9], [10, 11, 9], [12, 9], [13, 9], [9, 14], [3, 4, 0, 1, 2, 3, 4, 5, 6, 7, 8, 9, 10, 11, 12, 13, 14, 15], [16, 15, 9, 0, 1, 2, 3, 4, 5, 6, 7, 8, 9, 10, 11, 12, 13, 14, 15]]
@[simp] def r93_13 : List AOp :=
 [.m 55 10,
 .p 56 (.bin .add (.t 55) (.i 1)),
 .m 10 56]
def l93_1 : AC :=
 .seq (.seq (.ops r93_12)
   (.cond (.t 54) (.skip) (.exit 2)))
 (.seq (.block 3 (.tops r93_14
     p93_14))
   (.ops r93_13))
@[simp] def r93_8 : List AOp :=
 [.m 41 8,
 .p 42 (.bin .add (.t 41) (.i 1)),
 .m 8 42]
def l93_0 : AC :=
 .seq (.seq (.ops r93_7)
   (.cond (.t 40) (.skip) (.exit 0)))
 (.seq (.block 1 (.seq (.ops r93_9)
    (.seq (.ops r93_10)
   (.seq (.ops r93_11)
     (.block 2 (.loop l93_1))))))
   (.ops r93_8))
@[simp] def r93_15 : List AOp :=
 [.m 74 5,
 .p 75 (.mkslice true 1 8 [.int .i64 0] (.t 74) (.t 74)),
 .m 11 75]
@[simp] def r93_16 : List AOp :=
 [.p 12 (.mov (.i 0))]
@[simp] def r93_17 : List AOp :=
 [.m 76 12,
 .m 77 5,
 .p 78 (.bin .lss (.t 76) (.t 77))]
@[simp] def r93_19 : List AOp :=
 [.m 81 11,
 .m 82 12,
 .p 83 (.idxS 1 (.t 81) (.t 82)),
 .n (.store 1 (.t 83) (.c (.int .i64 (-2))))]
@[simp] def r93_20 : List AOp :=
 [.m 84 12,
 .m 85 1,
 .p 86 (.bin .eql (.t 84) (.t 85))]
@[simp] def r93_21 : List AOp :=
 [.m 87 11,
 .m 88 12,
 .p 89 (.idxS 1 (.t 87) (.t 88)),
 .n (.store 1 (.t 89) (.c (.int .i64 (-1))))]
@[simp] def r93_22 : List AOp :=
 [.p 13 (.mov (.i 0))]
@[simp] def r93_23 : List AOp :=
 [.m 90 13,
 .m 91 5,
 .p 92 (.bin .lss (.t 90) (.t 91)),
 .m 93 92,
 .q 94 93 true (.mov (.t 12)),
 .q 95 93 true (.mov (.t 1)),
 .q 96 93 true (.bin .neq (.t 94) (.t 95)),
 .p 97 (.pick (.t 93) (.t 96) (.b false))]
@[simp] def r93_25 : List AOp :=
 [.m 100 13,
 .m 101 12,
 .p 102 (.bin .eql (.t 100) (.t 101)),
 .m 103 102,
 .q 104 103 false (.mov (.t 7)),
 .q 105 103 false (.mov (.t 13)),
 .q 106 103 false (.idxS 1 (.t 104) (.t 105)),
 .q 107 103 false (.load false 1 (.t 106)),
 .q 108 103 false (.mov (.t 12)),
 .q 109 103 false (.idxS 1 (.t 107) (.t 108)),
 .q 110 103 false (.load false 1 (.t 109)),
 .q 111 103 false (.un .not (.t 110)),
 .p 112 (.pick (.t 103) (.b true) (.t 111))]
@[simp] def r93_26 : List AOp :=
 [.p 14 (.mov (.b true))]
@[simp] def r93_27 : List AOp :=
 [.p 15 (.mov (.i 0))]
@[simp] def r93_28 : List AOp :=
 [.m 113 15,
 .m 114 5,
 .p 115 (.bin .lss (.t 113) (.t 114))]
@[simp] def r93_30 : List AOp :=
 [.m 118 14,
 .m 119 118,
 .q 120 119 true (.mov (.t 15)),
 .q 121 119 true (.mov (.t 12)),
 .q 122 119 true (.bin .eql (.t 120) (.t 121)),
 .q 123 119 true (.mov (.t 122)),
 .q 124 123 false (.mov (.t 7)),
 .q 125 123 false (.mov (.t 15)),
 .q 126 123 false (.idxS 1 (.t 124) (.t 125)),
 .q 127 123 false (.load false 1 (.t 126)),
 .q 128 123 false (.mov (.t 12)),
 .q 129 123 false (.idxS 1 (.t 127) (.t 128)),
 .q 130 123 false (.load false 1 (.t 129)),
 .q 131 123 false (.un .not (.t 130)),
 .q 132 119 true (.pick (.t 123) (.b true) (.t 131)),
 .q 133 119 true (.mov (.t 132)),
 .q 134 133 false (.mov (.t 7)),
 .q 135 133 false (.mov (.t 15)),
 .q 136 133 false (.idxS 1 (.t 134) (.t 135)),
 .q 137 133 false (.load false 1 (.t 136)),
 .q 138 133 false (.mov (.t 13)),
 .q 139 133 false (.idxS 1 (.t 137) (.t 138)),
 .q 140 133 false (.load false 1 (.t 139)),
 .q 141 119 true (.pick (.t 133) (.b true) (.t 140)),
 .p 142 (.pick (.t 119) (.t 141) (.b false)),
 .m 14 142]
@[simp] def r93_29 : List AOp :=
 [.m 116 15,
 .p 117 (.bin .add (.t 116) (.i 1)),
 .m 15 117]
def l93_4 : AC :=
 .seq (.seq (.ops r93_28)
   (.cond (.t 115) (.skip) (.exit 8)))
 (.seq (.block 9 (.ops r93_30))
   (.ops r93_29))
@[simp] def r93_31 : List AOp :=
 [.m 143 14]
@[simp] def r93_32 : List AOp :=
 [.m 144 11,
 .m 145 12,
 .m 146 13,
 .p 147 (.idxS 1 (.t 144) (.t 145)),
 .n (.store 1 (.t 147) (.t 146))]
@[simp] def r93_24 : List AOp :=
 [.m 98 13,
 .p 99 (.bin .add (.t 98) (.i 1)),
 .m 13 99]
def l93_3 : AC :=
 .seq (.seq (.ops r93_23)
   (.cond (.t 97) (.skip) (.exit 6)))
 (.seq (.block 7 (.seq (.seq (.ops r93_25)
   (.cond (.t 112) (.exit 7) (.skip)))
    (.seq (.ops r93_26)
   (.seq (.seq (.ops r93_27)
    (.block 8 (.loop l93_4)))
     (.seq (.ops r93_31)
    (.cond (.t 143) (.ops r93_32) (.skip)))))))
   (.ops r93_24))
@[simp] def r93_18 : List AOp :=
 [.m 79 12,
 .p 80 (.bin .add (.t 79) (.i 1)),
 .m 12 80]
def l93_2 : AC :=
 .seq (.seq (.ops r93_17)
   (.cond (.t 78) (.skip) (.exit 4)))
 (.seq (.block 5 (.seq (.ops r93_19)
    (.seq (.seq (.ops r93_20)
     (.cond (.t 86) (.ops r93_21) (.skip)))
   (.seq (.ops r93_22)
     (.block 6 (.loop l93_3))))))
   (.ops r93_18))
@[simp] def r93_33 : List AOp :=
 [.m 148 11,
 .m 4 148]
def c93 : AC :=
 .seq (.ops r93_0)
 (.seq (.seq (.ops r93_1)
  (.cond (.t 29) (.seq (.ops r93_2)
   (.ret)) (.skip)))
   (.seq (.ops r93_3)
  (.seq (.ops r93_4)
    (.seq (.ops r93_5)
   (.seq (.seq (.ops r93_6)
    (.block 0 (.loop l93_0)))
     (.seq (.ops r93_15)
    (.seq (.seq (.ops r93_16)
     (.block 4 (.loop l93_2)))
      (.seq (.ops r93_33)
     (.ret)))))))))
def a93 : AFn := { res := [.tmp 4], body := c93, keepA := false, keepR := false, pure := true }
theorem k93 : chkFn Tryz.prog Tryz.f93 a93 = true := by kernel_rfl
@[simp] def r94_0 : List AOp :=
 [.p 6 (.mov (.i 0))]
@[simp] def r94_1 : List AOp :=
 [.m 10 0,
 .p 11 (.call 146 [.t 10]),
 .p 12 (.un .not (.t 11))]
@[simp] def r94_2 : List AOp :=
 [.p 6 (.mov (.c (.int .i64 (-2))))]
@[simp] def r94_3 : List AOp :=
 [.m 13 0,
 .m 14 1,
 .p 15 (.call 147 [.t 13, .t 14]),
 .m 7 15]
@[simp] def r94_4 : List AOp :=
 [.m 16 0,
 .m 17 2,
 .p 18 (.call 147 [.t 16, .t 17]),
 .m 8 18]
@[simp] def r94_5 : List AOp :=
 [.p 9 (.mov (.i 0))]
@[simp] def r94_6 : List AOp :=
 [.m 19 9,
 .m 20 7,
 .p 21 (.len (.t 20)),
 .p 22 (.bin .lss (.t 19) (.t 21))]
@[simp] def r94_8 : List AOp :=
 [.m 25 8,
 .m 26 7,
 .m 27 9,
 .p 28 (.idxS 1 (.t 26) (.t 27)),
 .p 29 (.load false 1 (.t 28)),
 .p 30 (.call 105 [.t 25, .t 29])]
@[simp] def r94_9 : List AOp :=
 [.m 31 7,
 .m 32 9,
 .p 33 (.idxS 1 (.t 31) (.t 32)),
 .p 34 (.load false 1 (.t 33)),
 .m 6 34]
@[simp] def r94_7 : List AOp :=
 [.m 23 9,
 .p 24 (.bin .add (.t 23) (.i 1)),
 .m 9 24]
def l94_0 : AC :=
 .seq (.seq (.ops r94_6)
   (.cond (.t 22) (.skip) (.exit 0)))
 (.seq (.block 1 (.seq (.ops r94_8)
    (.cond (.t 30) (.seq (.ops r94_9)
     (.ret)) (.skip))))
   (.ops r94_7))
@[simp] def r94_10 : List AOp :=
 [.p 6 (.mov (.c (.int .i64 (-2))))]
def c94 : AC :=
 .seq (.ops r94_0)
 (.seq (.seq (.ops r94_1)
  (.cond (.t 12) (.seq (.ops r94_2)
   (.ret)) (.skip)))
   (.seq (.ops r94_3)
  (.seq (.ops r94_4)
    (.seq (.seq (.ops r94_5)
     (.block 0 (.loop l94_0)))
   (.seq (.ops r94_10)
     (.ret))))))
def a94 : AFn := { res := [.tmp 6], body := c94, keepA := false, keepR := false, pure := true }
theorem k94 : chkFn Tryz.prog Tryz.f94 a94 = true := by kernel_rfl
@[simp] def r96_0 : List AOp :=
 [.p 2 (.box false 3 (.t 0)),
 .p 4 (.mov (.i 0))]
@[simp] def r96_1 : List AOp :=
 [.m 7 1,
 .p 8 (.bin .lss (.t 7) (.i 0)),
 .m 9 8,
 .q 10 9 false (.mov (.t 1)),
 .q 11 9 false (.bin .gtr (.t 10) (.i 2)),
 .p 12 (.pick (.t 9) (.b true) (.t 11))]
@[simp] def r96_2 : List AOp :=
 [.p 4 (.mov (.i 1))]
@[simp] def r96_3 : List AOp :=
 [.p 14 (.load true 3 (.t 2)),
 .m 15 1,
 .p 16 (.call 118 [.t 14, .t 15]),
 .m 13 16,
 .p 17 (.ext (.t 13) 0),
 .p 18 (.ext (.t 13) 1),
 .m 5 17,
 .m 6 18]
@[simp] def r96_4 : List AOp :=
 [.m 19 6,
 .m 4 19]
def c96 : AC :=
 .seq (.ops r96_0)
 (.seq (.seq (.ops r96_1)
  (.cond (.t 12) (.seq (.ops r96_2)
   (.ret)) (.skip)))
   (.seq (.ops r96_3)
  (.seq (.ops r96_4)
    (.ret))))
def a96 : AFn := { res := [.tmp 4], body := c96, keepA := false, keepR := false, pure := true }
theorem k96 : chkFn Tryz.prog Tryz.f96 a96 = true := by kernel_rfl
@[simp] def r102_0 : List AOp :=
 [.p 1 (.box false 3 (.t 0)),
 .p 2 (.mov (.b false))]
@[simp] def r102_1 : List AOp :=
 [.p 3 (.off 2 (.t 1)),
 .p 4 (.load false 1 (.t 3)),
 .p 5 (.len (.t 4)),
 .p 6 (.bin .lss (.t 5) (.i 1)),
 .m 7 6,
 .q 8 7 false (.off 2 (.t 1)),
 .q 9 7 false (.load false 1 (.t 8)),
 .q 10 7 false (.len (.t 9)),
 .q 11 7 false (.bin .gtr (.t 10) (.i 64)),
 .p 12 (.pick (.t 7) (.b true) (.t 11)),
 .m 13 12,
 .q 14 13 false (.off 0 (.t 1)),
 .q 15 13 false (.load false 1 (.t 14)),
 .q 16 13 false (.len (.t 15)),
 .q 17 13 false (.bin .gtr (.t 16) (.i 16)),
 .p 18 (.pick (.t 13) (.b true) (.t 17)),
 .m 19 18,
 .q 20 19 false (.load true 3 (.t 1)),
 .q 21 19 false (.call 156 [.t 20]),
 .q 22 19 false (.bin .gtr (.t 21) (.i 512)),
 .p 23 (.pick (.t 19) (.b true) (.t 22)),
 .m 24 23,
 .q 25 24 false (.off 1 (.t 1)),
 .q 26 24 false (.load false 1 (.t 25)),
 .q 27 24 false (.bslice false 1 1 [.int .i64 0] [(0, .t 26)]),
 .q 28 24 false (.call 157 [.t 27]),
 .q 29 24 false (.un .not (.t 28)),
 .p 30 (.pick (.t 24) (.b true) (.t 29)),
 .m 31 30,
 .q 32 31 false (.off 0 (.t 1)),
 .q 33 31 false (.load false 1 (.t 32)),
 .q 34 31 false (.call 157 [.t 33]),
 .q 35 31 false (.un .not (.t 34)),
 .p 36 (.pick (.t 31) (.b true) (.t 35))]
@[simp] def r102_2 : List AOp :=
 [.p 2 (.mov (.b false))]
@[simp] def r102_3 : List AOp :=
 [.p 37 (.off 2 (.t 1)),
 .p 38 (.load false 1 (.t 37)),
 .p 39 (.call 158 [.t 38, .c (.fn 159 [] [])]),
 .p 40 (.un .not (.t 39)),
 .m 2 40]
def c102 : AC :=
 .seq (.ops r102_0)
 (.seq (.seq (.ops r102_1)
  (.cond (.t 36) (.seq (.ops r102_2)
   (.ret)) (.skip)))
   (.seq (.ops r102_3)
  (.ret)))
def a102 : AFn := { res := [.tmp 2], body := c102, keepA := false, keepR := false, pure := true }
theorem k102 : chkFn Tryz.prog Tryz.f102 a102 = true := by kernel_rfl
@[simp] def r105_0 : List AOp :=
 [.p 4 (.mov (.b false))]
@[simp] def r105_1 : List AOp :=
 [.p 5 (.mov (.i 0))]
@[simp] def r105_2 : List AOp :=
 [.m 6 5,
 .m 7 0,
 .p 8 (.len (.t 7)),
 .p 9 (.bin .lss (.t 6) (.t 8))]
@[simp] def r105_4 : List AOp :=
 [.m 12 0,
 .m 13 5,
 .p 14 (.idxS 1 (.t 12) (.t 13)),
 .p 15 (.load false 1 (.t 14)),
 .m 16 1,
 .p 17 (.bin .eql (.t 15) (.t 16))]
@[simp] def r105_5 : List AOp :=
 [.p 4 (.mov (.b true))]
@[simp] def r105_3 : List AOp :=
 [.m 10 5,
 .p 11 (.bin .add (.t 10) (.i 1)),
 .m 5 11]
def l105_0 : AC :=
 .seq (.seq (.ops r105_2)
   (.cond (.t 9) (.skip) (.exit 0)))
 (.seq (.block 1 (.seq (.ops r105_4)
    (.cond (.t 17) (.seq (.ops r105_5)
     (.ret)) (.skip))))
   (.ops r105_3))
@[simp] def r105_6 : List AOp :=
 [.p 4 (.mov (.b false))]
def c105 : AC :=
 .seq (.ops r105_0)
 (.seq (.seq (.ops r105_1)
  (.block 0 (.loop l105_0)))
   (.seq (.ops r105_6)
  (.ret)))
def a105 : AFn := { res := [.tmp 4], body := c105, keepA := false, keepR := false, pure := true }
theorem k105 : chkFn Tryz.prog Tryz.f105 a105 = true := by kernel_rfl
@[simp] def r112_0 : List AOp :=
 [.p 4 (.mov (.b false))]
@[simp] def r112_1 : List AOp :=
 [.m 6 0,
 .p 7 (.len (.t 6)),
 .m 8 1,
 .p 9 (.len (.t 8)),
 .p 10 (.bin .neq (.t 7) (.t 9))]
@[simp] def r112_2 : List AOp :=
 [.p 4 (.mov (.b false))]
@[simp] def r112_3 : List AOp :=
 [.m 11 0,
 .p 12 (.len (.t 11)),
 .p 13 (.mov (.i 0))]
@[simp] def r112_4 : List AOp :=
 [.p 14 (.bin .lss (.t 13) (.t 12))]
@[simp] def r112_5 : List AOp :=
 [.m 15 13,
 .m 5 15]
@[simp] def r112_6 : List AOp :=
 [.m 16 0,
 .m 17 5,
 .l 18 (.idxS 2 (.t 16) (.t 17)) 16 .lst,
 .l 19 (.load true 2 (.t 18)) 18 .imm,
 .m 20 1,
 .m 21 5,
 .l 22 (.idxS 2 (.t 20) (.t 21)) 20 .lst,
 .l 23 (.load true 2 (.t 22)) 22 .imm,
 .p 24 (.eq true (.agg 2) (.t 19) (.t 23))]
def p112_6 : List (List Nat) := [[], [], [0, 1], [2], [], [], [4, 5], [6], [3, 7]]
@[simp] def r112_7 : List AOp :=
 [.p 4 (.mov (.b false))]
@[simp] def r112_8 : List AOp :=
 [.p 25 (.bin .add (.t 13) (.i 1)),
 .m 13 25]
def l112_0 : AC :=
 .seq (.ops r112_4)
 (.seq (.cond (.t 14) (.skip) (.exit 0))
   (.seq (.block 1 (.seq (.ops r112_5)
   (.seq (.tops r112_6
     p112_6)
     (.cond (.t 24) (.seq (.ops r112_7)
      (.ret)) (.skip)))))
  (.ops r112_8)))
@[simp] def r112_9 : List AOp :=
 [.p 4 (.mov (.b true))]
def c112 : AC :=
 .seq (.ops r112_0)
 (.seq (.seq (.ops r112_1)
  (.cond (.t 10) (.seq (.ops r112_2)
   (.ret)) (.skip)))
   (.seq (.seq (.ops r112_3)
    (.block 0 (.loop l112_0)))
  (.seq (.ops r112_9)
    (.ret))))
def a112 : AFn := { res := [.tmp 4], body := c112, keepA := false, keepR := false, pure := true }
theorem k112 : chkFn Tryz.prog Tryz.f112 a112 = true := by kernel_rfl
@[simp] def r113_0 : List AOp :=
 [.p 2 (.mov (.b false))]
@[simp] def r113_1 : List AOp :=
 [.m 3 0,
 .p 4 (.call 165 [.t 3, .c (.fn 166 [] [])]),
 .p 5 (.un .not (.t 4)),
 .m 2 5]
def c113 : AC :=
 .seq (.ops r113_0)
 (.seq (.ops r113_1)
   (.ret))
def a113 : AFn := { res := [.tmp 2], body := c113, keepA := false, keepR := false, pure := true }
theorem k113 : chkFn Tryz.prog Tryz.f113 a113 = true := by kernel_rfl
@[simp] def r114_0 : List AOp :=
 [.p 3 (.box false 2 (.t 0)),
 .p 4 (.box false 2 (.t 1)),
 .p 6 (.alloc false [.lst .nil [], .int .u64 0])]
@[simp] def r114_1 : List AOp :=
 [.m 11 2,
 .p 12 (.off 1 (.t 3)),
 .p 13 (.load false 1 (.t 12)),
 .p 14 (.off 1 (.t 4)),
 .p 15 (.load false 1 (.t 14)),
 .p 16 (.calld (.t 11) [.t 13, .t 15]),
 .p 17 (.build [.lst .nil [], .int .u64 0] [(1, 1, .t 16)]),
 .p 7 (.alloc false [.lst .nil [], .int .u64 0]),
 .n (.store 2 (.t 7) (.t 17))]
@[simp] def r114_2 : List AOp :=
 [.p 8 (.mov (.i 0)),
 .p 9 (.mov (.i 0))]
@[simp] def r114_3 : List AOp :=
 [.m 18 8,
 .p 19 (.off 0 (.t 3)),
 .p 20 (.load false 1 (.t 19)),
 .p 21 (.len (.t 20)),
 .p 22 (.bin .lss (.t 18) (.t 21)),
 .m 23 22,
 .q 24 23 false (.mov (.t 9)),
 .q 25 23 false (.off 0 (.t 4)),
 .q 26 23 false (.load false 1 (.t 25)),
 .q 27 23 false (.len (.t 26)),
 .q 28 23 false (.bin .lss (.t 24) (.t 27)),
 .p 29 (.pick (.t 23) (.b true) (.t 28))]
@[simp] def r114_4 : List AOp :=
 [.p 10 (.alloc false [.int .i64 0, .int .u64 0])]
@[simp] def r114_7 : List AOp :=
 [.m 56 9,
 .l 57 (.off 0 (.t 4)) 4 (.loc 4),
 .l 58 (.load false 1 (.t 57)) 57 (.loc 4),
 .p 59 (.len (.t 58)),
 .p 60 (.bin .eql (.t 56) (.t 59)),
 .m 61 60,
 .q 62 61 false (.mov (.t 8)),
 ⟨(some 63), (some (61, false)), .off 0 (.t 3), (some (.t 3, .loc 3))⟩,
 ⟨(some 64), (some (61, false)), .load false 1 (.t 63), (some (.t 63, .loc 3))⟩,
 .q 65 61 false (.len (.t 64)),
 .q 66 61 false (.bin .lss (.t 62) (.t 65)),
 .q 67 61 false (.mov (.t 66)),
 ⟨(some 68), (some (67, true)), .off 0 (.t 3), (some (.t 3, .loc 3))⟩,
 ⟨(some 69), (some (67, true)), .load false 1 (.t 68), (some (.t 68, .loc 3))⟩,
 .q 70 67 true (.mov (.t 8)),
 ⟨(some 71), (some (67, true)), .idxS 2 (.t 69) (.t 70), (some (.t 69, .lst))⟩,
 ⟨(some 72), (some (67, true)), .off 0 (.t 71), (some (.t 71, .imm))⟩,
 ⟨(some 73), (some (67, true)), .load false 1 (.t 72), (some (.t 72, .imm))⟩,
 ⟨(some 74), (some (67, true)), .off 0 (.t 4), (some (.t 4, .loc 4))⟩,
 ⟨(some 75), (some (67, true)), .load false 1 (.t 74), (some (.t 74, .loc 4))⟩,
 .q 76 67 true (.mov (.t 9)),
 ⟨(some 77), (some (67, true)), .idxS 2 (.t 75) (.t 76), (some (.t 75, .lst))⟩,
 ⟨(some 78), (some (67, true)), .off 0 (.t 77), (some (.t 77, .imm))⟩,
 ⟨(some 79), (some (67, true)), .load false 1 (.t 78), (some (.t 78, .imm))⟩,
 .q 80 67 true (.bin .lss (.t 73) (.t 79)),
 .q 81 61 false (.pick (.t 67) (.t 80) (.b false)),
 .p 82 (.pick (.t 61) (.b true) (.t 81)),
 .m 55 82]
def p114_7 : List (List Nat) := [[], [], [1], [2], [0, 3], [4], [5], [5], [7, 5], [8, 5], [6, 9, 5], [10, 5, 5], [11], [12, 11], [11], [13, 14, 11], [15, 11], [16, 11], [11], [18, 11], [11], [19, 20, 11], [21, 11], [22, 11], [17, 23, 11], [11, 24, 5], [5, 25], [26, 11]]
@[simp] def r114_8 : List AOp :=
 [.l 83 (.off 0 (.t 3)) 3 (.loc 3),
 .l 84 (.load false 1 (.t 83)) 83 (.loc 3),
 .m 85 8,
 .l 86 (.idxS 2 (.t 84) (.t 85)) 84 .lst,
 .l 87 (.off 0 (.t 86)) 86 .imm,
 .l 88 (.load false 1 (.t 87)) 87 .imm,
 .m 89 2,
 .l 90 (.off 0 (.t 3)) 3 (.loc 3),
 .l 91 (.load false 1 (.t 90)) 90 (.loc 3),
 .m 92 8,
 .l 93 (.idxS 2 (.t 91) (.t 92)) 91 .lst,
 .l 94 (.off 1 (.t 93)) 93 .imm,
 .l 95 (.load false 1 (.t 94)) 94 .imm,
 .p 96 (.calld (.t 89) [.t 95, .u 0]),
 .p 97 (.build [.int .i64 0, .int .u64 0] [(0, 1, .t 88), (1, 1, .t 96)]),
 ⟨none, none, .store 2 (.t 10) (.t 97), (some (.t 10, .loc 10))⟩]
def p114_8 : List (List Nat) := [[], [0], [], [1, 2], [3], [4], [], [], [7], [], [8, 9], [10], [11], [6, 12], [5, 13], [14, 13, 0, 1, 2, 3, 4, 5, 6, 7, 8, 9, 10, 11, 12, 13, 14]]
@[simp] def r114_9 : List AOp :=
 [.m 98 8,
 .p 99 (.bin .add (.t 98) (.i 1)),
 .m 8 99]
@[simp] def r114_10 : List AOp :=
 [.m 101 8,
 .l 102 (.off 0 (.t 3)) 3 (.loc 3),
 .l 103 (.load false 1 (.t 102)) 102 (.loc 3),
 .p 104 (.len (.t 103)),
 .p 105 (.bin .eql (.t 101) (.t 104)),
 .m 106 105,
 ⟨(some 107), (some (106, false)), .off 0 (.t 4), (some (.t 4, .loc 4))⟩,
 ⟨(some 108), (some (106, false)), .load false 1 (.t 107), (some (.t 107, .loc 4))⟩,
 .q 109 106 false (.mov (.t 9)),
 ⟨(some 110), (some (106, false)), .idxS 2 (.t 108) (.t 109), (some (.t 108, .lst))⟩,
 ⟨(some 111), (some (106, false)), .off 0 (.t 110), (some (.t 110, .imm))⟩,
 ⟨(some 112), (some (106, false)), .load false 1 (.t 111), (some (.t 111, .imm))⟩,
 ⟨(some 113), (some (106, false)), .off 0 (.t 3), (some (.t 3, .loc 3))⟩,
 ⟨(some 114), (some (106, false)), .load false 1 (.t 113), (some (.t 113, .loc 3))⟩,
 .q 115 106 false (.mov (.t 8)),
 ⟨(some 116), (some (106, false)), .idxS 2 (.t 114) (.t 115), (some (.t 114, .lst))⟩,
 ⟨(some 117), (some (106, false)), .off 0 (.t 116), (some (.t 116, .imm))⟩,
 ⟨(some 118), (some (106, false)), .load false 1 (.t 117), (some (.t 117, .imm))⟩,
 .q 119 106 false (.bin .lss (.t 112) (.t 118)),
 .p 120 (.pick (.t 106) (.b true) (.t 119)),
 .m 100 120]
def p114_10 : List (List Nat) := [[], [], [1], [2], [0, 3], [4], [5], [6, 5], [5], [7, 8, 5], [9, 5], [10, 5], [5], [12, 5], [5], [13, 14, 5], [15, 5], [16, 5], [11, 17, 5], [5, 18], [19, 5]]
@[simp] def r114_11 : List AOp :=
 [.l 121 (.off 0 (.t 4)) 4 (.loc 4),
 .l 122 (.load false 1 (.t 121)) 121 (.loc 4),
 .m 123 9,
 .l 124 (.idxS 2 (.t 122) (.t 123)) 122 .lst,
 .l 125 (.off 0 (.t 124)) 124 .imm,
 .l 126 (.load false 1 (.t 125)) 125 .imm,
 .m 127 2,
 .l 128 (.off 0 (.t 4)) 4 (.loc 4),
 .l 129 (.load false 1 (.t 128)) 128 (.loc 4),
 .m 130 9,
 .l 131 (.idxS 2 (.t 129) (.t 130)) 129 .lst,
 .l 132 (.off 1 (.t 131)) 131 .imm,
 .l 133 (.load false 1 (.t 132)) 132 .imm,
 .p 134 (.calld (.t 127) [.u 0, .t 133]),
 .p 135 (.build [.int .i64 0, .int .u64 0] [(0, 1, .t 126), (1, 1, .t 134)]),
 ⟨none, none, .store 2 (.t 10) (.t 135), (some (.t 10, .loc 10))⟩]
def p114_11 : List (List Nat) := [[], [0], [], [1, 2], [3], [4], [], [], [7], [], [8, 9], [10], [11], [6, 12], [5, 13], [14, 13, 0, 1, 2, 3, 4, 5, 6, 7, 8, 9, 10, 11, 12, 13, 14]]
@[simp] def r114_12 : List AOp :=
 [.m 136 9,
 .p 137 (.bin .add (.t 136) (.i 1)),
 .m 9 137]
@[simp] def r114_5 : List AOp :=
 [.l 30 (.off 0 (.t 3)) 3 (.loc 3),
 .l 31 (.load false 1 (.t 30)) 30 (.loc 3),
 .m 32 8,
 .l 33 (.idxS 2 (.t 31) (.t 32)) 31 .lst,
 .l 34 (.off 0 (.t 33)) 33 .imm,
 .l 35 (.load false 1 (.t 34)) 34 .imm,
 .m 36 2,
 .l 37 (.off 0 (.t 3)) 3 (.loc 3),
 .l 38 (.load false 1 (.t 37)) 37 (.loc 3),
 .m 39 8,
 .l 40 (.idxS 2 (.t 38) (.t 39)) 38 .lst,
 .l 41 (.off 1 (.t 40)) 40 .imm,
 .l 42 (.load false 1 (.t 41)) 41 .imm,
 .l 43 (.off 0 (.t 4)) 4 (.loc 4),
 .l 44 (.load false 1 (.t 43)) 43 (.loc 4),
 .m 45 9,
 .l 46 (.idxS 2 (.t 44) (.t 45)) 44 .lst,
 .l 47 (.off 1 (.t 46)) 46 .imm,
 .l 48 (.load false 1 (.t 47)) 47 .imm,
 .p 49 (.calld (.t 36) [.t 42, .t 48]),
 .p 50 (.build [.int .i64 0, .int .u64 0] [(0, 1, .t 35), (1, 1, .t 49)]),
 ⟨none, none, .store 2 (.t 10) (.t 50), (some (.t 10, .loc 10))⟩]
def p114_5 : List (List Nat) := [[], [0], [], [1, 2], [3], [4], [], [], [7], [], [8, 9], [10], [11], [], [13], [], [14, 15], [16], [17], [6, 12, 18], [5, 19], [20, 19, 0, 1, 2, 3, 4, 5, 6, 7, 8, 9, 10, 11, 12, 13, 14, 15, 16, 17, 18, 19, 20]]
@[simp] def r114_6 : List AOp :=
 [.m 51 8,
 .p 52 (.bin .add (.t 51) (.i 1)),
 .m 53 9,
 .p 54 (.bin .add (.t 53) (.i 1)),
 .m 8 52,
 .m 9 54]
@[simp] def r114_13 : List AOp :=
 [.p 138 (.off 1 (.t 10)),
 .p 139 (.load false 1 (.t 138)),
 .p 140 (.bin .neq (.t 139) (.u 0))]
@[simp] def r114_14 : List AOp :=
 [.p 141 (.off 0 (.t 7)),
 .p 142 (.load false 1 (.t 141)),
 .p 143 (.load true 2 (.t 10)),
 .p 144 (.bslice false 1 2 [.int .i64 0, .int .u64 0] [(0, .t 143)]),
 .p 145 (.append false 2 16 (.t 142) (.t 144)),
 .p 146 (.off 0 (.t 7)),
 .n (.store 1 (.t 146) (.t 145))]
def l114_0 : AC :=
 .seq (.seq (.ops r114_3)
   (.cond (.t 29) (.skip) (.exit 0)))
 (.block 1 (.seq (.ops r114_4)
  (.seq (.block 2 (.seq (.tops r114_7
     p114_7)
     (.cond (.t 55) (.seq (.tops r114_8
      p114_8)
      (.ops r114_9)) (.seq (.tops r114_10
      p114_10)
      (.cond (.t 100) (.seq (.tops r114_11
       p114_11)
       (.ops r114_12)) (.seq (.tops r114_5
       p114_5)
       (.ops r114_6)))))))
    (.seq (.ops r114_13)
   (.cond (.t 140) (.ops r114_14) (.skip))))))
@[simp] def r114_15 : List AOp :=
 [.p 147 (.load true 2 (.t 7)),
 .n (.store 2 (.t 6) (.t 147))]
def c114 : AC :=
 .seq (.ops r114_0)
 (.seq (.ops r114_1)
   (.seq (.ops r114_2)
  (.seq (.block 0 (.loop l114_0))
    (.seq (.ops r114_15)
   (.ret)))))
def a114 : AFn := { res := [.cell 6 2 true], body := c114, keepA := false, keepR := false, pure := true }
theorem k114 : chkFn Tryz.prog Tryz.f114 a114 = true := by kernel_rfl
@[simp] def r115_0 : List AOp :=
 [.p 4 (.mov (.u 0))]
@[simp] def r115_1 : List AOp :=
 [.m 5 0,
 .m 6 1,
 .p 7 (.bin .sub (.t 5) (.t 6)),
 .m 4 7]
def c115 : AC :=
 .seq (.ops r115_0)
 (.seq (.ops r115_1)
   (.ret))
def a115 : AFn := { res := [.tmp 4], body := c115, keepA := false, keepR := false, pure := true }
theorem k115 : chkFn Tryz.prog Tryz.f115 a115 = true := by kernel_rfl
@[simp] def r116_0 : List AOp :=
 [.p 4 (.mov (.u 0))]
@[simp] def r116_1 : List AOp :=
 [.m 5 0,
 .m 6 1,
 .p 7 (.bin .add (.t 5) (.t 6)),
 .m 4 7]
def c116 : AC :=
 .seq (.ops r116_0)
 (.seq (.ops r116_1)
   (.ret))
def a116 : AFn := { res := [.tmp 4], body := c116, keepA := false, keepR := false, pure := true }
theorem k116 : chkFn Tryz.prog Tryz.f116 a116 = true := by kernel_rfl
@[simp] def r117_0 : List AOp :=
 [.p 5 (.mov (.u 0))]
@[simp] def r117_1 : List AOp :=
 [.m 6 0,
 .p 7 (.load false 1 (.t 2)),
 .p 8 (.bin .mul (.t 6) (.t 7)),
 .m 5 8]
def c117 : AC :=
 .seq (.ops r117_0)
 (.seq (.ops r117_1)
   (.ret))
def a117 : AFn := { res := [.tmp 5], body := c117, keepA := false, keepR := false, pure := true }
theorem k117 : chkFn Tryz.prog Tryz.f117 a117 = true := by kernel_rfl
@[simp] def r118_0 : List AOp :=
 [.p 2 (.box false 3 (.t 0)),
 .p 4 (.mov (.c (.nilp))),
 .p 5 (.mov (.i 0))]
@[simp] def r118_1 : List AOp :=
 [.p 10 (.load true 3 (.t 2)),
 .m 11 1,
 .p 12 (.build [.lst .nil [], .int .i64 0, .lst .nil [], .int .i64 0, .lst .nil [], .lst .nil [], .lst .nil [], .map none] [(0, 3, .t 10), (3, 1, .t 11)]),
 .p 13 (.box true 8 (.t 12)),
 .m 6 13]
@[simp] def r118_2 : List AOp :=
 [.p 14 (.load true 3 (.t 2)),
 .p 15 (.call 102 [.t 14]),
 .p 16 (.un .not (.t 15))]
@[simp] def r118_3 : List AOp :=
 [.m 17 6,
 .m 4 17,
 .p 5 (.mov (.i 4))]
@[simp] def r118_4 : List AOp :=
 [.m 18 6,
 .p 19 (.mkfn 167 [.t 18] []),
 .m 20 6,
 .p 21 (.mkfn 168 [.t 20] []),
 .m 22 6,
 .p 23 (.mkfn 169 [.t 22] []),
 .m 24 6,
 .p 25 (.mkfn 170 [.t 24] []),
 .m 26 6,
 .p 27 (.mkfn 171 [.t 26] []),
 .p 28 (.bslice false 5 1 [.nilFn] [(0, .t 19), (1, .t 21), (2, .t 23), (3, .t 25), (4, .t 27)]),
 .p 29 (.len (.t 28)),
 .p 30 (.mov (.i 0))]
@[simp] def r118_5 : List AOp :=
 [.p 31 (.bin .lss (.t 30) (.t 29))]
@[simp] def r118_6 : List AOp :=
 [.p 32 (.idxS 1 (.t 28) (.t 30)),
 .p 33 (.load false 1 (.t 32)),
 .m 8 33]
@[simp] def r118_7 : List AOp :=
 [.m 34 8,
 .p 35 (.calld (.t 34) []),
 .m 9 35]
@[simp] def r118_8 : List AOp :=
 [.m 36 9,
 .p 37 (.bin .neq (.t 36) (.i 0))]
@[simp] def r118_9 : List AOp :=
 [.m 38 6,
 .m 39 9,
 .m 4 38,
 .m 5 39]
@[simp] def r118_10 : List AOp :=
 [.p 40 (.bin .add (.t 30) (.i 1)),
 .m 30 40]
def l118_0 : AC :=
 .seq (.ops r118_5)
 (.seq (.cond (.t 31) (.skip) (.exit 0))
   (.seq (.block 1 (.seq (.ops r118_6)
   (.seq (.ops r118_7)
     (.seq (.ops r118_8)
    (.cond (.t 37) (.seq (.ops r118_9)
     (.ret)) (.skip))))))
  (.ops r118_10)))
@[simp] def r118_11 : List AOp :=
 [.m 41 6,
 .m 4 41,
 .p 5 (.mov (.i 0))]
def c118 : AC :=
 .seq (.ops r118_0)
 (.seq (.ops r118_1)
   (.seq (.seq (.ops r118_2)
    (.cond (.t 16) (.seq (.ops r118_3)
     (.ret)) (.skip)))
  (.seq (.seq (.ops r118_4)
   (.block 0 (.loop l118_0)))
    (.seq (.ops r118_11)
   (.ret)))))
def a118 : AFn := { res := [.tmp 4, .tmp 5], body := c118, keepA := false, keepR := false, pure := false }
theorem k118 : chkFn Tryz.prog Tryz.f118 a118 = true := by kernel_rfl
@[simp] def r119_0 : List AOp :=
 [.p 4 (.alloc false [.lst .nil [], .int .u64 0]),
 .p 5 (.mov (.b false))]
@[simp] def r119_1 : List AOp :=
 [.m 11 0,
 .p 12 (.nilchk (.t 11)),
 .p 13 (.off 0 (.t 12)),
 .p 14 (.load false 1 (.t 13)),
 .m 15 1,
 .p 16 (.lookup .i64 (.agg [.int .i64 0, .int .i64 0, .int .i64 0, .int .i64 0, .lst .nil [], .int .u64 0]) true (.t 14) (.t 15)),
 .m 10 16,
 .p 17 (.ext (.t 10) 0),
 .p 18 (.ext (.t 10) 1),
 .p 6 (.alloc false [.int .i64 0, .int .i64 0, .int .i64 0, .int .i64 0, .lst .nil [], .int .u64 0]),
 .n (.store 6 (.t 6) (.t 17)),
 .m 7 18]
@[simp] def r119_2 : List AOp :=
 [.m 19 7,
 .p 20 (.un .not (.t 19)),
 .m 21 20,
 .q 22 21 false (.off 1 (.t 6)),
 .q 23 21 false (.load false 1 (.t 22)),
 .q 24 21 false (.bin .neq (.t 23) (.i 64)),
 .p 25 (.pick (.t 21) (.b true) (.t 24)),
 .m 26 25,
 .q 27 26 false (.off 2 (.t 6)),
 .q 28 26 false (.load false 1 (.t 27)),
 .q 29 26 false (.bin .neq (.t 28) (.i 1)),
 .p 30 (.pick (.t 26) (.b true) (.t 29))]
@[simp] def r119_3 : List AOp :=
 [.p 31 (.build [.lst .nil [], .int .u64 0] []),
 .n (.store 2 (.t 4) (.t 31)),
 .p 5 (.mov (.b false))]
@[simp] def r119_4 : List AOp :=
 [.p 32 (.off 0 (.t 6)),
 .p 33 (.load false 1 (.t 32)),
 .p 34 (.bin .eql (.t 33) (.i 0))]
@[simp] def r119_5 : List AOp :=
 [.p 35 (.off 5 (.t 6)),
 .p 36 (.load false 1 (.t 35)),
 .p 37 (.build [.lst .nil [], .int .u64 0] [(1, 1, .t 36)]),
 .n (.store 2 (.t 4) (.t 37)),
 .p 5 (.mov (.b true))]
@[simp] def r119_6 : List AOp :=
 [.p 38 (.off 0 (.t 6)),
 .p 39 (.load false 1 (.t 38)),
 .p 40 (.bin .lss (.t 39) (.i 1)),
 .m 41 40,
 .q 42 41 false (.off 0 (.t 6)),
 .q 43 41 false (.load false 1 (.t 42)),
 .q 44 41 false (.bin .gtr (.t 43) (.i 8)),
 .p 45 (.pick (.t 41) (.b true) (.t 44))]
@[simp] def r119_7 : List AOp :=
 [.p 46 (.build [.lst .nil [], .int .u64 0] []),
 .n (.store 2 (.t 4) (.t 46)),
 .p 5 (.mov (.b false))]
@[simp] def r119_8 : List AOp :=
 [.m 47 0,
 .l 48 (.off 4 (.t 6)) 6 (.loc 6),
 .l 49 (.load false 1 (.t 48)) 48 (.loc 6),
 .l 50 (.idxS 1 (.t 49) (.i 0)) 49 .lst,
 .l 51 (.load false 1 (.t 50)) 50 .imm,
 .p 52 (.call 58 [.t 47, .t 51]),
 .m 53 0,
 .l 54 (.off 4 (.t 6)) 6 (.loc 6),
 .l 55 (.load false 1 (.t 54)) 54 (.loc 6),
 .l 56 (.idxS 1 (.t 55) (.i 1)) 55 .lst,
 .l 57 (.load false 1 (.t 56)) 56 .imm,
 .p 58 (.call 58 [.t 53, .t 57]),
 .p 8 (.alloc false [.lst .nil [], .int .u64 0]),
 .p 9 (.alloc false [.lst .nil [], .int .u64 0]),
 ⟨none, none, .store 2 (.t 8) (.t 52), (some (.t 8, .loc 8))⟩,
 ⟨none, none, .store 2 (.t 9) (.t 58), (some (.t 9, .loc 9))⟩]
def p119_8 : List (List Nat) := [[], [], [1], [2], [3], [0, 4], [], [], [7], [8], [9], [6, 10, 5], [], [], [12, 5, 11, 0, 1, 2, 3, 4, 5, 12, 13], [13, 11, 14, 0, 1, 2, 3, 4, 5, 6, 7, 8, 9, 10, 11, 12, 13, 14]]
@[simp] def r119_9 : List AOp :=
 [.p 60 (.off 0 (.t 6)),
 .p 61 (.load false 1 (.t 60)),
 .p 62 (.bin .eql (.t 61) (.i 1)),
 .m 59 62]
@[simp] def r119_10 : List AOp :=
 [.p 63 (.load true 2 (.t 8)),
 .p 64 (.load true 2 (.t 9)),
 .p 65 (.call 54 [.t 63, .t 64]),
 .n (.store 2 (.t 4) (.t 65)),
 .p 5 (.mov (.b true))]
@[simp] def r119_11 : List AOp :=
 [.p 67 (.off 0 (.t 6)),
 .p 68 (.load false 1 (.t 67)),
 .p 69 (.bin .eql (.t 68) (.i 2)),
 .m 66 69]
@[simp] def r119_12 : List AOp :=
 [.p 70 (.load true 2 (.t 8)),
 .p 71 (.load true 2 (.t 9)),
 .p 72 (.call 53 [.t 70, .t 71]),
 .n (.store 2 (.t 4) (.t 72)),
 .p 5 (.mov (.b true))]
@[simp] def r119_13 : List AOp :=
 [.p 74 (.off 0 (.t 6)),
 .p 75 (.load false 1 (.t 74)),
 .p 76 (.bin .eql (.t 75) (.i 3)),
 .m 77 76,
 .q 78 77 true (.off 0 (.t 9)),
 .q 79 77 true (.load false 1 (.t 78)),
 .q 80 77 true (.len (.t 79)),
 .q 81 77 true (.bin .eql (.t 80) (.i 0)),
 .p 82 (.pick (.t 77) (.t 81) (.b false)),
 .m 73 82]
@[simp] def r119_14 : List AOp :=
 [.p 83 (.load true 2 (.t 8)),
 .p 84 (.off 1 (.t 9)),
 .p 85 (.load false 1 (.t 84)),
 .p 86 (.call 55 [.t 83, .t 85]),
 .n (.store 2 (.t 4) (.t 86)),
 .p 5 (.mov (.b true))]
@[simp] def r119_15 : List AOp :=
 [.p 88 (.off 0 (.t 6)),
 .p 89 (.load false 1 (.t 88)),
 .p 90 (.bin .eql (.t 89) (.i 3)),
 .m 91 90,
 .q 92 91 true (.off 0 (.t 8)),
 .q 93 91 true (.load false 1 (.t 92)),
 .q 94 91 true (.len (.t 93)),
 .q 95 91 true (.bin .eql (.t 94) (.i 0)),
 .p 96 (.pick (.t 91) (.t 95) (.b false)),
 .m 87 96]
@[simp] def r119_16 : List AOp :=
 [.p 97 (.load true 2 (.t 9)),
 .p 98 (.off 1 (.t 8)),
 .p 99 (.load false 1 (.t 98)),
 .p 100 (.call 55 [.t 97, .t 99]),
 .n (.store 2 (.t 4) (.t 100)),
 .p 5 (.mov (.b true))]
@[simp] def r119_17 : List AOp :=
 [.p 102 (.off 0 (.t 6)),
 .p 103 (.load false 1 (.t 102)),
 .p 104 (.bin .eql (.t 103) (.i 8)),
 .m 105 104,
 .q 106 105 true (.off 0 (.t 9)),
 .q 107 105 true (.load false 1 (.t 106)),
 .q 108 105 true (.len (.t 107)),
 .q 109 105 true (.bin .eql (.t 108) (.i 0)),
 .p 110 (.pick (.t 105) (.t 109) (.b false)),
 .m 111 110,
 .q 112 111 true (.off 1 (.t 9)),
 .q 113 111 true (.load false 1 (.t 112)),
 .q 114 111 true (.bin .lss (.t 113) (.u 64)),
 .p 115 (.pick (.t 111) (.t 114) (.b false)),
 .m 101 115]
@[simp] def r119_18 : List AOp :=
 [.p 116 (.load true 2 (.t 8)),
 .p 117 (.off 1 (.t 9)),
 .p 118 (.load false 1 (.t 117)),
 .p 119 (.bin .shl (.u 1) (.t 118)),
 .p 120 (.call 55 [.t 116, .t 119]),
 .n (.store 2 (.t 4) (.t 120)),
 .p 5 (.mov (.b true))]
@[simp] def r119_19 : List AOp :=
 [.p 121 (.build [.lst .nil [], .int .u64 0] []),
 .n (.store 2 (.t 4) (.t 121)),
 .p 5 (.mov (.b false))]
def c119 : AC :=
 .seq (.ops r119_0)
 (.seq (.ops r119_1)
   (.seq (.seq (.ops r119_2)
    (.cond (.t 30) (.seq (.ops r119_3)
     (.ret)) (.skip)))
  (.seq (.seq (.ops r119_4)
   (.cond (.t 34) (.seq (.ops r119_5)
    (.ret)) (.skip)))
    (.seq (.seq (.ops r119_6)
     (.cond (.t 45) (.seq (.ops r119_7)
      (.ret)) (.skip)))
   (.seq (.tops r119_8
     p119_8)
     (.seq (.block 0 (.seq (.ops r119_9)
     (.cond (.t 59) (.seq (.ops r119_10)
      (.ret)) (.seq (.ops r119_11)
      (.cond (.t 66) (.seq (.ops r119_12)
       (.ret)) (.seq (.ops r119_13)
       (.cond (.t 73) (.seq (.ops r119_14)
        (.ret)) (.seq (.ops r119_15)
        (.cond (.t 87) (.seq (.ops r119_16)
         (.ret)) (.seq (.ops r119_17)
         (.cond (.t 101) (.seq (.ops r119_18)
          (.ret)) (.skip))))))))))))
    (.seq (.ops r119_19)
      (.ret))))))))
def a119 : AFn := { res := [.cell 4 2 true, .tmp 5], body := c119, keepA := false, keepR := false, pure := false }
theorem k119 : chkFn Tryz.prog Tryz.f119 a119 = true := by kernel_rfl
@[simp] def r120_0 : List AOp :=
 [.p 1 (.box false 6 (.t 0)),
 .p 2 (.mov (.i 0)),
 .p 3 (.mov (.i 0))]
@[simp] def r120_1 : List AOp :=
 [.p 4 (.load true 6 (.t 1)),
 .p 5 (.call 142 [.t 4]),
 .p 6 (.un .not (.t 5)),
 .m 7 6,
 .q 8 7 false (.off 0 (.t 1)),
 .q 9 7 false (.load false 1 (.t 8)),
 .q 10 7 false (.bin .eql (.t 9) (.i 17)),
 .p 11 (.pick (.t 7) (.b true) (.t 10)),
 .m 12 11,
 .q 13 12 false (.off 0 (.t 1)),
 .q 14 12 false (.load false 1 (.t 13)),
 .q 15 12 false (.bin .eql (.t 14) (.i 19)),
 .p 16 (.pick (.t 12) (.b true) (.t 15))]
@[simp] def r120_2 : List AOp :=
 [.p 2 (.mov (.i 0)),
 .p 3 (.mov (.i 0))]
@[simp] def r120_3 : List AOp :=
 [.p 17 (.off 0 (.t 1)),
 .p 18 (.load false 1 (.t 17)),
 .p 19 (.bin .geq (.t 18) (.i 10)),
 .m 20 19,
 .q 21 20 true (.off 0 (.t 1)),
 .q 22 20 true (.load false 1 (.t 21)),
 .q 23 20 true (.bin .leq (.t 22) (.i 12)),
 .p 24 (.pick (.t 20) (.t 23) (.b false))]
@[simp] def r120_4 : List AOp :=
 [.p 2 (.mov (.i 1)),
 .p 3 (.mov (.i 1))]
@[simp] def r120_5 : List AOp :=
 [.p 25 (.off 0 (.t 1)),
 .p 26 (.load false 1 (.t 25)),
 .p 27 (.bin .eql (.t 26) (.i 22))]
@[simp] def r120_6 : List AOp :=
 [.p 28 (.off 1 (.t 1)),
 .p 29 (.load false 1 (.t 28)),
 .m 2 29,
 .p 3 (.mov (.i 1))]
@[simp] def r120_7 : List AOp :=
 [.l 30 (.off 1 (.t 1)) 1 (.loc 1),
 .l 31 (.load false 1 (.t 30)) 30 (.loc 1),
 .l 32 (.off 2 (.t 1)) 1 (.loc 1),
 .l 33 (.load false 1 (.t 32)) 32 (.loc 1),
 .m 2 31,
 .m 3 33]
def p120_7 : List (List Nat) := [[], [0], [], [2], [1, 0, 1], [3, 4, 0, 1, 2, 3, 4]]
def c120 : AC :=
 .seq (.ops r120_0)
 (.seq (.seq (.ops r120_1)
  (.cond (.t 16) (.seq (.ops r120_2)
   (.ret)) (.skip)))
   (.seq (.seq (.ops r120_3)
    (.cond (.t 24) (.seq (.ops r120_4)
     (.ret)) (.skip)))
  (.seq (.seq (.ops r120_5)
   (.cond (.t 27) (.seq (.ops r120_6)
    (.ret)) (.skip)))
    (.seq (.tops r120_7
      p120_7)
   (.ret)))))
def a120 : AFn := { res := [.tmp 2, .tmp 3], body := c120, keepA := false, keepR := false, pure := true }
theorem k120 : chkFn Tryz.prog Tryz.f120 a120 = true := by kernel_rfl
@[simp] def r121_0 : List AOp :=
 [.p 4 (.box false 6 (.t 1)),
 .p 5 (.box false 2 (.t 2)),
 .p 6 (.alloc false [.lst .nil [], .int .u64 0])]
@[simp] def r121_1 : List AOp :=
 [.m 9 0,
 .p 10 (.off 4 (.t 4)),
 .p 11 (.load false 1 (.t 10)),
 .p 12 (.idxS 1 (.t 11) (.i 0)),
 .p 13 (.load false 1 (.t 12)),
 .p 14 (.call 62 [.t 9, .t 13]),
 .p 7 (.alloc false [.lst .nil [], .int .u64 0]),
 .n (.store 2 (.t 7) (.t 14))]
@[simp] def r121_2 : List AOp :=
 [.m 15 0,
 .p 16 (.off 4 (.t 4)),
 .p 17 (.load false 1 (.t 16)),
 .p 18 (.idxS 1 (.t 17) (.i 1)),
 .p 19 (.load false 1 (.t 18)),
 .p 20 (.call 62 [.t 15, .t 19]),
 .p 8 (.alloc false [.lst .nil [], .int .u64 0]),
 .n (.store 2 (.t 8) (.t 20))]
@[simp] def r121_3 : List AOp :=
 [.p 21 (.off 0 (.t 4)),
 .p 22 (.load false 1 (.t 21))]
@[simp] def r121_4 : List AOp :=
 [.p 24 (.bin .eql (.t 22) (.i 1)),
 .m 23 24]
@[simp] def r121_5 : List AOp :=
 [.p 25 (.load true 2 (.t 7)),
 .p 26 (.load true 2 (.t 8)),
 .p 27 (.call 69 [.t 25, .u 1, .t 26, .u 1]),
 .n (.store 2 (.t 6) (.t 27))]
@[simp] def r121_6 : List AOp :=
 [.p 29 (.bin .eql (.t 22) (.i 2)),
 .m 28 29]
@[simp] def r121_7 : List AOp :=
 [.p 30 (.load true 2 (.t 7)),
 .p 31 (.load true 2 (.t 8)),
 .p 32 (.call 69 [.t 30, .u 1, .t 31, .u 18446744073709551615]),
 .n (.store 2 (.t 6) (.t 32))]
@[simp] def r121_8 : List AOp :=
 [.p 34 (.bin .eql (.t 22) (.i 3)),
 .m 33 34]
@[simp] def r121_9 : List AOp :=
 [.p 35 (.off 0 (.t 8)),
 .p 36 (.load false 1 (.t 35)),
 .p 37 (.len (.t 36)),
 .p 38 (.bin .eql (.t 37) (.i 0))]
@[simp] def r121_10 : List AOp :=
 [.p 39 (.load true 2 (.t 7)),
 .p 40 (.off 1 (.t 8)),
 .p 41 (.load false 1 (.t 40)),
 .p 42 (.build [.lst .nil [], .int .u64 0] []),
 .p 43 (.call 69 [.t 39, .t 41, .t 42, .u 0]),
 .n (.store 2 (.t 6) (.t 43))]
@[simp] def r121_11 : List AOp :=
 [.p 44 (.off 0 (.t 7)),
 .p 45 (.load false 1 (.t 44)),
 .p 46 (.len (.t 45)),
 .p 47 (.bin .eql (.t 46) (.i 0))]
@[simp] def r121_12 : List AOp :=
 [.p 48 (.load true 2 (.t 8)),
 .p 49 (.off 1 (.t 7)),
 .p 50 (.load false 1 (.t 49)),
 .p 51 (.build [.lst .nil [], .int .u64 0] []),
 .p 52 (.call 69 [.t 48, .t 50, .t 51, .u 0]),
 .n (.store 2 (.t 6) (.t 52))]
@[simp] def r121_13 : List AOp :=
 [.p 54 (.bin .eql (.t 22) (.i 8)),
 .m 53 54]
@[simp] def r121_14 : List AOp :=
 [.p 55 (.off 0 (.t 8)),
 .p 56 (.load false 1 (.t 55)),
 .p 57 (.len (.t 56)),
 .p 58 (.bin .eql (.t 57) (.i 0)),
 .m 59 58,
 .q 60 59 true (.off 1 (.t 8)),
 .q 61 59 true (.load false 1 (.t 60)),
 .q 62 59 true (.bin .lss (.t 61) (.u 64)),
 .p 63 (.pick (.t 59) (.t 62) (.b false))]
@[simp] def r121_15 : List AOp :=
 [.p 64 (.load true 2 (.t 7)),
 .p 65 (.off 1 (.t 8)),
 .p 66 (.load false 1 (.t 65)),
 .p 67 (.bin .shl (.u 1) (.t 66)),
 .p 68 (.build [.lst .nil [], .int .u64 0] []),
 .p 69 (.call 69 [.t 64, .t 67, .t 68, .u 0]),
 .n (.store 2 (.t 6) (.t 69))]
@[simp] def r121_16 : List AOp :=
 [.p 70 (.load true 2 (.t 5)),
 .n (.store 2 (.t 6) (.t 70))]
def c121 : AC :=
 .seq (.ops r121_0)
 (.seq (.ops r121_1)
   (.seq (.ops r121_2)
  (.seq (.seq (.ops r121_3)
   (.block 0 (.seq (.ops r121_4)
    (.cond (.t 23) (.seq (.ops r121_5)
     (.ret)) (.seq (.ops r121_6)
     (.cond (.t 28) (.seq (.ops r121_7)
      (.ret)) (.seq (.ops r121_8)
      (.cond (.t 33) (.seq (.seq (.ops r121_9)
         (.cond (.t 38) (.seq (.ops r121_10)
          (.ret)) (.skip)))
       (.seq (.ops r121_11)
         (.cond (.t 47) (.seq (.ops r121_12)
          (.ret)) (.skip)))) (.seq (.ops r121_13)
       (.cond (.t 53) (.seq (.ops r121_14)
        (.cond (.t 63) (.seq (.ops r121_15)
         (.ret)) (.skip))) (.skip)))))))))))
    (.seq (.ops r121_16)
   (.ret)))))
def a121 : AFn := { res := [.cell 6 2 true], body := c121, keepA := false, keepR := false, pure := false }
theorem k121 : chkFn Tryz.prog Tryz.f121 a121 = true := by kernel_rfl
@[simp] def r122_0 : List AOp :=
 [.p 1 (.box false 2 (.t 0)),
 .p 2 (.mov (.c (.nilp)))]
@[simp] def r122_1 : List AOp :=
 [.p 5 (.off 1 (.t 1)),
 .p 6 (.load false 1 (.t 5)),
 .p 7 (.build (List.replicate 1025 (.int .u64 0)) [(1024, 1, .t 6)]),
 .p 8 (.box true 1025 (.t 7)),
 .m 3 8]
@[simp] def r122_2 : List AOp :=
 [.p 4 (.mov (.i 0))]
@[simp] def r122_3 : List AOp :=
 [.m 9 4,
 .p 10 (.off 0 (.t 1)),
 .p 11 (.load false 1 (.t 10)),
 .p 12 (.len (.t 11)),
 .p 13 (.bin .lss (.t 9) (.t 12))]
@[simp] def r122_5 : List AOp :=
 [.m 16 3,
 .l 17 (.off 0 (.t 1)) 1 (.loc 1),
 .l 18 (.load false 1 (.t 17)) 17 (.loc 1),
 .m 19 4,
 .l 20 (.idxS 2 (.t 18) (.t 19)) 18 .lst,
 .l 21 (.off 0 (.t 20)) 20 .imm,
 .l 22 (.load false 1 (.t 21)) 21 .imm,
 .l 23 (.off 0 (.t 1)) 1 (.loc 1),
 .l 24 (.load false 1 (.t 23)) 23 (.loc 1),
 .m 25 4,
 .l 26 (.idxS 2 (.t 24) (.t 25)) 24 .lst,
 .l 27 (.off 1 (.t 26)) 26 .imm,
 .l 28 (.load false 1 (.t 27)) 27 .imm,
 .p 29 (.nilchk (.t 16)),
 .p 30 (.off 0 (.t 29)),
 .p 31 (.idxA 1024 1 (.t 30) (.t 22)),
 .n (.store 1 (.t 31) (.t 28))]
def p122_5 : List (List Nat) := [[], [], [1], [], [2, 3], [4], [5], [], [7], [], [8, 9], [10], [11], [0], [13], [14, 6, 0, 1, 2, 3, 4, 5, 6, 7, 8, 9, 10, 11, 12], [15, 12, 0, 1, 2, 3, 4, 5, 6, 7, 8, 9, 10, 11, 12]]
@[simp] def r122_4 : List AOp :=
 [.m 14 4,
 .p 15 (.bin .add (.t 14) (.i 1)),
 .m 4 15]
def l122_0 : AC :=
 .seq (.seq (.ops r122_3)
   (.cond (.t 13) (.skip) (.exit 0)))
 (.seq (.block 1 (.tops r122_5
     p122_5))
   (.ops r122_4))
@[simp] def r122_6 : List AOp :=
 [.m 32 3,
 .m 2 32]
def c122 : AC :=
 .seq (.ops r122_0)
 (.seq (.ops r122_1)
   (.seq (.seq (.ops r122_2)
    (.block 0 (.loop l122_0)))
  (.seq (.ops r122_6)
    (.ret))))
def a122 : AFn := { res := [.tmp 2], body := c122, keepA := false, keepR := false, pure := false }
theorem k122 : chkFn Tryz.prog Tryz.f122 a122 = true := by kernel_rfl
@[simp] def r123_0 : List AOp :=
 [.p 2 (.alloc false [.lst .nil [], .int .u64 0])]
@[simp] def r123_1 : List AOp :=
 [.m 5 0,
 .p 6 (.nilchk (.t 5)),
 .p 7 (.off 1024 (.t 6)),
 .p 8 (.load false 1 (.t 7)),
 .p 9 (.build [.lst .nil [], .int .u64 0] [(1, 1, .t 8)]),
 .p 3 (.alloc false [.lst .nil [], .int .u64 0]),
 .n (.store 2 (.t 3) (.t 9))]
@[simp] def r123_2 : List AOp :=
 [.p 4 (.mov (.i 0))]
@[simp] def r123_3 : List AOp :=
 [.m 10 4,
 .p 11 (.bin .lss (.t 10) (.i 1024))]
@[simp] def r123_5 : List AOp :=
 [.m 14 0,
 .m 15 4,
 .p 16 (.nilchk (.t 14)),
 .p 17 (.off 0 (.t 16)),
 .p 18 (.idxA 1024 1 (.t 17) (.t 15)),
 .p 19 (.load false 1 (.t 18)),
 .p 20 (.bin .neq (.t 19) (.u 0))]
@[simp] def r123_6 : List AOp :=
 [.l 21 (.off 0 (.t 3)) 3 (.loc 3),
 .l 22 (.load false 1 (.t 21)) 21 (.loc 3),
 .m 23 4,
 .m 24 0,
 .m 25 4,
 .p 26 (.nilchk (.t 24)),
 .p 27 (.off 0 (.t 26)),
 .p 28 (.idxA 1024 1 (.t 27) (.t 25)),
 .p 29 (.load false 1 (.t 28)),
 .p 30 (.build [.int .i64 0, .int .u64 0] [(0, 1, .t 23), (1, 1, .t 29)]),
 .p 31 (.bslice false 1 2 [.int .i64 0, .int .u64 0] [(0, .t 30)]),
 .p 32 (.append false 2 16 (.t 22) (.t 31)),
 .l 33 (.off 0 (.t 3)) 3 (.loc 3),
 ⟨none, none, .store 1 (.t 33) (.t 32), (some (.t 33, .loc 3))⟩]
def p123_6 : List (List Nat) := [[], [0], [], [], [], [3], [5], [6, 4], [7], [2, 8], [9], [1, 10], [0, 1, 2, 3, 4, 5, 6, 7, 8, 9, 10, 11], [12, 11, 11, 0, 1, 2, 3, 4, 5, 6, 7, 8, 9, 10, 11]]
@[simp] def r123_4 : List AOp :=
 [.m 12 4,
 .p 13 (.bin .add (.t 12) (.i 1)),
 .m 4 13]
def l123_0 : AC :=
 .seq (.seq (.ops r123_3)
   (.cond (.t 11) (.skip) (.exit 0)))
 (.seq (.block 1 (.seq (.ops r123_5)
    (.cond (.t 20) (.tops r123_6
      p123_6) (.skip))))
   (.ops r123_4))
@[simp] def r123_7 : List AOp :=
 [.p 34 (.load true 2 (.t 3)),
 .n (.store 2 (.t 2) (.t 34))]
def c123 : AC :=
 .seq (.ops r123_0)
 (.seq (.ops r123_1)
   (.seq (.seq (.ops r123_2)
    (.block 0 (.loop l123_0)))
  (.seq (.ops r123_7)
    (.ret))))
def a123 : AFn := { res := [.cell 2 2 true], body := c123, keepA := false, keepR := false, pure := true }
theorem k123 : chkFn Tryz.prog Tryz.f123 a123 = true := by kernel_rfl
@[simp] def r127_0 : List AOp :=
 [.p 2 (.mov (.b false))]
@[simp] def r127_1 : List AOp :=
 [.m 3 0]
@[simp] def r127_2 : List AOp :=
 [.p 5 (.bin .eql (.t 3) (.i 1)),
 .m 4 5]
@[simp] def r127_3 : List AOp :=
 [.p 6 (.bin .eql (.t 3) (.i 8)),
 .m 4 6]
@[simp] def r127_4 : List AOp :=
 [.p 7 (.bin .eql (.t 3) (.i 16)),
 .m 4 7]
@[simp] def r127_5 : List AOp :=
 [.p 8 (.bin .eql (.t 3) (.i 32)),
 .m 4 8]
@[simp] def r127_6 : List AOp :=
 [.p 9 (.bin .eql (.t 3) (.i 64)),
 .m 4 9]
@[simp] def r127_7 : List AOp :=
 [.p 2 (.mov (.b true))]
@[simp] def r127_8 : List AOp :=
 [.p 2 (.mov (.b false))]
def c127 : AC :=
 .seq (.ops r127_0)
 (.seq (.seq (.ops r127_1)
  (.block 0 (.seq (.seq (.ops r127_2)
     (.cond (.t 4) (.skip) (.seq (.ops r127_3)
      (.cond (.t 4) (.skip) (.seq (.ops r127_4)
       (.cond (.t 4) (.skip) (.seq (.ops r127_5)
        (.cond (.t 4) (.skip) (.ops r127_6)))))))))
   (.cond (.t 4) (.seq (.ops r127_7)
    (.ret)) (.skip)))))
   (.seq (.ops r127_8)
  (.ret)))
def a127 : AFn := { res := [.tmp 2], body := c127, keepA := false, keepR := false, pure := true }
theorem k127 : chkFn Tryz.prog Tryz.f127 a127 = true := by kernel_rfl
@[simp] def r128_0 : List AOp :=
 [.p 2 (.mov (.b false))]
@[simp] def r128_1 : List AOp :=
 [.m 3 0,
 .p 4 (.bin .eql (.t 3) (.i 1)),
 .m 5 4,
 .q 6 5 false (.mov (.t 0)),
 .q 7 5 false (.bin .eql (.t 6) (.i 8)),
 .p 8 (.pick (.t 5) (.b true) (.t 7)),
 .m 9 8,
 .q 10 9 false (.mov (.t 0)),
 .q 11 9 false (.bin .eql (.t 10) (.i 16)),
 .p 12 (.pick (.t 9) (.b true) (.t 11)),
 .m 13 12,
 .q 14 13 false (.mov (.t 0)),
 .q 15 13 false (.bin .eql (.t 14) (.i 32)),
 .p 16 (.pick (.t 13) (.b true) (.t 15)),
 .m 17 16,
 .q 18 17 false (.mov (.t 0)),
 .q 19 17 false (.bin .eql (.t 18) (.i 64)),
 .p 20 (.pick (.t 17) (.b true) (.t 19)),
 .m 2 20]
def c128 : AC :=
 .seq (.ops r128_0)
 (.seq (.ops r128_1)
   (.ret))
def a128 : AFn := { res := [.tmp 2], body := c128, keepA := false, keepR := false, pure := true }
theorem k128 : chkFn Tryz.prog Tryz.f128 a128 = true := by kernel_rfl
@[simp] def r129_0 : List AOp :=
 [.p 4 (.mov (.i 0))]
@[simp] def r129_1 : List AOp :=
 [.m 6 0,
 .p 7 (.len (.t 6)),
 .p 8 (.mov (.i 0))]
@[simp] def r129_2 : List AOp :=
 [.p 9 (.bin .lss (.t 8) (.t 7))]
@[simp] def r129_3 : List AOp :=
 [.m 10 8,
 .m 5 10]
@[simp] def r129_4 : List AOp :=
 [.m 11 1,
 .m 12 0,
 .m 13 5,
 .p 14 (.idxS 1 (.t 12) (.t 13)),
 .p 15 (.load false 1 (.t 14)),
 .p 16 (.calld (.t 11) [.t 15])]
@[simp] def r129_5 : List AOp :=
 [.m 17 5,
 .m 4 17]
@[simp] def r129_6 : List AOp :=
 [.p 18 (.bin .add (.t 8) (.i 1)),
 .m 8 18]
def l129_0 : AC :=
 .seq (.ops r129_2)
 (.seq (.cond (.t 9) (.skip) (.exit 0))
   (.seq (.block 1 (.seq (.ops r129_3)
   (.seq (.ops r129_4)
     (.cond (.t 16) (.seq (.ops r129_5)
      (.ret)) (.skip)))))
  (.ops r129_6)))
@[simp] def r129_7 : List AOp :=
 [.p 4 (.mov (.c (.int .i64 (-1))))]
def c129 : AC :=
 .seq (.ops r129_0)
 (.seq (.seq (.ops r129_1)
  (.block 0 (.loop l129_0)))
   (.seq (.ops r129_7)
  (.ret)))
def a129 : AFn := { res := [.tmp 4], body := c129, keepA := false, keepR := false, pure := true }
theorem k129 : chkFn Tryz.prog Tryz.f129 a129 = true := by kernel_rfl
@[simp] def r130_0 : List AOp :=
 [.p 4 (.mov (.b false))]
@[simp] def r130_1 : List AOp :=
 [.m 6 0,
 .p 7 (.len (.t 6)),
 .m 8 1,
 .p 9 (.len (.t 8)),
 .p 10 (.bin .neq (.t 7) (.t 9))]
@[simp] def r130_2 : List AOp :=
 [.p 4 (.mov (.b false))]
@[simp] def r130_3 : List AOp :=
 [.m 11 0,
 .p 12 (.len (.t 11)),
 .p 13 (.mov (.i 0))]
@[simp] def r130_4 : List AOp :=
 [.p 14 (.bin .lss (.t 13) (.t 12))]
@[simp] def r130_5 : List AOp :=
 [.m 15 13,
 .m 5 15]
@[simp] def r130_6 : List AOp :=
 [.m 16 0,
 .m 17 5,
 .l 18 (.idxS 1 (.t 16) (.t 17)) 16 .lst,
 .l 19 (.load false 1 (.t 18)) 18 .imm,
 .m 20 1,
 .m 21 5,
 .l 22 (.idxS 1 (.t 20) (.t 21)) 20 .lst,
 .l 23 (.load false 1 (.t 22)) 22 .imm,
 .p 24 (.bin .neq (.t 19) (.t 23))]
def p130_6 : List (List Nat) := [[], [], [0, 1], [2], [], [], [4, 5], [6], [3, 7]]
@[simp] def r130_7 : List AOp :=
 [.p 4 (.mov (.b false))]
@[simp] def r130_8 : List AOp :=
 [.p 25 (.bin .add (.t 13) (.i 1)),
 .m 13 25]
def l130_0 : AC :=
 .seq (.ops r130_4)
 (.seq (.cond (.t 14) (.skip) (.exit 0))
   (.seq (.block 1 (.seq (.ops r130_5)
   (.seq (.tops r130_6
     p130_6)
     (.cond (.t 24) (.seq (.ops r130_7)
      (.ret)) (.skip)))))
  (.ops r130_8)))
@[simp] def r130_9 : List AOp :=
 [.p 4 (.mov (.b true))]
def c130 : AC :=
 .seq (.ops r130_0)
 (.seq (.seq (.ops r130_1)
  (.cond (.t 10) (.seq (.ops r130_2)
   (.ret)) (.skip)))
   (.seq (.seq (.ops r130_3)
    (.block 0 (.loop l130_0)))
  (.seq (.ops r130_9)
    (.ret))))
def a130 : AFn := { res := [.tmp 4], body := c130, keepA := false, keepR := false, pure := true }
theorem k130 : chkFn Tryz.prog Tryz.f130 a130 = true := by kernel_rfl
@[simp] def r138_0 : List AOp :=
 [.p 2 (.mov (.b false))]
@[simp] def r138_1 : List AOp :=
 [.p 3 (.mov (.i 0))]
@[simp] def r138_2 : List AOp :=
 [.m 4 3,
 .m 5 0,
 .p 6 (.len (.t 5)),
 .p 7 (.bin .lss (.t 4) (.t 6))]
@[simp] def r138_4 : List AOp :=
 [.m 10 0,
 .m 11 3,
 .p 12 (.idxS 1 (.t 10) (.t 11)),
 .p 13 (.load false 1 (.t 12)),
 .p 14 (.call 139 [.t 13]),
 .p 15 (.un .not (.t 14))]
@[simp] def r138_5 : List AOp :=
 [.p 2 (.mov (.b false))]
@[simp] def r138_3 : List AOp :=
 [.m 8 3,
 .p 9 (.bin .add (.t 8) (.i 1)),
 .m 3 9]
def l138_0 : AC :=
 .seq (.seq (.ops r138_2)
   (.cond (.t 7) (.skip) (.exit 0)))
 (.seq (.block 1 (.seq (.ops r138_4)
    (.cond (.t 15) (.seq (.ops r138_5)
     (.ret)) (.skip))))
   (.ops r138_3))
@[simp] def r138_6 : List AOp :=
 [.m 16 0,
 .p 17 (.len (.t 16)),
 .p 18 (.bin .leq (.t 17) (.i 64)),
 .m 2 18]
def c138 : AC :=
 .seq (.ops r138_0)
 (.seq (.seq (.ops r138_1)
  (.block 0 (.loop l138_0)))
   (.seq (.ops r138_6)
  (.ret)))
def a138 : AFn := { res := [.tmp 2], body := c138, keepA := false, keepR := false, pure := true }
theorem k138 : chkFn Tryz.prog Tryz.f138 a138 = true := by kernel_rfl
@[simp] def r139_0 : List AOp :=
 [.p 2 (.mov (.b false))]
@[simp] def r139_1 : List AOp :=
 [.m 3 0,
 .p 4 (.bin .geq (.t 3) (.i 0)),
 .m 5 4,
 .q 6 5 true (.mov (.t 0)),
 .q 7 5 true (.bin .leq (.t 6) (.i 2147483647)),
 .p 8 (.pick (.t 5) (.t 7) (.b false)),
 .m 2 8]
def c139 : AC :=
 .seq (.ops r139_0)
 (.seq (.ops r139_1)
   (.ret))
def a139 : AFn := { res := [.tmp 2], body := c139, keepA := false, keepR := false, pure := true }
theorem k139 : chkFn Tryz.prog Tryz.f139 a139 = true := by kernel_rfl
@[simp] def r140_0 : List AOp :=
 [.p 1 (.box false 3 (.t 0)),
 .p 2 (.mov (.i 0))]
@[simp] def r140_1 : List AOp :=
 [.p 3 (.mov (.i 0))]
@[simp] def r140_2 : List AOp :=
 [.p 4 (.mov (.i 0))]
@[simp] def r140_3 : List AOp :=
 [.m 5 4,
 .p 6 (.off 2 (.t 1)),
 .p 7 (.load false 1 (.t 6)),
 .p 8 (.len (.t 7)),
 .p 9 (.bin .lss (.t 5) (.t 8))]
@[simp] def r140_5 : List AOp :=
 [.m 12 3,
 .l 13 (.off 2 (.t 1)) 1 (.loc 1),
 .l 14 (.load false 1 (.t 13)) 13 (.loc 1),
 .m 15 4,
 .l 16 (.idxS 5 (.t 14) (.t 15)) 14 .lst,
 .l 17 (.off 0 (.t 16)) 16 .imm,
 .l 18 (.load false 1 (.t 17)) 17 .imm,
 .p 19 (.len (.t 18)),
 .p 20 (.bin .add (.t 12) (.t 19)),
 .l 21 (.off 2 (.t 1)) 1 (.loc 1),
 .l 22 (.load false 1 (.t 21)) 21 (.loc 1),
 .m 23 4,
 .l 24 (.idxS 5 (.t 22) (.t 23)) 22 .lst,
 .l 25 (.off 1 (.t 24)) 24 .imm,
 .l 26 (.load false 1 (.t 25)) 25 .imm,
 .p 27 (.len (.t 26)),
 .p 28 (.bin .add (.t 20) (.t 27)),
 .p 29 (.bin .add (.t 28) (.i 1)),
 .m 3 29]
def p140_5 : List (List Nat) := [[], [], [1], [], [2, 3], [4], [5], [6], [0, 7], [], [9], [], [10, 11], [12], [13], [14], [8, 15], [16], [17, 0, 1, 2, 3, 4, 5, 6, 7, 8, 9, 10, 11, 12, 13, 14, 15, 16, 17]]
@[simp] def r140_4 : List AOp :=
 [.m 10 4,
 .p 11 (.bin .add (.t 10) (.i 1)),
 .m 4 11]
def l140_0 : AC :=
 .seq (.seq (.ops r140_3)
   (.cond (.t 9) (.skip) (.exit 0)))
 (.seq (.block 1 (.tops r140_5
     p140_5))
   (.ops r140_4))
@[simp] def r140_6 : List AOp :=
 [.m 30 3,
 .m 2 30]
def c140 : AC :=
 .seq (.ops r140_0)
 (.seq (.ops r140_1)
   (.seq (.seq (.ops r140_2)
    (.block 0 (.loop l140_0)))
  (.seq (.ops r140_6)
    (.ret))))
def a140 : AFn := { res := [.tmp 2], body := c140, keepA := false, keepR := false, pure := true }
theorem k140 : chkFn Tryz.prog Tryz.f140 a140 = true := by kernel_rfl
@[simp] def r141_0 : List AOp :=
 [.p 3 (.box false 2 (.t 0)),
 .p 6 (.mov (.c (.lst .nil [])))]
@[simp] def r141_1 : List AOp :=
 [.p 11 (.off 0 (.t 3)),
 .p 12 (.load false 1 (.t 11)),
 .p 13 (.len (.t 12)),
 .p 14 (.mkslice true 1 1 [.bool false] (.t 13) (.t 13)),
 .m 7 14]
@[simp] def r141_2 : List AOp :=
 [.m 15 1,
 .m 16 2,
 .p 17 (.bin .eql (.t 15) (.t 16))]
@[simp] def r141_3 : List AOp :=
 [.m 18 7,
 .m 6 18]
@[simp] def r141_4 : List AOp :=
 [.m 19 7,
 .m 20 1,
 .p 21 (.idxS 1 (.t 19) (.t 20)),
 .n (.store 1 (.t 21) (.b true))]
@[simp] def r141_5 : List AOp :=
 [.p 8 (.mov (.i 0))]
@[simp] def r141_6 : List AOp :=
 [.m 22 8,
 .m 23 7,
 .p 24 (.len (.t 23)),
 .p 25 (.bin .lss (.t 22) (.t 24))]
@[simp] def r141_8 : List AOp :=
 [.p 9 (.mov (.i 0))]
@[simp] def r141_9 : List AOp :=
 [.m 28 9,
 .m 29 7,
 .p 30 (.len (.t 29)),
 .p 31 (.bin .lss (.t 28) (.t 30))]
@[simp] def r141_11 : List AOp :=
 [.p 10 (.mov (.i 0))]
@[simp] def r141_12 : List AOp :=
 [.m 34 7,
 .m 35 9,
 .p 36 (.idxS 1 (.t 34) (.t 35)),
 .p 37 (.load false 1 (.t 36)),
 .m 38 37,
 .q 39 38 true (.mov (.t 10)),
 .q 40 38 true (.off 0 (.t 3)),
 .q 41 38 true (.load false 1 (.t 40)),
 .q 42 38 true (.mov (.t 9)),
 .q 43 38 true (.idxS 1 (.t 41) (.t 42)),
 .q 44 38 true (.load false 1 (.t 43)),
 .q 45 38 true (.len (.t 44)),
 .q 46 38 true (.bin .lss (.t 39) (.t 45)),
 .p 47 (.pick (.t 38) (.t 46) (.b false))]
@[simp] def r141_14 : List AOp :=
 [.p 50 (.off 0 (.t 3)),
 .p 51 (.load false 1 (.t 50)),
 .m 52 9,
 .p 53 (.idxS 1 (.t 51) (.t 52)),
 .p 54 (.load false 1 (.t 53)),
 .m 55 10,
 .p 56 (.idxS 1 (.t 54) (.t 55)),
 .p 57 (.load false 1 (.t 56)),
 .m 58 2,
 .p 59 (.bin .neq (.t 57) (.t 58))]
@[simp] def r141_15 : List AOp :=
 [.m 60 7,
 .p 61 (.off 0 (.t 3)),
 .p 62 (.load false 1 (.t 61)),
 .m 63 9,
 .p 64 (.idxS 1 (.t 62) (.t 63)),
 .p 65 (.load false 1 (.t 64)),
 .m 66 10,
 .p 67 (.idxS 1 (.t 65) (.t 66)),
 .p 68 (.load false 1 (.t 67)),
 .p 69 (.idxS 1 (.t 60) (.t 68)),
 .n (.store 1 (.t 69) (.b true))]
@[simp] def r141_13 : List AOp :=
 [.m 48 10,
 .p 49 (.bin .add (.t 48) (.i 1)),
 .m 10 49]
def l141_2 : AC :=
 .seq (.seq (.ops r141_12)
   (.cond (.t 47) (.skip) (.exit 4)))
 (.seq (.block 5 (.seq (.ops r141_14)
    (.cond (.t 59) (.ops r141_15) (.skip))))
   (.ops r141_13))
@[simp] def r141_10 : List AOp :=
 [.m 32 9,
 .p 33 (.bin .add (.t 32) (.i 1)),
 .m 9 33]
def l141_1 : AC :=
 .seq (.seq (.ops r141_9)
   (.cond (.t 31) (.skip) (.exit 2)))
 (.seq (.block 3 (.seq (.ops r141_11)
    (.block 4 (.loop l141_2))))
   (.ops r141_10))
@[simp] def r141_7 : List AOp :=
 [.m 26 8,
 .p 27 (.bin .add (.t 26) (.i 1)),
 .m 8 27]
def l141_0 : AC :=
 .seq (.seq (.ops r141_6)
   (.cond (.t 25) (.skip) (.exit 0)))
 (.seq (.block 1 (.seq (.ops r141_8)
    (.block 2 (.loop l141_1))))
   (.ops r141_7))
@[simp] def r141_16 : List AOp :=
 [.m 70 7,
 .m 6 70]
def c141 : AC :=
 .seq (.ops r141_0)
 (.seq (.ops r141_1)
   (.seq (.seq (.ops r141_2)
    (.cond (.t 17) (.seq (.ops r141_3)
     (.ret)) (.skip)))
  (.seq (.ops r141_4)
    (.seq (.seq (.ops r141_5)
     (.block 0 (.loop l141_0)))
   (.seq (.ops r141_16)
     (.ret))))))
def a141 : AFn := { res := [.tmp 6], body := c141, keepA := false, keepR := false, pure := true }
theorem k141 : chkFn Tryz.prog Tryz.f141 a141 = true := by kernel_rfl
@[simp] def r142_0 : List AOp :=
 [.p 1 (.box false 6 (.t 0)),
 .p 2 (.mov (.b false))]
@[simp] def r142_1 : List AOp :=
 [.l 4 (.off 1 (.t 1)) 1 (.loc 1),
 .l 5 (.load false 1 (.t 4)) 4 (.loc 1),
 .l 6 (.off 2 (.t 1)) 1 (.loc 1),
 .l 7 (.load false 1 (.t 6)) 6 (.loc 1),
 .p 8 (.call 81 [.t 5, .t 7]),
 .p 9 (.un .not (.t 8)),
 .m 10 9,
 ⟨(some 11), (some (10, false)), .load true 6 (.t 1), (some (.t 1, .loc 1))⟩,
 .q 12 10 false (.call 175 [.t 11]),
 ⟨(some 13), (some (10, false)), .off 4 (.t 1), (some (.t 1, .loc 1))⟩,
 ⟨(some 14), (some (10, false)), .load false 1 (.t 13), (some (.t 13, .loc 1))⟩,
 .q 15 10 false (.len (.t 14)),
 .q 16 10 false (.bin .neq (.t 12) (.t 15)),
 .p 17 (.pick (.t 10) (.b true) (.t 16)),
 .m 18 17,
 ⟨(some 19), (some (18, false)), .load true 6 (.t 1), (some (.t 1, .loc 1))⟩,
 .q 20 18 false (.call 176 [.t 19]),
 .q 21 18 false (.un .not (.t 20)),
 .p 22 (.pick (.t 18) (.b true) (.t 21))]
def p142_1 : List (List Nat) := [[], [0], [], [2], [1, 3], [4], [5, 4], [6], [7, 6, 6], [6], [9, 6], [10, 6], [8, 11, 6], [6, 12], [13, 8], [14], [15, 14, 14], [16, 14], [14, 17]]
@[simp] def r142_2 : List AOp :=
 [.p 2 (.mov (.b false))]
@[simp] def r142_3 : List AOp :=
 [.p 3 (.mov (.i 0))]
@[simp] def r142_4 : List AOp :=
 [.m 23 3,
 .p 24 (.off 4 (.t 1)),
 .p 25 (.load false 1 (.t 24)),
 .p 26 (.len (.t 25)),
 .p 27 (.bin .lss (.t 23) (.t 26))]
@[simp] def r142_6 : List AOp :=
 [.p 30 (.off 4 (.t 1)),
 .p 31 (.load false 1 (.t 30)),
 .m 32 3,
 .p 33 (.idxS 1 (.t 31) (.t 32)),
 .p 34 (.load false 1 (.t 33)),
 .p 35 (.call 90 [.t 34]),
 .p 36 (.un .not (.t 35))]
@[simp] def r142_7 : List AOp :=
 [.p 2 (.mov (.b false))]
@[simp] def r142_5 : List AOp :=
 [.m 28 3,
 .p 29 (.bin .add (.t 28) (.i 1)),
 .m 3 29]
def l142_0 : AC :=
 .seq (.seq (.ops r142_4)
   (.cond (.t 27) (.skip) (.exit 0)))
 (.seq (.block 1 (.seq (.ops r142_6)
    (.cond (.t 36) (.seq (.ops r142_7)
     (.ret)) (.skip))))
   (.ops r142_5))
@[simp] def r142_8 : List AOp :=
 [.p 37 (.off 0 (.t 1)),
 .p 38 (.load false 1 (.t 37)),
 .p 39 (.bin .eql (.t 38) (.i 17)),
 .m 40 39,
 .q 41 40 false (.off 0 (.t 1)),
 .q 42 40 false (.load false 1 (.t 41)),
 .q 43 40 false (.bin .eql (.t 42) (.i 19)),
 .p 44 (.pick (.t 40) (.b true) (.t 43))]
@[simp] def r142_9 : List AOp :=
 [.p 45 (.off 3 (.t 1)),
 .p 46 (.load false 1 (.t 45)),
 .p 47 (.bin .eql (.t 46) (.i 0)),
 .m 2 47]
@[simp] def r142_10 : List AOp :=
 [.p 48 (.off 3 (.t 1)),
 .p 49 (.load false 1 (.t 48)),
 .p 50 (.call 90 [.t 49]),
 .m 2 50]
def c142 : AC :=
 .seq (.ops r142_0)
 (.seq (.seq (.tops r142_1
     p142_1)
  (.cond (.t 22) (.seq (.ops r142_2)
   (.ret)) (.skip)))
   (.seq (.seq (.ops r142_3)
    (.block 0 (.loop l142_0)))
  (.seq (.seq (.ops r142_8)
   (.cond (.t 44) (.seq (.ops r142_9)
    (.ret)) (.skip)))
    (.seq (.ops r142_10)
   (.ret)))))
def a142 : AFn := { res := [.tmp 2], body := c142, keepA := false, keepR := false, pure := true }
theorem k142 : chkFn Tryz.prog Tryz.f142 a142 = true := by kernel_rfl
@[simp] def r143_0 : List AOp :=
 [.p 1 (.box false 6 (.t 0)),
 .p 2 (.mov (.c (.lst .nil [])))]
@[simp] def r143_1 : List AOp :=
 [.p 3 (.mov (.c (.lst .nil [])))]
@[simp] def r143_2 : List AOp :=
 [.p 6 (.load true 6 (.t 1)),
 .p 7 (.call 142 [.t 6]),
 .p 8 (.un .not (.t 7))]
@[simp] def r143_3 : List AOp :=
 [.p 2 (.mov (.c (.lst .nil [])))]
@[simp] def r143_4 : List AOp :=
 [.p 4 (.mov (.i 0))]
@[simp] def r143_5 : List AOp :=
 [.m 9 4,
 .p 10 (.off 4 (.t 1)),
 .p 11 (.load false 1 (.t 10)),
 .p 12 (.len (.t 11)),
 .p 13 (.bin .lss (.t 9) (.t 12))]
@[simp] def r143_7 : List AOp :=
 [.p 16 (.off 1 (.t 1)),
 .p 17 (.load false 1 (.t 16)),
 .p 18 (.off 2 (.t 1)),
 .p 19 (.load false 1 (.t 18)),
 .p 20 (.build [.int .i64 0, .int .i64 0] [(0, 1, .t 17), (1, 1, .t 19)]),
 .p 5 (.alloc false [.int .i64 0, .int .i64 0]),
 .n (.store 2 (.t 5) (.t 20))]
@[simp] def r143_8 : List AOp :=
 [.p 21 (.off 0 (.t 1)),
 .p 22 (.load false 1 (.t 21))]
@[simp] def r143_9 : List AOp :=
 [.p 24 (.bin .eql (.t 22) (.i 13)),
 .m 23 24]
@[simp] def r143_10 : List AOp :=
 [.p 25 (.bin .eql (.t 22) (.i 20)),
 .m 23 25]
@[simp] def r143_11 : List AOp :=
 [.m 26 4,
 .p 27 (.bin .eql (.t 26) (.i 0))]
@[simp] def r143_12 : List AOp :=
 [.p 28 (.build [.int .i64 0, .int .i64 0] [(0, 1, .i 1), (1, 1, .i 1)]),
 .n (.store 2 (.t 5) (.t 28))]
@[simp] def r143_13 : List AOp :=
 [.p 30 (.bin .eql (.t 22) (.i 14)),
 .m 29 30]
@[simp] def r143_14 : List AOp :=
 [.p 31 (.bin .eql (.t 22) (.i 15)),
 .m 29 31]
@[simp] def r143_15 : List AOp :=
 [.p 32 (.off 5 (.t 1)),
 .p 33 (.load false 1 (.t 32)),
 .p 34 (.conv .i64 (.t 33)),
 .p 35 (.build [.int .i64 0, .int .i64 0] [(0, 1, .t 34), (1, 1, .i 1)]),
 .n (.store 2 (.t 5) (.t 35))]
@[simp] def r143_16 : List AOp :=
 [.p 37 (.bin .eql (.t 22) (.i 16)),
 .m 36 37]
@[simp] def r143_17 : List AOp :=
 [.p 38 (.bin .eql (.t 22) (.i 17)),
 .m 36 38]
@[simp] def r143_18 : List AOp :=
 [.m 39 4,
 .p 40 (.bin .eql (.t 39) (.i 0))]
@[simp] def r143_19 : List AOp :=
 [.p 41 (.build [.int .i64 0, .int .i64 0] [(0, 1, .i 64), (1, 1, .i 1)]),
 .n (.store 2 (.t 5) (.t 41))]
@[simp] def r143_20 : List AOp :=
 [.p 43 (.bin .eql (.t 22) (.i 18)),
 .m 42 43]
@[simp] def r143_21 : List AOp :=
 [.p 44 (.bin .eql (.t 22) (.i 19)),
 .m 42 44]
@[simp] def r143_22 : List AOp :=
 [.m 45 4,
 .p 46 (.bin .eql (.t 45) (.i 0))]
@[simp] def r143_23 : List AOp :=
 [.p 47 (.build [.int .i64 0, .int .i64 0] [(0, 1, .i 1), (1, 1, .i 1)]),
 .n (.store 2 (.t 5) (.t 47))]
@[simp] def r143_24 : List AOp :=
 [.m 48 4,
 .p 49 (.bin .eql (.t 48) (.i 1))]
@[simp] def r143_25 : List AOp :=
 [.p 50 (.build [.int .i64 0, .int .i64 0] [(0, 1, .i 64), (1, 1, .i 1)]),
 .n (.store 2 (.t 5) (.t 50))]
@[simp] def r143_26 : List AOp :=
 [.p 52 (.bin .eql (.t 22) (.i 21)),
 .m 51 52]
@[simp] def r143_27 : List AOp :=
 [.p 53 (.off 1 (.t 1)),
 .p 54 (.load false 1 (.t 53)),
 .p 55 (.build [.int .i64 0, .int .i64 0] [(0, 1, .t 54), (1, 1, .i 1)]),
 .n (.store 2 (.t 5) (.t 55))]
@[simp] def r143_28 : List AOp :=
 [.m 56 3,
 .p 57 (.load true 2 (.t 5)),
 .p 58 (.bslice false 1 2 [.int .i64 0, .int .i64 0] [(0, .t 57)]),
 .p 59 (.append false 2 16 (.t 56) (.t 58)),
 .m 3 59]
@[simp] def r143_6 : List AOp :=
 [.m 14 4,
 .p 15 (.bin .add (.t 14) (.i 1)),
 .m 4 15]
def l143_0 : AC :=
 .seq (.seq (.ops r143_5)
   (.cond (.t 13) (.skip) (.exit 0)))
 (.seq (.block 1 (.seq (.ops r143_7)
    (.seq (.seq (.ops r143_8)
     (.block 2 (.seq (.seq (.ops r143_9)
     (.cond (.t 23) (.skip) (.ops r143_10)))
      (.cond (.t 23) (.seq (.ops r143_11)
       (.cond (.t 27) (.ops r143_12) (.skip))) (.seq (.seq (.ops r143_13)
      (.cond (.t 29) (.skip) (.ops r143_14)))
       (.cond (.t 29) (.ops r143_15) (.seq (.seq (.ops r143_16)
       (.cond (.t 36) (.skip) (.ops r143_17)))
        (.cond (.t 36) (.seq (.ops r143_18)
         (.cond (.t 40) (.ops r143_19) (.skip))) (.seq (.seq (.ops r143_20)
        (.cond (.t 42) (.skip) (.ops r143_21)))
         (.cond (.t 42) (.seq (.seq (.ops r143_22)
         (.cond (.t 46) (.ops r143_23) (.skip)))
          (.seq (.ops r143_24)
         (.cond (.t 49) (.ops r143_25) (.skip)))) (.seq (.ops r143_26)
          (.cond (.t 51) (.ops r143_27) (.skip)))))))))))))
   (.ops r143_28))))
   (.ops r143_6))
@[simp] def r143_29 : List AOp :=
 [.m 60 3,
 .m 2 60]
def c143 : AC :=
 .seq (.ops r143_0)
 (.seq (.ops r143_1)
   (.seq (.seq (.ops r143_2)
    (.cond (.t 8) (.seq (.ops r143_3)
     (.ret)) (.skip)))
  (.seq (.seq (.ops r143_4)
   (.block 0 (.loop l143_0)))
    (.seq (.ops r143_29)
   (.ret)))))
def a143 : AFn := { res := [.tmp 2], body := c143, keepA := false, keepR := false, pure := true }
theorem k143 : chkFn Tryz.prog Tryz.f143 a143 = true := by kernel_rfl
@[simp] def r144_0 : List AOp :=
 [.p 2 (.alloc false [.lst .nil [], .lst .nil []]),
 .p 3 (.mov (.i 0))]
@[simp] def r144_1 : List AOp :=
 [.m 10 0,
 .p 11 (.len (.t 10)),
 .m 4 11]
@[simp] def r144_2 : List AOp :=
 [.m 12 4,
 .p 13 (.bin .eql (.t 12) (.i 0)),
 .m 14 13,
 .q 15 14 false (.mov (.t 4)),
 .q 16 14 false (.bin .gtr (.t 15) (.i 64)),
 .p 17 (.pick (.t 14) (.b true) (.t 16))]
@[simp] def r144_3 : List AOp :=
 [.p 18 (.build [.lst .nil [], .lst .nil []] []),
 .n (.store 2 (.t 2) (.t 18)),
 .p 3 (.mov (.i 5))]
@[simp] def r144_4 : List AOp :=
 [.p 5 (.mov (.i 0))]
@[simp] def r144_5 : List AOp :=
 [.m 19 5,
 .m 20 4,
 .p 21 (.bin .lss (.t 19) (.t 20))]
@[simp] def r144_7 : List AOp :=
 [.p 6 (.mov (.i 0))]
@[simp] def r144_8 : List AOp :=
 [.m 24 6,
 .m 25 0,
 .m 26 5,
 .p 27 (.idxS 1 (.t 25) (.t 26)),
 .p 28 (.load false 1 (.t 27)),
 .p 29 (.len (.t 28)),
 .p 30 (.bin .lss (.t 24) (.t 29))]
@[simp] def r144_10 : List AOp :=
 [.m 33 0,
 .m 34 5,
 .l 35 (.idxS 1 (.t 33) (.t 34)) 33 .lst,
 .l 36 (.load false 1 (.t 35)) 35 .imm,
 .m 37 6,
 .l 38 (.idxS 1 (.t 36) (.t 37)) 36 .lst,
 .l 39 (.load false 1 (.t 38)) 38 .imm,
 .p 40 (.bin .lss (.t 39) (.i 0)),
 .m 41 40,
 .q 42 41 false (.mov (.t 0)),
 .q 43 41 false (.mov (.t 5)),
 ⟨(some 44), (some (41, false)), .idxS 1 (.t 42) (.t 43), (some (.t 42, .lst))⟩,
 ⟨(some 45), (some (41, false)), .load false 1 (.t 44), (some (.t 44, .imm))⟩,
 .q 46 41 false (.mov (.t 6)),
 ⟨(some 47), (some (41, false)), .idxS 1 (.t 45) (.t 46), (some (.t 45, .lst))⟩,
 ⟨(some 48), (some (41, false)), .load false 1 (.t 47), (some (.t 47, .imm))⟩,
 .q 49 41 false (.mov (.t 4)),
 .q 50 41 false (.bin .geq (.t 48) (.t 49)),
 .p 51 (.pick (.t 41) (.b true) (.t 50)),
 .m 52 51,
 .q 53 52 false (.mov (.t 6)),
 .q 54 52 false (.bin .gtr (.t 53) (.i 0)),
 .q 55 52 false (.mov (.t 54)),
 .q 56 55 true (.mov (.t 0)),
 .q 57 55 true (.mov (.t 5)),
 ⟨(some 58), (some (55, true)), .idxS 1 (.t 56) (.t 57), (some (.t 56, .lst))⟩,
 ⟨(some 59), (some (55, true)), .load false 1 (.t 58), (some (.t 58, .imm))⟩,
 .q 60 55 true (.mov (.t 6)),
 ⟨(some 61), (some (55, true)), .idxS 1 (.t 59) (.t 60), (some (.t 59, .lst))⟩,
 ⟨(some 62), (some (55, true)), .load false 1 (.t 61), (some (.t 61, .imm))⟩,
 .q 63 55 true (.mov (.t 0)),
 .q 64 55 true (.mov (.t 5)),
 ⟨(some 65), (some (55, true)), .idxS 1 (.t 63) (.t 64), (some (.t 63, .lst))⟩,
 ⟨(some 66), (some (55, true)), .load false 1 (.t 65), (some (.t 65, .imm))⟩,
 .q 67 55 true (.mov (.t 6)),
 .q 68 55 true (.bin .sub (.t 67) (.i 1)),
 ⟨(some 69), (some (55, true)), .idxS 1 (.t 66) (.t 68), (some (.t 66, .lst))⟩,
 ⟨(some 70), (some (55, true)), .load false 1 (.t 69), (some (.t 69, .imm))⟩,
 .q 71 55 true (.bin .leq (.t 62) (.t 70)),
 .q 72 52 false (.pick (.t 55) (.t 71) (.b false)),
 .p 73 (.pick (.t 52) (.b true) (.t 72))]
def p144_10 : List (List Nat) := [[], [], [0, 1], [2], [], [3, 4], [5], [6], [7], [8], [8], [9, 10, 8], [11, 8], [8], [12, 13, 8], [14, 8], [8], [15, 16, 8], [8, 17], [18, 8], [19], [20, 19], [21, 19, 19], [22], [22], [23, 24, 22], [25, 22], [22], [26, 27, 22], [28, 22], [22], [22], [30, 31, 22], [32, 22], [22], [34, 22], [33, 35, 22], [36, 22], [29, 37, 22], [22, 38, 19], [19, 39]]
@[simp] def r144_11 : List AOp :=
 [.p 74 (.build [.lst .nil [], .lst .nil []] []),
 .n (.store 2 (.t 2) (.t 74)),
 .p 3 (.mov (.i 5))]
@[simp] def r144_9 : List AOp :=
 [.m 31 6,
 .p 32 (.bin .add (.t 31) (.i 1)),
 .m 6 32]
def l144_1 : AC :=
 .seq (.seq (.ops r144_8)
   (.cond (.t 30) (.skip) (.exit 2)))
 (.seq (.block 3 (.seq (.tops r144_10
    p144_10)
    (.cond (.t 73) (.seq (.ops r144_11)
     (.ret)) (.skip))))
   (.ops r144_9))
@[simp] def r144_6 : List AOp :=
 [.m 22 5,
 .p 23 (.bin .add (.t 22) (.i 1)),
 .m 5 23]
def l144_0 : AC :=
 .seq (.seq (.ops r144_5)
   (.cond (.t 21) (.skip) (.exit 0)))
 (.seq (.block 1 (.seq (.ops r144_7)
    (.block 2 (.loop l144_1))))
   (.ops r144_6))
@[simp] def r144_12 : List AOp :=
 [.m 75 0,
 .m 76 4,
 .p 77 (.mkslice true 1 24 [.lst .nil []] (.t 76) (.t 76)),
 .p 78 (.build [.lst .nil [], .lst .nil []] [(0, 1, .t 75), (1, 1, .t 77)]),
 .p 7 (.alloc false [.lst .nil [], .lst .nil []]),
 .n (.store 2 (.t 7) (.t 78))]
@[simp] def r144_13 : List AOp :=
 [.p 8 (.mov (.i 0))]
@[simp] def r144_14 : List AOp :=
 [.m 79 8,
 .m 80 4,
 .p 81 (.bin .lss (.t 79) (.t 80))]
@[simp] def r144_16 : List AOp :=
 [.p 9 (.mov (.i 0))]
@[simp] def r144_17 : List AOp :=
 [.m 84 9,
 .m 85 4,
 .p 86 (.bin .lss (.t 84) (.t 85))]
@[simp] def r144_19 : List AOp :=
 [.m 89 0,
 .m 90 9,
 .p 91 (.idxS 1 (.t 89) (.t 90)),
 .p 92 (.load false 1 (.t 91)),
 .m 93 8,
 .p 94 (.call 105 [.t 92, .t 93])]
@[simp] def r144_20 : List AOp :=
 [.l 95 (.off 1 (.t 7)) 7 (.loc 7),
 .l 96 (.load false 1 (.t 95)) 95 (.loc 7),
 .m 97 8,
 .l 98 (.off 1 (.t 7)) 7 (.loc 7),
 .l 99 (.load false 1 (.t 98)) 98 (.loc 7),
 .m 100 8,
 .l 101 (.idxS 1 (.t 99) (.t 100)) 99 .lst,
 .l 102 (.load false 1 (.t 101)) 101 .imm,
 .m 103 9,
 .p 104 (.bslice false 1 1 [.int .i64 0] [(0, .t 103)]),
 .p 105 (.append false 1 8 (.t 102) (.t 104)),
 .l 106 (.idxS 1 (.t 96) (.t 97)) 96 .lst,
 .n (.store 1 (.t 106) (.t 105))]
def p144_20 : List (List Nat) := [[], [0], [], [], [3], [], [4, 5], [6], [], [8], [7, 9], [1, 2, 0, 1, 2, 3, 4, 5, 6, 7, 8, 9, 10], [11, 10, 10, 0, 1, 2, 3, 4, 5, 6, 7, 8, 9, 10]]
@[simp] def r144_18 : List AOp :=
 [.m 87 9,
 .p 88 (.bin .add (.t 87) (.i 1)),
 .m 9 88]
def l144_3 : AC :=
 .seq (.seq (.ops r144_17)
   (.cond (.t 86) (.skip) (.exit 6)))
 (.seq (.block 7 (.seq (.ops r144_19)
    (.cond (.t 94) (.tops r144_20
      p144_20) (.skip))))
   (.ops r144_18))
@[simp] def r144_15 : List AOp :=
 [.m 82 8,
 .p 83 (.bin .add (.t 82) (.i 1)),
 .m 8 83]
def l144_2 : AC :=
 .seq (.seq (.ops r144_14)
   (.cond (.t 81) (.skip) (.exit 4)))
 (.seq (.block 5 (.seq (.ops r144_16)
    (.block 6 (.loop l144_3))))
   (.ops r144_15))
@[simp] def r144_21 : List AOp :=
 [.p 107 (.load true 2 (.t 7)),
 .n (.store 2 (.t 2) (.t 107)),
 .p 3 (.mov (.i 0))]
def c144 : AC :=
 .seq (.ops r144_0)
 (.seq (.ops r144_1)
   (.seq (.seq (.ops r144_2)
    (.cond (.t 17) (.seq (.ops r144_3)
     (.ret)) (.skip)))
  (.seq (.seq (.ops r144_4)
   (.block 0 (.loop l144_0)))
    (.seq (.ops r144_12)
   (.seq (.seq (.ops r144_13)
    (.block 4 (.loop l144_2)))
     (.seq (.ops r144_21)
    (.ret)))))))
def a144 : AFn := { res := [.cell 2 2 true, .tmp 3], body := c144, keepA := false, keepR := false, pure := true }
theorem k144 : chkFn Tryz.prog Tryz.f144 a144 = true := by kernel_rfl
@[simp] def r145_0 : List AOp :=
 [.p 1 (.box false 2 (.t 0)),
 .p 2 (.mov (.b false))]
@[simp] def r145_1 : List AOp :=
 [.p 6 (.off 0 (.t 1)),
 .p 7 (.load false 1 (.t 6)),
 .p 8 (.call 144 [.t 7]),
 .m 5 8,
 .p 9 (.ext (.t 5) 0),
 .p 10 (.ext (.t 5) 1),
 .p 3 (.alloc false [.lst .nil [], .lst .nil []]),
 .n (.store 2 (.t 3) (.t 9)),
 .m 4 10]
@[simp] def r145_2 : List AOp :=
 [.m 11 4,
 .p 12 (.bin .eql (.t 11) (.i 0)),
 .m 13 12,
 .q 14 13 true (.load true 2 (.t 3)),
 .q 15 13 true (.load true 2 (.t 1)),
 .q 16 13 true (.call 177 [.t 14, .t 15]),
 .p 17 (.pick (.t 13) (.t 16) (.b false)),
 .m 2 17]
def c145 : AC :=
 .seq (.ops r145_0)
 (.seq (.ops r145_1)
   (.seq (.ops r145_2)
  (.ret)))
def a145 : AFn := { res := [.tmp 2], body := c145, keepA := false, keepR := false, pure := true }
theorem k145 : chkFn Tryz.prog Tryz.f145 a145 = true := by kernel_rfl
@[simp] def r146_0 : List AOp :=
 [.p 2 (.mov (.b false))]
@[simp] def r146_1 : List AOp :=
 [.p 3 (.mov (.i 0))]
@[simp] def r146_2 : List AOp :=
 [.p 4 (.mov (.i 0))]
@[simp] def r146_3 : List AOp :=
 [.m 5 4,
 .m 6 0,
 .p 7 (.len (.t 6)),
 .p 8 (.bin .lss (.t 5) (.t 7))]
@[simp] def r146_5 : List AOp :=
 [.m 11 0,
 .m 12 4,
 .p 13 (.idxS 1 (.t 11) (.t 12)),
 .p 14 (.load false 1 (.t 13)),
 .p 15 (.bin .eql (.t 14) (.c (.int .i64 (-1))))]
@[simp] def r146_6 : List AOp :=
 [.m 16 3,
 .p 17 (.bin .add (.t 16) (.i 1)),
 .m 3 17]
@[simp] def r146_7 : List AOp :=
 [.m 18 0,
 .m 19 4,
 .p 20 (.idxS 1 (.t 18) (.t 19)),
 .p 21 (.load false 1 (.t 20)),
 .p 22 (.bin .neq (.t 21) (.c (.int .i64 (-2)))),
 .m 23 22,
 .q 24 23 true (.mov (.t 0)),
 .q 25 23 true (.mov (.t 4)),
 .q 26 23 true (.call 147 [.t 24, .t 25]),
 .q 27 23 true (.len (.t 26)),
 .q 28 23 true (.bin .eql (.t 27) (.i 0)),
 .p 29 (.pick (.t 23) (.t 28) (.b false))]
@[simp] def r146_8 : List AOp :=
 [.p 2 (.mov (.b false))]
@[simp] def r146_4 : List AOp :=
 [.m 9 4,
 .p 10 (.bin .add (.t 9) (.i 1)),
 .m 4 10]
def l146_0 : AC :=
 .seq (.seq (.ops r146_3)
   (.cond (.t 8) (.skip) (.exit 0)))
 (.seq (.block 1 (.seq (.seq (.ops r146_5)
   (.cond (.t 15) (.ops r146_6) (.skip)))
    (.seq (.ops r146_7)
   (.cond (.t 29) (.seq (.ops r146_8)
    (.ret)) (.skip)))))
   (.ops r146_4))
@[simp] def r146_9 : List AOp :=
 [.m 30 3,
 .p 31 (.bin .eql (.t 30) (.i 1)),
 .m 2 31]
def c146 : AC :=
 .seq (.ops r146_0)
 (.seq (.ops r146_1)
   (.seq (.seq (.ops r146_2)
    (.block 0 (.loop l146_0)))
  (.seq (.ops r146_9)
    (.ret))))
def a146 : AFn := { res := [.tmp 2], body := c146, keepA := false, keepR := false, pure := true }
theorem k146 : chkFn Tryz.prog Tryz.f146 a146 = true := by kernel_rfl
@[simp] def r147_0 : List AOp :=
 [.p 4 (.mov (.c (.lst .nil [])))]
@[simp] def r147_1 : List AOp :=
 [.p 5 (.mov (.c (.lst .nil [])))]
@[simp] def r147_2 : List AOp :=
 [.m 6 5,
 .p 7 (.len (.t 6)),
 .m 8 0,
 .p 9 (.len (.t 8)),
 .p 10 (.bin .lss (.t 7) (.t 9)),
 .m 11 10,
 .q 12 11 true (.mov (.t 1)),
 .q 13 11 true (.bin .geq (.t 12) (.i 0)),
 .p 14 (.pick (.t 11) (.t 13) (.b false)),
 .m 15 14,
 .q 16 15 true (.mov (.t 1)),
 .q 17 15 true (.mov (.t 0)),
 .q 18 15 true (.len (.t 17)),
 .q 19 15 true (.bin .lss (.t 16) (.t 18)),
 .p 20 (.pick (.t 15) (.t 19) (.b false))]
@[simp] def r147_3 : List AOp :=
 [.m 21 5,
 .m 22 1,
 .p 23 (.bslice false 1 1 [.int .i64 0] [(0, .t 22)]),
 .p 24 (.append false 1 8 (.t 21) (.t 23)),
 .m 5 24]
@[simp] def r147_4 : List AOp :=
 [.m 25 0,
 .m 26 1,
 .p 27 (.idxS 1 (.t 25) (.t 26)),
 .p 28 (.load false 1 (.t 27)),
 .p 29 (.bin .eql (.t 28) (.c (.int .i64 (-1))))]
@[simp] def r147_5 : List AOp :=
 [.m 30 5,
 .m 4 30]
@[simp] def r147_6 : List AOp :=
 [.m 31 0,
 .m 32 1,
 .p 33 (.idxS 1 (.t 31) (.t 32)),
 .p 34 (.load false 1 (.t 33)),
 .m 1 34]
def l147_0 : AC :=
 .seq (.seq (.ops r147_2)
   (.cond (.t 20) (.skip) (.exit 0)))
 (.block 1 (.seq (.ops r147_3)
  (.seq (.seq (.ops r147_4)
   (.cond (.t 29) (.seq (.ops r147_5)
    (.ret)) (.skip)))
    (.ops r147_6))))
@[simp] def r147_7 : List AOp :=
 [.p 4 (.mov (.c (.lst .nil [])))]
def c147 : AC :=
 .seq (.ops r147_0)
 (.seq (.ops r147_1)
   (.seq (.block 0 (.loop l147_0))
  (.seq (.ops r147_7)
    (.ret))))
def a147 : AFn := { res := [.tmp 4], body := c147, keepA := false, keepR := false, pure := true }
theorem k147 : chkFn Tryz.prog Tryz.f147 a147 = true := by kernel_rfl
@[simp] def r149_0 : List AOp :=
 [.p 4 (.mov (.b false))]
@[simp] def r149_1 : List AOp :=
 [.m 5 0,
 .m 6 1,
 .p 7 (.call 178 [.t 5, .t 6]),
 .p 8 (.bin .geq (.t 7) (.i 0)),
 .m 4 8]
def c149 : AC :=
 .seq (.ops r149_0)
 (.seq (.ops r149_1)
   (.ret))
def a149 : AFn := { res := [.tmp 4], body := c149, keepA := false, keepR := false, pure := true }
theorem k149 : chkFn Tryz.prog Tryz.f149 a149 = true := by kernel_rfl
@[simp] def r156_0 : List AOp :=
 [.p 1 (.box false 3 (.t 0)),
 .p 2 (.mov (.i 0))]
@[simp] def r156_1 : List AOp :=
 [.p 6 (.off 2 (.t 1)),
 .p 7 (.load false 1 (.t 6)),
 .p 8 (.len (.t 7)),
 .m 3 8]
@[simp] def r156_2 : List AOp :=
 [.p 9 (.off 2 (.t 1)),
 .p 10 (.load false 1 (.t 9)),
 .p 11 (.len (.t 10)),
 .p 12 (.mov (.i 0))]
@[simp] def r156_3 : List AOp :=
 [.p 13 (.bin .lss (.t 12) (.t 11))]
@[simp] def r156_4 : List AOp :=
 [.p 14 (.idxS 5 (.t 10) (.t 12)),
 .p 15 (.load true 5 (.t 14)),
 .p 5 (.alloc false [.lst .nil [], .lst .nil [], .int .i64 0, .int .i64 0, .lst .nil []]),
 .n (.store 5 (.t 5) (.t 15))]
@[simp] def r156_5 : List AOp :=
 [.m 16 3,
 .p 17 (.off 0 (.t 5)),
 .p 18 (.load false 1 (.t 17)),
 .p 19 (.len (.t 18)),
 .p 20 (.off 1 (.t 5)),
 .p 21 (.load false 1 (.t 20)),
 .p 22 (.len (.t 21)),
 .p 23 (.bin .add (.t 19) (.t 22)),
 .p 24 (.bin .add (.t 16) (.t 23)),
 .m 3 24]
@[simp] def r156_6 : List AOp :=
 [.p 25 (.bin .add (.t 12) (.i 1)),
 .m 12 25]
def l156_0 : AC :=
 .seq (.ops r156_3)
 (.seq (.cond (.t 13) (.skip) (.exit 0))
   (.seq (.block 1 (.seq (.ops r156_4)
   (.ops r156_5)))
  (.ops r156_6)))
@[simp] def r156_7 : List AOp :=
 [.m 26 3,
 .m 2 26]
def c156 : AC :=
 .seq (.ops r156_0)
 (.seq (.ops r156_1)
   (.seq (.seq (.ops r156_2)
    (.block 0 (.loop l156_0)))
  (.seq (.ops r156_7)
    (.ret))))
def a156 : AFn := { res := [.tmp 2], body := c156, keepA := false, keepR := false, pure := true }
theorem k156 : chkFn Tryz.prog Tryz.f156 a156 = true := by kernel_rfl
@[simp] def r157_0 : List AOp :=
 [.p 2 (.mov (.b false))]
@[simp] def r157_1 : List AOp :=
 [.m 3 0,
 .p 4 (.call 82 [.t 3, .c (.fn 181 [] [])]),
 .p 5 (.un .not (.t 4)),
 .m 2 5]
def c157 : AC :=
 .seq (.ops r157_0)
 (.seq (.ops r157_1)
   (.ret))
def a157 : AFn := { res := [.tmp 2], body := c157, keepA := false, keepR := false, pure := true }
theorem k157 : chkFn Tryz.prog Tryz.f157 a157 = true := by kernel_rfl
@[simp] def r158_0 : List AOp :=
 [.p 4 (.mov (.b false))]
@[simp] def r158_1 : List AOp :=
 [.m 5 0,
 .m 6 1,
 .p 7 (.call 182 [.t 5, .t 6]),
 .p 8 (.bin .geq (.t 7) (.i 0)),
 .m 4 8]
def c158 : AC :=
 .seq (.ops r158_0)
 (.seq (.ops r158_1)
   (.ret))
def a158 : AFn := { res := [.tmp 4], body := c158, keepA := false, keepR := false, pure := true }
theorem k158 : chkFn Tryz.prog Tryz.f158 a158 = true := by kernel_rfl
@[simp] def r159_0 : List AOp :=
 [.p 1 (.box false 5 (.t 0)),
 .p 2 (.mov (.b false))]
@[simp] def r159_1 : List AOp :=
 [.p 3 (.load true 5 (.t 1)),
 .p 4 (.call 160 [.t 3]),
 .p 5 (.un .not (.t 4)),
 .m 2 5]
def c159 : AC :=
 .seq (.ops r159_0)
 (.seq (.ops r159_1)
   (.ret))
def a159 : AFn := { res := [.tmp 2], body := c159, keepA := false, keepR := false, pure := true }
theorem k159 : chkFn Tryz.prog Tryz.f159 a159 = true := by kernel_rfl
@[simp] def r160_0 : List AOp :=
 [.p 1 (.box false 5 (.t 0)),
 .p 2 (.mov (.b false))]
@[simp] def r160_1 : List AOp :=
 [.p 7 (.off 0 (.t 1)),
 .p 8 (.load false 1 (.t 7)),
 .p 9 (.len (.t 8)),
 .p 10 (.mov (.i 0))]
@[simp] def r160_2 : List AOp :=
 [.p 11 (.bin .lss (.t 10) (.t 9))]
@[simp] def r160_3 : List AOp :=
 [.p 12 (.idxS 4 (.t 8) (.t 10)),
 .p 13 (.load true 4 (.t 12)),
 .p 4 (.alloc false [.int .i64 0, .int .i64 0, .lst .nil [], .lst .nil []]),
 .n (.store 4 (.t 4) (.t 13))]
@[simp] def r160_4 : List AOp :=
 [.p 14 (.off 0 (.t 4)),
 .p 15 (.load false 1 (.t 14)),
 .p 16 (.off 1 (.t 4)),
 .p 17 (.load false 1 (.t 16)),
 .p 18 (.bslice false 2 1 [.int .i64 0] [(0, .t 15), (1, .t 17)]),
 .p 19 (.call 157 [.t 18]),
 .p 20 (.un .not (.t 19)),
 .m 21 20,
 .q 22 21 false (.off 2 (.t 4)),
 .q 23 21 false (.load false 1 (.t 22)),
 .q 24 21 false (.off 3 (.t 4)),
 .q 25 21 false (.load false 1 (.t 24)),
 .q 26 21 false (.bslice false 2 1 [.lst .nil []] [(0, .t 23), (1, .t 25)]),
 .q 27 21 false (.call 183 [.t 26]),
 .q 28 21 false (.un .not (.t 27)),
 .p 29 (.pick (.t 21) (.b true) (.t 28))]
@[simp] def r160_5 : List AOp :=
 [.p 2 (.mov (.b false))]
@[simp] def r160_6 : List AOp :=
 [.p 30 (.bin .add (.t 10) (.i 1)),
 .m 10 30]
def l160_0 : AC :=
 .seq (.ops r160_2)
 (.seq (.cond (.t 11) (.skip) (.exit 0))
   (.seq (.block 1 (.seq (.ops r160_3)
   (.seq (.ops r160_4)
     (.cond (.t 29) (.seq (.ops r160_5)
      (.ret)) (.skip)))))
  (.ops r160_6)))
@[simp] def r160_7 : List AOp :=
 [.p 31 (.off 1 (.t 1)),
 .p 32 (.load false 1 (.t 31)),
 .p 33 (.len (.t 32)),
 .p 34 (.mov (.i 0))]
@[simp] def r160_8 : List AOp :=
 [.p 35 (.bin .lss (.t 34) (.t 33))]
@[simp] def r160_9 : List AOp :=
 [.p 36 (.idxS 6 (.t 32) (.t 34)),
 .p 37 (.load true 6 (.t 36)),
 .p 6 (.alloc false [.int .i64 0, .int .i64 0, .int .i64 0, .int .i64 0, .lst .nil [], .int .u64 0]),
 .n (.store 6 (.t 6) (.t 37))]
@[simp] def r160_10 : List AOp :=
 [.p 38 (.off 0 (.t 6)),
 .p 39 (.load false 1 (.t 38)),
 .p 40 (.off 1 (.t 6)),
 .p 41 (.load false 1 (.t 40)),
 .p 42 (.off 2 (.t 6)),
 .p 43 (.load false 1 (.t 42)),
 .p 44 (.off 3 (.t 6)),
 .p 45 (.load false 1 (.t 44)),
 .p 46 (.bslice false 4 1 [.int .i64 0] [(0, .t 39), (1, .t 41), (2, .t 43), (3, .t 45)]),
 .p 47 (.call 157 [.t 46]),
 .p 48 (.un .not (.t 47)),
 .m 49 48,
 .q 50 49 false (.off 4 (.t 6)),
 .q 51 49 false (.load false 1 (.t 50)),
 .q 52 49 false (.bslice false 1 1 [.lst .nil []] [(0, .t 51)]),
 .q 53 49 false (.call 183 [.t 52]),
 .q 54 49 false (.un .not (.t 53)),
 .p 55 (.pick (.t 49) (.b true) (.t 54))]
@[simp] def r160_11 : List AOp :=
 [.p 2 (.mov (.b false))]
@[simp] def r160_12 : List AOp :=
 [.p 56 (.bin .add (.t 34) (.i 1)),
 .m 34 56]
def l160_1 : AC :=
 .seq (.ops r160_8)
 (.seq (.cond (.t 35) (.skip) (.exit 2))
   (.seq (.block 3 (.seq (.ops r160_9)
   (.seq (.ops r160_10)
     (.cond (.t 55) (.seq (.ops r160_11)
      (.ret)) (.skip)))))
  (.ops r160_12)))
@[simp] def r160_13 : List AOp :=
 [.p 57 (.off 2 (.t 1)),
 .p 58 (.off 0 (.t 57)),
 .p 59 (.load false 1 (.t 58)),
 .p 60 (.off 2 (.t 1)),
 .p 61 (.off 1 (.t 60)),
 .p 62 (.load false 1 (.t 61)),
 .p 63 (.bslice false 2 1 [.int .i64 0] [(0, .t 59), (1, .t 62)]),
 .p 64 (.call 157 [.t 63]),
 .m 65 64,
 .q 66 65 true (.off 2 (.t 1)),
 .q 67 65 true (.off 2 (.t 66)),
 .q 68 65 true (.load false 1 (.t 67)),
 .q 69 65 true (.bslice false 1 1 [.lst .nil []] [(0, .t 68)]),
 .q 70 65 true (.call 183 [.t 69]),
 .p 71 (.pick (.t 65) (.t 70) (.b false)),
 .m 2 71]
def c160 : AC :=
 .seq (.ops r160_0)
 (.seq (.seq (.ops r160_1)
  (.block 0 (.loop l160_0)))
   (.seq (.seq (.ops r160_7)
    (.block 2 (.loop l160_1)))
  (.seq (.ops r160_13)
    (.ret))))
def a160 : AFn := { res := [.tmp 2], body := c160, keepA := false, keepR := false, pure := true }
theorem k160 : chkFn Tryz.prog Tryz.f160 a160 = true := by kernel_rfl
@[simp] def r165_0 : List AOp :=
 [.p 4 (.mov (.b false))]
@[simp] def r165_1 : List AOp :=
 [.m 5 0,
 .m 6 1,
 .p 7 (.call 185 [.t 5, .t 6]),
 .p 8 (.bin .geq (.t 7) (.i 0)),
 .m 4 8]
def c165 : AC :=
 .seq (.ops r165_0)
 (.seq (.ops r165_1)
   (.ret))
def a165 : AFn := { res := [.tmp 4], body := c165, keepA := false, keepR := false, pure := true }
theorem k165 : chkFn Tryz.prog Tryz.f165 a165 = true := by kernel_rfl
@[simp] def r166_0 : List AOp :=
 [.p 1 (.box false 2 (.t 0)),
 .p 2 (.mov (.b false))]
@[simp] def r166_1 : List AOp :=
 [.p 3 (.load true 2 (.t 1)),
 .p 4 (.call 20 [.t 3]),
 .p 5 (.un .not (.t 4)),
 .m 2 5]
def c166 : AC :=
 .seq (.ops r166_0)
 (.seq (.ops r166_1)
   (.ret))
def a166 : AFn := { res := [.tmp 2], body := c166, keepA := false, keepR := false, pure := true }
theorem k166 : chkFn Tryz.prog Tryz.f166 a166 = true := by kernel_rfl
@[simp] def r167_0 : List AOp :=
 [.p 2 (.mov (.i 0))]
@[simp] def r167_1 : List AOp :=
 [.m 10 0,
 .p 11 (.nilchk (.t 10)),
 .p 12 (.off 0 (.t 11)),
 .p 13 (.load true 3 (.t 12)),
 .p 14 (.call 186 [.t 13]),
 .m 9 14,
 .p 15 (.ext (.t 9) 0),
 .p 16 (.ext (.t 9) 1),
 .p 3 (.alloc false [.lst .nil [], .lst .nil []]),
 .n (.store 2 (.t 3) (.t 15)),
 .m 4 16]
@[simp] def r167_2 : List AOp :=
 [.m 17 4,
 .p 18 (.bin .neq (.t 17) (.i 0))]
@[simp] def r167_3 : List AOp :=
 [.p 2 (.mov (.i 5))]
@[simp] def r167_4 : List AOp :=
 [.m 19 0,
 .m 20 0,
 .l 21 (.load true 2 (.t 3)) 3 (.loc 3),
 .l 22 (.load true 2 (.t 3)) 3 (.loc 3),
 .p 23 (.call 187 [.t 22, .i 0]),
 .p 24 (.nilchk (.t 19)),
 .p 25 (.off 4 (.t 24)),
 .n (.store 2 (.t 25) (.t 21)),
 .p 26 (.nilchk (.t 20)),
 .p 27 (.off 6 (.t 26)),
 .n (.store 1 (.t 27) (.t 23))]
def p167_4 : List (List Nat) := [[], [], [], [], [3], [0, 0, 2, 4], [5, 0, 2, 4], [6, 2, 4, 0, 2, 4], [1, 0, 1, 2, 3, 4, 5, 6, 7], [8, 0, 1, 2, 3, 4, 5, 6, 7], [9, 4, 7, 0, 1, 2, 3, 4, 5, 6, 7]]
@[simp] def r167_5 : List AOp :=
 [.m 28 0,
 .p 29 (.nilchk (.t 28)),
 .p 30 (.off 0 (.t 29)),
 .p 31 (.off 2 (.t 30)),
 .p 32 (.load false 1 (.t 31)),
 .p 33 (.len (.t 32)),
 .p 34 (.mov (.i 0))]
@[simp] def r167_6 : List AOp :=
 [.p 35 (.bin .lss (.t 34) (.t 33))]
@[simp] def r167_7 : List AOp :=
 [.m 36 34,
 .p 37 (.idxS 5 (.t 32) (.t 34)),
 .p 38 (.load true 5 (.t 37)),
 .p 6 (.alloc false [.lst .nil [], .lst .nil [], .int .i64 0, .int .i64 0, .lst .nil []]),
 .m 5 36,
 .n (.store 5 (.t 6) (.t 38))]
@[simp] def r167_8 : List AOp :=
 [.m 39 0,
 .p 40 (.nilchk (.t 39)),
 .p 41 (.off 6 (.t 40)),
 .p 42 (.load false 1 (.t 41)),
 .m 43 5,
 .m 44 5,
 .p 45 (.call 188 [.t 42, .t 43, .t 44]),
 .p 46 (.un .not (.t 45))]
@[simp] def r167_9 : List AOp :=
 [.p 2 (.mov (.i 5))]
@[simp] def r167_10 : List AOp :=
 [.p 47 (.off 0 (.t 6)),
 .p 48 (.load false 1 (.t 47)),
 .p 49 (.len (.t 48)),
 .p 50 (.mov (.i 0))]
@[simp] def r167_11 : List AOp :=
 [.p 51 (.bin .lss (.t 50) (.t 49))]
@[simp] def r167_12 : List AOp :=
 [.p 52 (.idxS 4 (.t 48) (.t 50)),
 .p 53 (.load true 4 (.t 52)),
 .p 8 (.alloc false [.int .i64 0, .int .i64 0, .lst .nil [], .lst .nil []]),
 .n (.store 4 (.t 8) (.t 53))]
@[simp] def r167_13 : List AOp :=
 [.l 54 (.off 2 (.t 8)) 8 (.loc 8),
 .l 55 (.load false 1 (.t 54)) 54 (.loc 8),
 .p 56 (.len (.t 55)),
 .p 57 (.bin .eql (.t 56) (.i 0)),
 .m 58 57,
 ⟨(some 59), (some (58, false)), .off 2 (.t 8), (some (.t 8, .loc 8))⟩,
 ⟨(some 60), (some (58, false)), .load false 1 (.t 59), (some (.t 59, .loc 8))⟩,
 ⟨(some 61), (some (58, false)), .off 1 (.t 3), (some (.t 3, .loc 3))⟩,
 ⟨(some 62), (some (58, false)), .load false 1 (.t 61), (some (.t 61, .loc 3))⟩,
 .q 63 58 false (.mov (.t 5)),
 ⟨(some 64), (some (58, false)), .idxS 1 (.t 62) (.t 63), (some (.t 62, .lst))⟩,
 ⟨(some 65), (some (58, false)), .load false 1 (.t 64), (some (.t 64, .imm))⟩,
 .q 66 58 false (.call 130 [.t 60, .t 65]),
 .q 67 58 false (.un .not (.t 66)),
 .p 68 (.pick (.t 58) (.b true) (.t 67)),
 .m 69 68,
 ⟨(some 70), (some (69, false)), .off 3 (.t 8), (some (.t 8, .loc 8))⟩,
 ⟨(some 71), (some (69, false)), .load false 1 (.t 70), (some (.t 70, .loc 8))⟩,
 .q 72 69 false (.len (.t 71)),
 ⟨(some 73), (some (69, false)), .off 2 (.t 8), (some (.t 8, .loc 8))⟩,
 ⟨(some 74), (some (69, false)), .load false 1 (.t 73), (some (.t 73, .loc 8))⟩,
 .q 75 69 false (.len (.t 74)),
 .q 76 69 false (.bin .neq (.t 72) (.t 75)),
 .p 77 (.pick (.t 69) (.b true) (.t 76))]
def p167_13 : List (List Nat) := [[], [0], [1], [2], [3], [4], [5, 4], [4], [7, 4], [4], [8, 9, 4], [10, 4], [6, 11, 4, 4], [12, 4], [4, 13], [14, 12], [15], [16, 15], [17, 15], [15], [19, 15], [20, 15], [18, 21, 15], [15, 22]]
@[simp] def r167_14 : List AOp :=
 [.p 2 (.mov (.i 5))]
@[simp] def r167_15 : List AOp :=
 [.p 78 (.bin .add (.t 50) (.i 1)),
 .m 50 78]
def l167_1 : AC :=
 .seq (.ops r167_11)
 (.seq (.cond (.t 51) (.skip) (.exit 2))
   (.seq (.block 3 (.seq (.ops r167_12)
   (.seq (.tops r167_13
     p167_13)
     (.cond (.t 77) (.seq (.ops r167_14)
      (.ret)) (.skip)))))
  (.ops r167_15)))
@[simp] def r167_16 : List AOp :=
 [.p 79 (.off 2 (.t 6)),
 .p 80 (.off 0 (.t 79)),
 .p 81 (.load false 1 (.t 80)),
 .p 82 (.bin .eql (.t 81) (.i 1)),
 .m 83 82,
 .q 84 83 false (.off 2 (.t 6)),
 .q 85 83 false (.off 0 (.t 84)),
 .q 86 83 false (.load false 1 (.t 85)),
 .q 87 83 false (.bin .eql (.t 86) (.i 3)),
 .p 88 (.pick (.t 83) (.b true) (.t 87)),
 .m 89 88,
 .q 90 89 true (.off 2 (.t 6)),
 .q 91 89 true (.off 1 (.t 90)),
 .q 92 89 true (.load false 1 (.t 91)),
 .q 93 89 true (.bin .neq (.t 92) (.i 0)),
 .p 94 (.pick (.t 89) (.t 93) (.b false))]
@[simp] def r167_17 : List AOp :=
 [.p 2 (.mov (.i 5))]
@[simp] def r167_18 : List AOp :=
 [.p 95 (.bin .add (.t 34) (.i 1)),
 .m 34 95]
def l167_0 : AC :=
 .seq (.ops r167_6)
 (.seq (.cond (.t 35) (.skip) (.exit 0))
   (.seq (.block 1 (.seq (.ops r167_7)
   (.seq (.seq (.ops r167_8)
    (.cond (.t 46) (.seq (.ops r167_9)
     (.ret)) (.skip)))
     (.seq (.seq (.ops r167_10)
      (.block 2 (.loop l167_1)))
    (.seq (.ops r167_16)
      (.cond (.t 94) (.seq (.ops r167_17)
       (.ret)) (.skip)))))))
  (.ops r167_18)))
@[simp] def r167_19 : List AOp :=
 [.p 2 (.mov (.i 0))]
def c167 : AC :=
 .seq (.ops r167_0)
 (.seq (.ops r167_1)
   (.seq (.seq (.ops r167_2)
    (.cond (.t 18) (.seq (.ops r167_3)
     (.ret)) (.skip)))
  (.seq (.tops r167_4
    p167_4)
    (.seq (.seq (.ops r167_5)
     (.block 0 (.loop l167_0)))
   (.seq (.ops r167_19)
     (.ret))))))
def a167 : AFn := { res := [.tmp 2], body := c167, keepA := false, keepR := false, pure := false }
theorem k167 : chkFn Tryz.prog Tryz.f167 a167 = true := by kernel_rfl
@[simp] def r168_0 : List AOp :=
 [.p 1 (.box true 1 (.t 0)),
 .p 2 (.mov (.i 0))]
@[simp] def r168_1 : List AOp :=
 [.p 6 (.load false 1 (.t 1)),
 .p 7 (.nilchk (.t 6)),
 .p 8 (.off 0 (.t 7)),
 .p 9 (.off 1 (.t 8)),
 .p 10 (.load false 1 (.t 9)),
 .p 11 (.call 127 [.t 10]),
 .p 12 (.un .not (.t 11)),
 .m 13 12,
 .q 14 13 false (.load false 1 (.t 1)),
 .q 15 13 false (.nilchk (.t 14)),
 .q 16 13 false (.off 0 (.t 15)),
 .q 17 13 false (.off 0 (.t 16)),
 .q 18 13 false (.load false 1 (.t 17)),
 .q 19 13 false (.call 82 [.t 18, .c (.fn 189 [] [])]),
 .p 20 (.pick (.t 13) (.b true) (.t 19))]
@[simp] def r168_2 : List AOp :=
 [.p 2 (.mov (.i 6))]
@[simp] def r168_3 : List AOp :=
 [.p 21 (.load false 1 (.t 1)),
 .p 22 (.nilchk (.t 21)),
 .p 23 (.off 0 (.t 22)),
 .p 24 (.off 2 (.t 23)),
 .p 25 (.load false 1 (.t 24)),
 .p 26 (.len (.t 25)),
 .p 27 (.mov (.i 0))]
@[simp] def r168_4 : List AOp :=
 [.p 28 (.bin .lss (.t 27) (.t 26))]
@[simp] def r168_5 : List AOp :=
 [.p 29 (.idxS 5 (.t 25) (.t 27)),
 .p 30 (.load true 5 (.t 29)),
 .p 4 (.alloc false [.lst .nil [], .lst .nil [], .int .i64 0, .int .i64 0, .lst .nil []]),
 .n (.store 5 (.t 4) (.t 30))]
@[simp] def r168_6 : List AOp :=
 [.p 31 (.off 0 (.t 4)),
 .p 32 (.load false 1 (.t 31)),
 .p 33 (.call 190 [.t 32, .c (.fn 191 [] [])]),
 .m 5 33]
@[simp] def r168_7 : List AOp :=
 [.m 34 5,
 .m 35 34,
 .q 36 35 false (.off 1 (.t 4)),
 .q 37 35 false (.load false 1 (.t 36)),
 .q 38 35 false (.mkfn 193 [] [.t 1]),
 .q 39 35 false (.call 192 [.t 37, .t 38]),
 .p 40 (.pick (.t 35) (.b true) (.t 39))]
@[simp] def r168_8 : List AOp :=
 [.p 2 (.mov (.i 6))]
@[simp] def r168_9 : List AOp :=
 [.p 41 (.bin .add (.t 27) (.i 1)),
 .m 27 41]
def l168_0 : AC :=
 .seq (.ops r168_4)
 (.seq (.cond (.t 28) (.skip) (.exit 0))
   (.seq (.block 1 (.seq (.ops r168_5)
   (.seq (.ops r168_6)
     (.seq (.ops r168_7)
    (.cond (.t 40) (.seq (.ops r168_8)
     (.ret)) (.skip))))))
  (.ops r168_9)))
@[simp] def r168_10 : List AOp :=
 [.p 2 (.mov (.i 0))]
def c168 : AC :=
 .seq (.ops r168_0)
 (.seq (.seq (.ops r168_1)
  (.cond (.t 20) (.seq (.ops r168_2)
   (.ret)) (.skip)))
   (.seq (.seq (.ops r168_3)
    (.block 0 (.loop l168_0)))
  (.seq (.ops r168_10)
    (.ret))))
def a168 : AFn := { res := [.tmp 2], body := c168, keepA := false, keepR := false, pure := false }
theorem k168 : chkFn Tryz.prog Tryz.f168 a168 = true := by kernel_rfl
@[simp] def r169_0 : List AOp :=
 [.p 1 (.box true 1 (.t 0)),
 .p 2 (.mov (.i 0))]
@[simp] def r169_1 : List AOp :=
 [.p 13 (.load false 1 (.t 1)),
 .p 14 (.mkmap .i64),
 .p 15 (.nilchk (.t 13)),
 .p 16 (.off 7 (.t 15)),
 .n (.store 1 (.t 16) (.t 14))]
@[simp] def r169_2 : List AOp :=
 [.p 17 (.load false 1 (.t 1)),
 .p 18 (.nilchk (.t 17)),
 .p 19 (.off 0 (.t 18)),
 .p 20 (.off 0 (.t 19)),
 .p 21 (.load false 1 (.t 20)),
 .p 22 (.len (.t 21)),
 .p 23 (.mov (.i 0))]
@[simp] def r169_3 : List AOp :=
 [.p 24 (.bin .lss (.t 23) (.t 22))]
@[simp] def r169_4 : List AOp :=
 [.m 25 23,
 .p 26 (.idxS 1 (.t 21) (.t 23)),
 .p 27 (.load false 1 (.t 26)),
 .m 3 25,
 .m 4 27]
@[simp] def r169_5 : List AOp :=
 [.p 28 (.load false 1 (.t 1)),
 .m 29 3,
 .p 30 (.bin .add (.t 29) (.i 1)),
 .m 31 4,
 .p 32 (.call 196 [.t 31]),
 .p 33 (.build [.int .i64 0, .int .i64 0, .int .i64 0, .int .i64 0] [(0, 1, .c (.int .i64 (-1))), (1, 1, .i 0), (2, 2, .t 32)]),
 .p 34 (.call 195 [.t 28, .t 30, .t 33])]
def p169_5 : List (List Nat) := [[], [], [1], [], [3], [4], [0, 2, 5, 4]]
@[simp] def r169_6 : List AOp :=
 [.p 35 (.bin .add (.t 23) (.i 1)),
 .m 23 35]
def l169_0 : AC :=
 .seq (.ops r169_3)
 (.seq (.cond (.t 24) (.skip) (.exit 0))
   (.seq (.block 1 (.seq (.ops r169_4)
   (.dops r169_5
      p169_5)))
  (.ops r169_6)))
@[simp] def r169_7 : List AOp :=
 [.p 36 (.load false 1 (.t 1)),
 .p 37 (.nilchk (.t 36)),
 .p 38 (.off 0 (.t 37)),
 .p 39 (.off 2 (.t 38)),
 .p 40 (.load false 1 (.t 39)),
 .p 41 (.len (.t 40)),
 .p 42 (.mov (.i 0))]
@[simp] def r169_8 : List AOp :=
 [.p 43 (.bin .lss (.t 42) (.t 41))]
@[simp] def r169_9 : List AOp :=
 [.m 44 42,
 .p 45 (.idxS 5 (.t 40) (.t 42)),
 .p 46 (.load true 5 (.t 45)),
 .p 6 (.alloc false [.lst .nil [], .lst .nil [], .int .i64 0, .int .i64 0, .lst .nil []]),
 .m 5 44,
 .n (.store 5 (.t 6) (.t 46))]
@[simp] def r169_10 : List AOp :=
 [.p 47 (.off 0 (.t 6)),
 .p 48 (.load false 1 (.t 47)),
 .p 49 (.len (.t 48)),
 .p 50 (.mov (.i 0))]
@[simp] def r169_11 : List AOp :=
 [.p 51 (.bin .lss (.t 50) (.t 49))]
@[simp] def r169_12 : List AOp :=
 [.p 52 (.idxS 4 (.t 48) (.t 50)),
 .p 53 (.load true 4 (.t 52)),
 .p 8 (.alloc false [.int .i64 0, .int .i64 0, .lst .nil [], .lst .nil []]),
 .n (.store 4 (.t 8) (.t 53))]
@[simp] def r169_13 : List AOp :=
 [.l 54 (.off 1 (.t 8)) 8 (.loc 8),
 .l 55 (.load false 1 (.t 54)) 54 (.loc 8),
 .p 56 (.bin .lss (.t 55) (.i 1)),
 .m 57 56,
 ⟨(some 58), (some (57, false)), .off 1 (.t 8), (some (.t 8, .loc 8))⟩,
 ⟨(some 59), (some (57, false)), .load false 1 (.t 58), (some (.t 58, .loc 8))⟩,
 .q 60 57 false (.bin .gtr (.t 59) (.i 1023)),
 .p 61 (.pick (.t 57) (.b true) (.t 60)),
 .m 62 61,
 .q 63 62 false (.load false 1 (.t 1)),
 ⟨(some 64), (some (62, false)), .off 1 (.t 8), (some (.t 8, .loc 8))⟩,
 ⟨(some 65), (some (62, false)), .load false 1 (.t 64), (some (.t 64, .loc 8))⟩,
 .q 66 62 false (.mov (.t 5)),
 ⟨(some 67), (some (62, false)), .off 0 (.t 8), (some (.t 8, .loc 8))⟩,
 ⟨(some 68), (some (62, false)), .load false 1 (.t 67), (some (.t 67, .loc 8))⟩,
 .q 69 62 false (.call 196 [.t 68]),
 .q 70 62 false (.build [.int .i64 0, .int .i64 0, .int .i64 0, .int .i64 0] [(0, 1, .t 66), (1, 1, .c (.int .i64 (-1))), (2, 2, .t 69)]),
 .q 71 62 false (.call 195 [.t 63, .t 65, .t 70]),
 .q 72 62 false (.un .not (.t 71)),
 .p 73 (.pick (.t 62) (.b true) (.t 72))]
def p169_13 : List (List Nat) := [[], [0], [1], [2], [3], [4, 3], [5, 3], [3, 6], [7, 3], [8], [8], [10, 8], [8], [8], [13, 8], [14, 8, 8], [12, 15, 8], [9, 11, 16, 15, 8], [17, 8], [8, 18]]
@[simp] def r169_14 : List AOp :=
 [.p 2 (.mov (.i 7))]
@[simp] def r169_15 : List AOp :=
 [.p 74 (.bin .add (.t 50) (.i 1)),
 .m 50 74]
def l169_2 : AC :=
 .seq (.ops r169_11)
 (.seq (.cond (.t 51) (.skip) (.exit 4))
   (.seq (.block 5 (.seq (.ops r169_12)
   (.seq (.dops r169_13
     p169_13)
     (.cond (.t 73) (.seq (.ops r169_14)
      (.ret)) (.skip)))))
  (.ops r169_15)))
@[simp] def r169_16 : List AOp :=
 [.p 75 (.off 1 (.t 6)),
 .p 76 (.load false 1 (.t 75)),
 .p 77 (.len (.t 76)),
 .p 78 (.mov (.i 0))]
@[simp] def r169_17 : List AOp :=
 [.p 79 (.bin .lss (.t 78) (.t 77))]
@[simp] def r169_18 : List AOp :=
 [.m 80 78,
 .p 81 (.idxS 6 (.t 76) (.t 78)),
 .p 82 (.load true 6 (.t 81)),
 .p 10 (.alloc false [.int .i64 0, .int .i64 0, .int .i64 0, .int .i64 0, .lst .nil [], .int .u64 0]),
 .m 9 80,
 .n (.store 6 (.t 10) (.t 82))]
@[simp] def r169_19 : List AOp :=
 [.p 84 (.load true 6 (.t 10)),
 .p 85 (.call 197 [.t 84]),
 .m 83 85,
 .p 86 (.ext (.t 83) 0),
 .p 87 (.ext (.t 83) 1),
 .m 11 86,
 .m 12 87]
@[simp] def r169_20 : List AOp :=
 [.m 88 11,
 .p 89 (.bin .gtr (.t 88) (.i 0)),
 .m 90 89,
 .q 91 90 true (.load false 1 (.t 1)),
 .q 92 90 true (.off 3 (.t 10)),
 .q 93 90 true (.load false 1 (.t 92)),
 .q 94 90 true (.mov (.t 5)),
 .q 95 90 true (.mov (.t 9)),
 .q 96 90 true (.mov (.t 11)),
 .q 97 90 true (.mov (.t 12)),
 .q 98 90 true (.build [.int .i64 0, .int .i64 0] [(0, 1, .t 96), (1, 1, .t 97)]),
 .q 99 90 true (.build [.int .i64 0, .int .i64 0, .int .i64 0, .int .i64 0] [(0, 1, .t 94), (1, 1, .t 95), (2, 2, .t 98)]),
 .q 100 90 true (.call 195 [.t 91, .t 93, .t 99]),
 .q 101 90 true (.un .not (.t 100)),
 .p 102 (.pick (.t 90) (.t 101) (.b false))]
@[simp] def r169_21 : List AOp :=
 [.p 2 (.mov (.i 7))]
@[simp] def r169_22 : List AOp :=
 [.p 103 (.bin .add (.t 78) (.i 1)),
 .m 78 103]
def l169_3 : AC :=
 .seq (.ops r169_17)
 (.seq (.cond (.t 79) (.skip) (.exit 6))
   (.seq (.block 7 (.seq (.ops r169_18)
   (.seq (.ops r169_19)
     (.seq (.ops r169_20)
    (.cond (.t 102) (.seq (.ops r169_21)
     (.ret)) (.skip))))))
  (.ops r169_22)))
@[simp] def r169_23 : List AOp :=
 [.p 104 (.bin .add (.t 42) (.i 1)),
 .m 42 104]
def l169_1 : AC :=
 .seq (.ops r169_8)
 (.seq (.cond (.t 43) (.skip) (.exit 2))
   (.seq (.block 3 (.seq (.ops r169_9)
   (.seq (.seq (.ops r169_10)
    (.block 4 (.loop l169_2)))
     (.seq (.ops r169_16)
    (.block 6 (.loop l169_3))))))
  (.ops r169_23)))
@[simp] def r169_24 : List AOp :=
 [.p 105 (.load false 1 (.t 1)),
 .p 106 (.mkfn 199 [] [.t 1]),
 .p 107 (.call 198 [.t 105, .t 106]),
 .m 2 107]
def c169 : AC :=
 .seq (.ops r169_0)
 (.seq (.ops r169_1)
   (.seq (.seq (.ops r169_2)
    (.block 0 (.loop l169_0)))
  (.seq (.seq (.ops r169_7)
   (.block 2 (.loop l169_1)))
    (.seq (.ops r169_24)
   (.ret)))))
def a169 : AFn := { res := [.tmp 2], body := c169, keepA := false, keepR := false, pure := false }
theorem k169 : chkFn Tryz.prog Tryz.f169 a169 = true := by kernel_rfl
@[simp] def r170_0 : List AOp :=
 [.p 1 (.box true 1 (.t 0)),
 .p 2 (.mov (.i 0))]
@[simp] def r170_1 : List AOp :=
 [.p 3 (.load false 1 (.t 1)),
 .p 4 (.mkfn 200 [] [.t 1]),
 .p 5 (.call 198 [.t 3, .t 4]),
 .m 2 5]
def c170 : AC :=
 .seq (.ops r170_0)
 (.seq (.ops r170_1)
   (.ret))
def a170 : AFn := { res := [.tmp 2], body := c170, keepA := false, keepR := false, pure := false }
theorem k170 : chkFn Tryz.prog Tryz.f170 a170 = true := by kernel_rfl
@[simp] def r171_0 : List AOp :=
 [.p 1 (.box true 1 (.t 0)),
 .p 2 (.mov (.i 0))]
@[simp] def r171_1 : List AOp :=
 [.p 3 (.load false 1 (.t 1)),
 .p 4 (.mkfn 201 [] [.t 1]),
 .p 5 (.call 198 [.t 3, .t 4]),
 .m 2 5]
def c171 : AC :=
 .seq (.ops r171_0)
 (.seq (.ops r171_1)
   (.ret))
def a171 : AFn := { res := [.tmp 2], body := c171, keepA := false, keepR := false, pure := false }
theorem k171 : chkFn Tryz.prog Tryz.f171 a171 = true := by kernel_rfl
@[simp] def r175_0 : List AOp :=
 [.p 1 (.box false 6 (.t 0)),
 .p 2 (.mov (.i 0))]
@[simp] def r175_1 : List AOp :=
 [.p 3 (.off 0 (.t 1)),
 .p 4 (.load false 1 (.t 3))]
@[simp] def r175_2 : List AOp :=
 [.p 6 (.bin .eql (.t 4) (.i 0)),
 .m 5 6]
@[simp] def r175_3 : List AOp :=
 [.p 2 (.mov (.i 0))]
@[simp] def r175_4 : List AOp :=
 [.p 8 (.bin .eql (.t 4) (.i 1)),
 .m 7 8]
@[simp] def r175_5 : List AOp :=
 [.p 9 (.bin .eql (.t 4) (.i 2)),
 .m 7 9]
@[simp] def r175_6 : List AOp :=
 [.p 10 (.bin .eql (.t 4) (.i 3)),
 .m 7 10]
@[simp] def r175_7 : List AOp :=
 [.p 11 (.bin .eql (.t 4) (.i 4)),
 .m 7 11]
@[simp] def r175_8 : List AOp :=
 [.p 12 (.bin .eql (.t 4) (.i 5)),
 .m 7 12]
@[simp] def r175_9 : List AOp :=
 [.p 13 (.bin .eql (.t 4) (.i 6)),
 .m 7 13]
@[simp] def r175_10 : List AOp :=
 [.p 14 (.bin .eql (.t 4) (.i 7)),
 .m 7 14]
@[simp] def r175_11 : List AOp :=
 [.p 15 (.bin .eql (.t 4) (.i 8)),
 .m 7 15]
@[simp] def r175_12 : List AOp :=
 [.p 16 (.bin .eql (.t 4) (.i 9)),
 .m 7 16]
@[simp] def r175_13 : List AOp :=
 [.p 17 (.bin .eql (.t 4) (.i 10)),
 .m 7 17]
@[simp] def r175_14 : List AOp :=
 [.p 18 (.bin .eql (.t 4) (.i 11)),
 .m 7 18]
@[simp] def r175_15 : List AOp :=
 [.p 19 (.bin .eql (.t 4) (.i 12)),
 .m 7 19]
@[simp] def r175_16 : List AOp :=
 [.p 20 (.bin .eql (.t 4) (.i 17)),
 .m 7 20]
@[simp] def r175_17 : List AOp :=
 [.p 2 (.mov (.i 2))]
@[simp] def r175_18 : List AOp :=
 [.p 22 (.bin .eql (.t 4) (.i 13)),
 .m 21 22]
@[simp] def r175_19 : List AOp :=
 [.p 23 (.bin .eql (.t 4) (.i 18)),
 .m 21 23]
@[simp] def r175_20 : List AOp :=
 [.p 24 (.bin .eql (.t 4) (.i 19)),
 .m 21 24]
@[simp] def r175_21 : List AOp :=
 [.p 2 (.mov (.i 3))]
@[simp] def r175_22 : List AOp :=
 [.p 26 (.bin .eql (.t 4) (.i 14)),
 .m 25 26]
@[simp] def r175_23 : List AOp :=
 [.p 27 (.bin .eql (.t 4) (.i 15)),
 .m 25 27]
@[simp] def r175_24 : List AOp :=
 [.p 28 (.bin .eql (.t 4) (.i 16)),
 .m 25 28]
@[simp] def r175_25 : List AOp :=
 [.p 29 (.bin .eql (.t 4) (.i 22)),
 .m 25 29]
@[simp] def r175_26 : List AOp :=
 [.p 2 (.mov (.i 1))]
@[simp] def r175_27 : List AOp :=
 [.p 31 (.bin .eql (.t 4) (.i 20)),
 .m 30 31]
@[simp] def r175_28 : List AOp :=
 [.p 2 (.mov (.i 4))]
@[simp] def r175_29 : List AOp :=
 [.p 33 (.bin .eql (.t 4) (.i 21)),
 .m 32 33]
@[simp] def r175_30 : List AOp :=
 [.p 34 (.off 2 (.t 1)),
 .p 35 (.load false 1 (.t 34)),
 .m 2 35]
@[simp] def r175_31 : List AOp :=
 [.p 2 (.mov (.c (.int .i64 (-1))))]
def c175 : AC :=
 .seq (.ops r175_0)
 (.seq (.seq (.ops r175_1)
  (.block 0 (.seq (.ops r175_2)
   (.cond (.t 5) (.seq (.ops r175_3)
    (.ret)) (.seq (.seq (.ops r175_4)
      (.cond (.t 7) (.skip) (.seq (.ops r175_5)
       (.cond (.t 7) (.skip) (.seq (.ops r175_6)
        (.cond (.t 7) (.skip) (.seq (.ops r175_7)
         (.cond (.t 7) (.skip) (.seq (.ops r175_8)
          (.cond (.t 7) (.skip) (.seq (.ops r175_9)
           (.cond (.t 7) (.skip) (.seq (.ops r175_10)
            (.cond (.t 7) (.skip) (.seq (.ops r175_11)
             (.cond (.t 7) (.skip) (.seq (.ops r175_12)
              (.cond (.t 7) (.skip) (.seq (.ops r175_13)
               (.cond (.t 7) (.skip) (.seq (.ops r175_14)
                (.cond (.t 7) (.skip) (.seq (.ops r175_15)
                 (.cond (.t 7) (.skip) (.ops r175_16)))))))))))))))))))))))))
    (.cond (.t 7) (.seq (.ops r175_17)
     (.ret)) (.seq (.seq (.ops r175_18)
       (.cond (.t 21) (.skip) (.seq (.ops r175_19)
        (.cond (.t 21) (.skip) (.ops r175_20)))))
     (.cond (.t 21) (.seq (.ops r175_21)
      (.ret)) (.seq (.seq (.ops r175_22)
        (.cond (.t 25) (.skip) (.seq (.ops r175_23)
         (.cond (.t 25) (.skip) (.seq (.ops r175_24)
          (.cond (.t 25) (.skip) (.ops r175_25)))))))
      (.cond (.t 25) (.seq (.ops r175_26)
       (.ret)) (.seq (.ops r175_27)
       (.cond (.t 30) (.seq (.ops r175_28)
        (.ret)) (.seq (.ops r175_29)
        (.cond (.t 32) (.seq (.ops r175_30)
         (.ret)) (.skip)))))))))))))))
   (.seq (.ops r175_31)
  (.ret)))
def a175 : AFn := { res := [.tmp 2], body := c175, keepA := false, keepR := false, pure := true }
theorem k175 : chkFn Tryz.prog Tryz.f175 a175 = true := by kernel_rfl
@[simp] def r176_0 : List AOp :=
 [.p 1 (.box false 6 (.t 0)),
 .p 2 (.mov (.b false))]
@[simp] def r176_1 : List AOp :=
 [.p 4 (.off 0 (.t 1)),
 .p 5 (.load false 1 (.t 4)),
 .m 3 5]
@[simp] def r176_2 : List AOp :=
 [.m 6 3,
 .p 7 (.bin .eql (.t 6) (.i 4)),
 .m 8 7,
 .q 9 8 false (.mov (.t 3)),
 .q 10 8 false (.bin .geq (.t 9) (.i 10)),
 .q 11 8 false (.mov (.t 10)),
 .q 12 11 true (.mov (.t 3)),
 .q 13 11 true (.bin .leq (.t 12) (.i 12)),
 .q 14 8 false (.pick (.t 11) (.t 13) (.b false)),
 .p 15 (.pick (.t 8) (.b true) (.t 14)),
 .m 16 15,
 .q 17 16 false (.mov (.t 3)),
 .q 18 16 false (.bin .eql (.t 17) (.i 14)),
 .p 19 (.pick (.t 16) (.b true) (.t 18)),
 .m 20 19,
 .q 21 20 false (.mov (.t 3)),
 .q 22 20 false (.bin .eql (.t 21) (.i 15)),
 .p 23 (.pick (.t 20) (.b true) (.t 22)),
 .m 24 23,
 .q 25 24 false (.mov (.t 3)),
 .q 26 24 false (.bin .geq (.t 25) (.i 18)),
 .q 27 24 false (.mov (.t 26)),
 .q 28 27 true (.mov (.t 3)),
 .q 29 27 true (.bin .leq (.t 28) (.i 20)),
 .q 30 24 false (.pick (.t 27) (.t 29) (.b false)),
 .p 31 (.pick (.t 24) (.b true) (.t 30))]
@[simp] def r176_3 : List AOp :=
 [.p 32 (.off 2 (.t 1)),
 .p 33 (.load false 1 (.t 32)),
 .p 34 (.bin .neq (.t 33) (.i 1))]
@[simp] def r176_4 : List AOp :=
 [.p 2 (.mov (.b false))]
@[simp] def r176_5 : List AOp :=
 [.m 35 3,
 .p 36 (.bin .geq (.t 35) (.i 16)),
 .m 37 36,
 .q 38 37 true (.mov (.t 3)),
 .q 39 37 true (.bin .leq (.t 38) (.i 19)),
 .p 40 (.pick (.t 37) (.t 39) (.b false)),
 .m 41 40,
 .q 42 41 true (.off 1 (.t 1)),
 .q 43 41 true (.load false 1 (.t 42)),
 .q 44 41 true (.bin .lss (.t 43) (.i 8)),
 .p 45 (.pick (.t 41) (.t 44) (.b false)),
 .m 46 45,
 .q 47 46 false (.mov (.t 3)),
 .q 48 46 false (.bin .geq (.t 47) (.i 21)),
 .q 49 46 false (.mov (.t 48)),
 .q 50 49 true (.off 2 (.t 1)),
 .q 51 49 true (.load false 1 (.t 50)),
 .q 52 49 true (.bin .lss (.t 51) (.i 2)),
 .q 53 46 false (.pick (.t 49) (.t 52) (.b false)),
 .p 54 (.pick (.t 46) (.b true) (.t 53))]
@[simp] def r176_6 : List AOp :=
 [.p 2 (.mov (.b false))]
@[simp] def r176_7 : List AOp :=
 [.m 55 3]
@[simp] def r176_8 : List AOp :=
 [.p 57 (.bin .eql (.t 55) (.i 0)),
 .m 56 57]
@[simp] def r176_9 : List AOp :=
 [.l 58 (.off 5 (.t 1)) 1 (.loc 1),
 .l 59 (.load false 1 (.t 58)) 58 (.loc 1),
 .l 60 (.off 1 (.t 1)) 1 (.loc 1),
 .l 61 (.load false 1 (.t 60)) 60 (.loc 1),
 .p 62 (.call 202 [.t 59, .t 61]),
 .l 63 (.off 5 (.t 1)) 1 (.loc 1),
 .l 64 (.load false 1 (.t 63)) 63 (.loc 1),
 .p 65 (.bin .eql (.t 62) (.t 64)),
 .m 2 65]
def p176_9 : List (List Nat) := [[], [0], [], [2], [1, 3], [], [5], [4, 6], [7, 4, 0, 1, 2, 3, 4, 5, 6, 7]]
@[simp] def r176_10 : List AOp :=
 [.p 67 (.bin .eql (.t 55) (.i 14)),
 .m 66 67]
@[simp] def r176_11 : List AOp :=
 [.p 68 (.off 5 (.t 1)),
 .p 69 (.load false 1 (.t 68)),
 .p 70 (.off 1 (.t 1)),
 .p 71 (.load false 1 (.t 70)),
 .p 72 (.conv .u64 (.t 71)),
 .p 73 (.bin .lss (.t 69) (.t 72)),
 .m 74 73,
 .q 75 74 true (.off 5 (.t 1)),
 .q 76 74 true (.load false 1 (.t 75)),
 .q 77 74 true (.conv .i64 (.t 76)),
 .q 78 74 true (.call 128 [.t 77]),
 .p 79 (.pick (.t 74) (.t 78) (.b false)),
 .m 2 79]
@[simp] def r176_12 : List AOp :=
 [.p 81 (.bin .eql (.t 55) (.i 15)),
 .m 80 81]
@[simp] def r176_13 : List AOp :=
 [.p 82 (.off 5 (.t 1)),
 .p 83 (.load false 1 (.t 82)),
 .p 84 (.off 1 (.t 1)),
 .p 85 (.load false 1 (.t 84)),
 .p 86 (.conv .u64 (.t 85)),
 .p 87 (.bin .gtr (.t 83) (.t 86)),
 .m 88 87,
 .q 89 88 true (.off 5 (.t 1)),
 .q 90 88 true (.load false 1 (.t 89)),
 .q 91 88 true (.bin .leq (.t 90) (.u 64)),
 .p 92 (.pick (.t 88) (.t 91) (.b false)),
 .m 93 92,
 .q 94 93 true (.off 5 (.t 1)),
 .q 95 93 true (.load false 1 (.t 94)),
 .q 96 93 true (.conv .i64 (.t 95)),
 .q 97 93 true (.call 128 [.t 96]),
 .p 98 (.pick (.t 93) (.t 97) (.b false)),
 .m 2 98]
@[simp] def r176_14 : List AOp :=
 [.p 100 (.bin .eql (.t 55) (.i 22)),
 .m 99 100]
@[simp] def r176_15 : List AOp :=
 [.p 101 (.off 5 (.t 1)),
 .p 102 (.load false 1 (.t 101)),
 .p 103 (.off 2 (.t 1)),
 .p 104 (.load false 1 (.t 103)),
 .p 105 (.conv .u64 (.t 104)),
 .p 106 (.bin .lss (.t 102) (.t 105)),
 .m 2 106]
@[simp] def r176_16 : List AOp :=
 [.p 107 (.off 5 (.t 1)),
 .p 108 (.load false 1 (.t 107)),
 .p 109 (.bin .eql (.t 108) (.u 0)),
 .m 2 109]
def c176 : AC :=
 .seq (.ops r176_0)
 (.seq (.ops r176_1)
   (.seq (.seq (.ops r176_2)
    (.cond (.t 31) (.seq (.ops r176_3)
     (.cond (.t 34) (.seq (.ops r176_4)
      (.ret)) (.skip))) (.skip)))
  (.seq (.seq (.ops r176_5)
   (.cond (.t 54) (.seq (.ops r176_6)
    (.ret)) (.skip)))
    (.seq (.seq (.ops r176_7)
     (.block 0 (.seq (.ops r176_8)
      (.cond (.t 56) (.seq (.tops r176_9
       p176_9)
       (.ret)) (.seq (.ops r176_10)
       (.cond (.t 66) (.seq (.ops r176_11)
        (.ret)) (.seq (.ops r176_12)
        (.cond (.t 80) (.seq (.ops r176_13)
         (.ret)) (.seq (.ops r176_14)
         (.cond (.t 99) (.seq (.ops r176_15)
          (.ret)) (.skip)))))))))))
   (.seq (.ops r176_16)
     (.ret))))))
def a176 : AFn := { res := [.tmp 2], body := c176, keepA := false, keepR := false, pure := true }
theorem k176 : chkFn Tryz.prog Tryz.f176 a176 = true := by kernel_rfl

end Go.Proofs.YtpbngohpklpalaaGreat
