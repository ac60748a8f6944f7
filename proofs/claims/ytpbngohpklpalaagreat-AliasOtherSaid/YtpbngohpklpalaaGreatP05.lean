/- A part of the proof: an abstract machine for the program's code and what each of its functions comes to there. No conditions. -/
import Derived.Test.YtpbngohpklpalaaGreatP04
import Derived.Test.YtpbngohpklpalaaGreatChecked
import Derived.KernelRfl

set_option linter.unusedSimpArgs false
set_option linter.unusedVariables false

/- Compact code of the program's functions, each checked against the program's form: printed by mkcode.py. -/
namespace Go.Proofs.YtpbngohpklpalaaGreat
open Go.LS
@[simp] def r3_0 : List AOp :=
 [.p 2 (.box false 3 (.t 0)),
 .p 4 (.mov (.b false))]
@[simp] def r3_1 : List AOp :=
 [.p 9 (.call 15 []),
 .p 10 (.un .not (.t 9))]
@[simp] def r3_2 : List AOp :=
 [.p 4 (.mov (.b false))]
@[simp] def r3_3 : List AOp :=
 [.p 11 (.load true 3 (.t 2)),
 .p 12 (.call 16 [.t 11]),
 .p 13 (.un .not (.t 12))]
@[simp] def r3_4 : List AOp :=
 [.p 4 (.mov (.b true))]
@[simp] def r3_5 : List AOp :=
 [.p 15 (.load true 3 (.t 2)),
 .m 16 1,
 .p 17 (.call 17 [.t 15, .t 16]),
 .m 14 17,
 .p 18 (.ext (.t 14) 0),
 .p 19 (.ext (.t 14) 1),
 .p 5 (.alloc false [.lst .nil [], .int .u64 0]),
 .n (.store 2 (.t 5) (.t 18)),
 .m 6 19]
@[simp] def r3_6 : List AOp :=
 [.p 21 (.load true 3 (.t 2)),
 .m 22 1,
 .p 23 (.call 18 [.t 21, .t 22]),
 .m 20 23,
 .p 24 (.ext (.t 20) 0),
 .p 25 (.ext (.t 20) 1),
 .p 7 (.alloc false [.lst .nil [], .int .u64 0]),
 .n (.store 2 (.t 7) (.t 24)),
 .m 8 25]
@[simp] def r3_7 : List AOp :=
 [.p 26 (.load true 2 (.t 5)),
 .p 27 (.load true 2 (.t 7)),
 .p 28 (.call 19 [.t 26, .t 27]),
 .p 29 (.un .not (.t 28)),
 .m 30 29,
 .q 31 30 false (.mov (.t 6)),
 .q 32 30 false (.mov (.t 8)),
 .q 33 30 false (.bin .neq (.t 31) (.t 32)),
 .p 34 (.pick (.t 30) (.b true) (.t 33))]
@[simp] def r3_8 : List AOp :=
 [.p 4 (.mov (.b false))]
@[simp] def r3_9 : List AOp :=
 [.m 35 6,
 .p 36 (.bin .neq (.t 35) (.i 0)),
 .m 37 36,
 .q 38 37 false (.load true 2 (.t 5)),
 .q 39 37 false (.call 20 [.t 38]),
 .q 40 37 false (.mov (.t 39)),
 .q 41 40 true (.off 0 (.t 5)),
 .q 42 40 true (.load false 1 (.t 41)),
 .q 43 40 true (.len (.t 42)),
 .q 44 40 true (.bin .leq (.t 43) (.i 16)),
 .q 45 37 false (.pick (.t 40) (.t 44) (.b false)),
 .p 46 (.pick (.t 37) (.b true) (.t 45)),
 .m 4 46]
def c3 : AC :=
 .seq (.ops r3_0)
 (.seq (.seq (.ops r3_1)
  (.cond (.t 10) (.seq (.ops r3_2)
   (.ret)) (.skip)))
   (.seq (.seq (.ops r3_3)
    (.cond (.t 13) (.seq (.ops r3_4)
     (.ret)) (.skip)))
  (.seq (.ops r3_5)
    (.seq (.ops r3_6)
   (.seq (.seq (.ops r3_7)
    (.cond (.t 34) (.seq (.ops r3_8)
     (.ret)) (.skip)))
     (.seq (.ops r3_9)
    (.ret)))))))
def a3 : AFn := { res := [.tmp 4], body := c3, keepA := false, keepR := false, pure := true }
theorem k3 : chkFn Tryz.prog Tryz.f3 a3 = true := by kernel_rfl
@[simp] def r7_0 : List AOp :=
 [.p 4 (.mov (.b false))]
@[simp] def r7_1 : List AOp :=
 [.p 12 (.call 21 []),
 .p 13 (.un .not (.t 12))]
@[simp] def r7_2 : List AOp :=
 [.p 4 (.mov (.b false))]
@[simp] def r7_3 : List AOp :=
 [.p 14 (.bslice false 2 1 [.int .i64 0] [(0, .i 64), (1, .i 64)]),
 .m 15 0,
 .p 16 (.conv .u64 (.t 15)),
 .p 17 (.build [.int .i64 0, .int .i64 0, .int .i64 0, .int .i64 0, .lst .nil [], .int .u64 0] [(0, 1, .i 0), (1, 1, .i 64), (2, 1, .i 1), (3, 1, .i 3), (5, 1, .t 16)]),
 .p 18 (.bslice false 2 1 [.int .i64 0] [(0, .i 1), (1, .i 3)]),
 .p 19 (.build [.int .i64 0, .int .i64 0, .int .i64 0, .int .i64 0, .lst .nil [], .int .u64 0] [(0, 1, .i 1), (1, 1, .i 64), (2, 1, .i 1), (3, 1, .i 4), (4, 1, .t 18)]),
 .p 20 (.bslice false 2 1 [.int .i64 0] [(0, .i 4), (1, .i 2)]),
 .p 21 (.build [.int .i64 0, .int .i64 0, .int .i64 0, .int .i64 0, .lst .nil [], .int .u64 0] [(0, 1, .i 1), (1, 1, .i 64), (2, 1, .i 1), (3, 1, .i 5), (4, 1, .t 20)]),
 .p 22 (.bslice false 2 1 [.int .i64 0] [(0, .i 5), (1, .i 2)]),
 .p 23 (.build [.int .i64 0, .int .i64 0, .int .i64 0, .int .i64 0, .lst .nil [], .int .u64 0] [(0, 1, .i 2), (1, 1, .i 64), (2, 1, .i 1), (3, 1, .i 6), (4, 1, .t 22)]),
 .p 24 (.bslice false 1 1 [.int .i64 0] [(0, .i 4)]),
 .p 25 (.build [.int .i64 0, .int .i64 0, .int .i64 0, .int .i64 0, .lst .nil [], .int .u64 0] [(0, 1, .i 16), (1, 1, .i 8), (2, 1, .i 1), (3, 1, .i 7), (4, 1, .t 24)]),
 .p 26 (.bslice false 1 1 [.int .i64 0] [(0, .i 6)]),
 .p 27 (.build [.int .i64 0, .int .i64 0, .int .i64 0, .int .i64 0, .lst .nil [], .int .u64 0] [(0, 1, .i 16), (1, 1, .i 8), (2, 1, .i 1), (3, 1, .i 8), (4, 1, .t 26)]),
 .p 28 (.bslice false 1 1 [.int .i64 0] [(0, .i 5)]),
 .p 29 (.build [.int .i64 0, .int .i64 0, .int .i64 0, .int .i64 0, .lst .nil [], .int .u64 0] [(0, 1, .i 16), (1, 1, .i 8), (2, 1, .i 1), (3, 1, .i 9), (4, 1, .t 28)]),
 .p 30 (.bslice false 1 1 [.int .i64 0] [(0, .i 1)]),
 .p 31 (.build [.int .i64 0, .int .i64 0, .int .i64 0, .int .i64 0, .lst .nil [], .int .u64 0] [(0, 1, .i 16), (1, 1, .i 8), (2, 1, .i 1), (3, 1, .i 10), (4, 1, .t 30)]),
 .p 32 (.bslice false 8 6 [.int .i64 0, .int .i64 0, .int .i64 0, .int .i64 0, .lst .nil [], .int .u64 0] [(0, .t 17), (1, .t 19), (2, .t 21), (3, .t 23), (4, .t 25), (5, .t 27), (6, .t 29), (7, .t 31)]),
 .p 33 (.build [.int .i64 0, .int .i64 0, .lst .nil []] [(0, 1, .i 0), (1, 1, .i 10)]),
 .p 34 (.build [.lst .nil [], .lst .nil [], .int .i64 0, .int .i64 0, .lst .nil []] [(1, 1, .t 32), (2, 3, .t 33)]),
 .p 35 (.bslice false 1 5 [.lst .nil [], .lst .nil [], .int .i64 0, .int .i64 0, .lst .nil []] [(0, .t 34)]),
 .p 36 (.build [.lst .nil [], .int .i64 0, .lst .nil []] [(0, 1, .t 14), (1, 1, .i 8), (2, 1, .t 35)]),
 .p 5 (.alloc false [.lst .nil [], .int .i64 0, .lst .nil []]),
 .n (.store 3 (.t 5) (.t 36))]
@[simp] def r7_4 : List AOp :=
 [.p 38 (.load true 3 (.t 5)),
 .p 39 (.call 24 [.t 38, .i 0, .i 4, .i 5]),
 .m 37 39,
 .p 40 (.ext (.t 37) 0),
 .p 41 (.ext (.t 37) 1),
 .m 6 40,
 .m 7 41]
@[simp] def r7_5 : List AOp :=
 [.p 43 (.load true 3 (.t 5)),
 .p 44 (.call 24 [.t 43, .i 0, .i 4, .i 6]),
 .m 42 44,
 .p 45 (.ext (.t 42) 0),
 .p 46 (.ext (.t 42) 1),
 .m 8 45,
 .m 9 46]
@[simp] def r7_6 : List AOp :=
 [.p 48 (.load true 3 (.t 5)),
 .p 49 (.call 24 [.t 48, .i 0, .i 7, .i 4]),
 .m 47 49,
 .p 50 (.ext (.t 47) 0),
 .p 51 (.ext (.t 47) 1),
 .m 10 50,
 .m 11 51]
@[simp] def r7_7 : List AOp :=
 [.m 52 1,
 .m 53 52,
 .q 54 53 true (.load true 3 (.t 5)),
 .q 55 53 true (.call 26 [.t 54, .i 0, .i 4, .i 6]),
 .p 56 (.pick (.t 53) (.t 55) (.b false))]
@[simp] def r7_8 : List AOp :=
 [.p 4 (.mov (.b false))]
@[simp] def r7_9 : List AOp :=
 [.m 57 7,
 .m 58 57,
 .q 59 58 true (.mov (.t 6)),
 .q 60 58 true (.bin .eql (.t 59) (.u 0)),
 .p 61 (.pick (.t 58) (.t 60) (.b false)),
 .m 62 61,
 .q 63 62 true (.mov (.t 9)),
 .q 64 62 true (.un .not (.t 63)),
 .p 65 (.pick (.t 62) (.t 64) (.b false)),
 .m 66 65,
 .q 67 66 true (.mov (.t 11)),
 .p 68 (.pick (.t 66) (.t 67) (.b false)),
 .m 69 68,
 .q 70 69 true (.mov (.t 10)),
 .q 71 69 true (.mov (.t 0)),
 .q 72 69 true (.conv .u64 (.t 71)),
 .q 73 69 true (.bin .eql (.t 70) (.t 72)),
 .p 74 (.pick (.t 69) (.t 73) (.b false)),
 .m 75 74,
 .q 76 75 true (.load true 3 (.t 5)),
 .q 77 75 true (.call 26 [.t 76, .i 0, .i 7, .i 4]),
 .q 78 75 true (.mov (.t 0)),
 .q 79 75 true (.bin .gtr (.t 78) (.c (.int .u16 0))),
 .q 80 75 true (.eq false .bool (.t 77) (.t 79)),
 .p 81 (.pick (.t 75) (.t 80) (.b false)),
 .m 82 81,
 .q 83 82 true (.load true 3 (.t 5)),
 .q 84 82 true (.call 28 [.t 83, .i 0, .i 7, .i 4]),
 .q 85 82 true (.mov (.t 0)),
 .q 86 82 true (.bin .eql (.t 85) (.c (.int .u16 1))),
 .q 87 82 true (.eq false .bool (.t 84) (.t 86)),
 .p 88 (.pick (.t 82) (.t 87) (.b false)),
 .m 4 88]
def c7 : AC :=
 .seq (.ops r7_0)
 (.seq (.seq (.ops r7_1)
  (.cond (.t 13) (.seq (.ops r7_2)
   (.ret)) (.skip)))
   (.seq (.ops r7_3)
  (.seq (.ops r7_4)
    (.seq (.ops r7_5)
   (.seq (.ops r7_6)
     (.seq (.seq (.ops r7_7)
      (.cond (.t 56) (.seq (.ops r7_8)
       (.ret)) (.skip)))
    (.seq (.ops r7_9)
      (.ret))))))))
def a7 : AFn := { res := [.tmp 4], body := c7, keepA := false, keepR := false, pure := true }
theorem k7 : chkFn Tryz.prog Tryz.f7 a7 = true := by kernel_rfl
@[simp] def r15_0 : List AOp :=
 [.p 0 (.mov (.b false))]
@[simp] def r15_1 : List AOp :=
 [.p 7 (.bslice false 1 1 [.int .i64 0] [(0, .i 64)]),
 .p 8 (.build [.int .i64 0, .int .i64 0, .int .i64 0, .int .i64 0, .lst .nil [], .int .u64 0] [(0, 1, .i 0), (1, 1, .i 64), (2, 1, .i 1), (3, 1, .i 2), (5, 1, .u 8)]),
 .p 9 (.bslice false 2 1 [.int .i64 0] [(0, .i 1), (1, .i 2)]),
 .p 10 (.build [.int .i64 0, .int .i64 0, .int .i64 0, .int .i64 0, .lst .nil [], .int .u64 0] [(0, 1, .i 1), (1, 1, .i 64), (2, 1, .i 1), (3, 1, .i 3), (4, 1, .t 9)]),
 .p 11 (.bslice false 2 1 [.int .i64 0] [(0, .i 2), (1, .i 3)]),
 .p 12 (.build [.int .i64 0, .int .i64 0, .int .i64 0, .int .i64 0, .lst .nil [], .int .u64 0] [(0, 1, .i 3), (1, 1, .i 64), (2, 1, .i 1), (3, 1, .i 4), (4, 1, .t 11)]),
 .p 13 (.bslice false 3 6 [.int .i64 0, .int .i64 0, .int .i64 0, .int .i64 0, .lst .nil [], .int .u64 0] [(0, .t 8), (1, .t 10), (2, .t 12)]),
 .p 14 (.build [.int .i64 0, .int .i64 0, .lst .nil []] [(0, 1, .i 0), (1, 1, .i 4)]),
 .p 15 (.build [.lst .nil [], .lst .nil [], .int .i64 0, .int .i64 0, .lst .nil []] [(1, 1, .t 13), (2, 3, .t 14)]),
 .p 16 (.bslice false 1 5 [.lst .nil [], .lst .nil [], .int .i64 0, .int .i64 0, .lst .nil []] [(0, .t 15)]),
 .p 17 (.build [.lst .nil [], .int .i64 0, .lst .nil []] [(0, 1, .t 7), (1, 1, .i 64), (2, 1, .t 16)]),
 .p 1 (.alloc false [.lst .nil [], .int .i64 0, .lst .nil []]),
 .n (.store 3 (.t 1) (.t 17))]
@[simp] def r15_2 : List AOp :=
 [.p 19 (.load true 3 (.t 1)),
 .p 20 (.call 17 [.t 19, .i 4]),
 .m 18 20,
 .p 21 (.ext (.t 18) 0),
 .p 22 (.ext (.t 18) 1),
 .p 2 (.alloc false [.lst .nil [], .int .u64 0]),
 .n (.store 2 (.t 2) (.t 21)),
 .m 3 22]
@[simp] def r15_3 : List AOp :=
 [.p 24 (.load true 3 (.t 1)),
 .p 25 (.call 17 [.t 24, .i 5]),
 .m 23 25,
 .p 26 (.ext (.t 23) 0),
 .p 27 (.ext (.t 23) 1),
 .p 4 (.alloc false [.lst .nil [], .int .u64 0]),
 .n (.store 2 (.t 4) (.t 26)),
 .m 5 27]
@[simp] def r15_4 : List AOp :=
 [.p 28 (.build [.int .i64 0, .int .u64 0] [(0, 1, .i 1), (1, 1, .u 8)]),
 .p 29 (.bslice false 1 2 [.int .i64 0, .int .u64 0] [(0, .t 28)]),
 .p 30 (.build [.lst .nil [], .int .u64 0] [(0, 1, .t 29), (1, 1, .u 64)]),
 .p 6 (.alloc false [.lst .nil [], .int .u64 0]),
 .n (.store 2 (.t 6) (.t 30))]
@[simp] def r15_5 : List AOp :=
 [.m 31 3,
 .p 32 (.bin .eql (.t 31) (.i 0)),
 .m 33 32,
 .q 34 33 true (.load true 2 (.t 2)),
 .q 35 33 true (.load true 2 (.t 6)),
 .q 36 33 true (.call 52 [.t 34, .t 35]),
 .p 37 (.pick (.t 33) (.t 36) (.b false)),
 .m 38 37,
 .q 39 38 true (.mov (.t 5)),
 .q 40 38 true (.bin .eql (.t 39) (.i 10)),
 .p 41 (.pick (.t 38) (.t 40) (.b false)),
 .m 42 41,
 .q 43 42 true (.load true 2 (.t 6)),
 .q 44 42 true (.call 20 [.t 43]),
 .p 45 (.pick (.t 42) (.t 44) (.b false)),
 .m 46 45,
 .q 47 46 true (.load true 2 (.t 6)),
 .q 48 46 true (.load true 2 (.t 6)),
 .q 49 46 true (.call 53 [.t 47, .t 48]),
 .q 50 46 true (.build [.lst .nil [], .int .u64 0] []),
 .q 51 46 true (.call 52 [.t 49, .t 50]),
 .p 52 (.pick (.t 46) (.t 51) (.b false)),
 .m 53 52,
 .q 54 53 true (.load true 2 (.t 6)),
 .q 55 53 true (.load true 2 (.t 6)),
 .q 56 53 true (.call 54 [.t 54, .t 55]),
 .q 57 53 true (.fieldV false 1 1 (.t 56)),
 .q 58 53 true (.bin .eql (.t 57) (.u 128)),
 .p 59 (.pick (.t 53) (.t 58) (.b false)),
 .m 60 59,
 .q 61 60 true (.load true 2 (.t 6)),
 .q 62 60 true (.call 55 [.t 61, .u 2]),
 .q 63 60 true (.fieldV false 0 1 (.t 62)),
 .q 64 60 true (.len (.t 63)),
 .q 65 60 true (.bin .eql (.t 64) (.i 1)),
 .p 66 (.pick (.t 60) (.t 65) (.b false)),
 .m 67 66,
 .q 68 67 true (.load true 2 (.t 6)),
 .q 69 67 true (.call 55 [.t 68, .u 2]),
 .q 70 67 true (.fieldV false 0 1 (.t 69)),
 .q 71 67 true (.idxS 2 (.t 70) (.i 0)),
 .q 72 67 true (.off 1 (.t 71)),
 .q 73 67 true (.load false 1 (.t 72)),
 .q 74 67 true (.bin .eql (.t 73) (.u 16)),
 .p 75 (.pick (.t 67) (.t 74) (.b false)),
 .m 0 75]
def c15 : AC :=
 .seq (.ops r15_0)
 (.seq (.ops r15_1)
   (.seq (.ops r15_2)
  (.seq (.ops r15_3)
    (.seq (.ops r15_4)
   (.seq (.ops r15_5)
     (.ret))))))
def a15 : AFn := { res := [.tmp 0], body := c15, keepA := false, keepR := false, pure := true }
theorem k15 : chkFn Tryz.prog Tryz.f15 a15 = true := by kernel_rfl
@[simp] def r16_0 : List AOp :=
 [.p 1 (.box false 3 (.t 0)),
 .p 2 (.mov (.b false))]
@[simp] def r16_1 : List AOp :=
 [.p 3 (.mov (.i 0))]
@[simp] def r16_2 : List AOp :=
 [.p 4 (.mov (.i 0))]
@[simp] def r16_3 : List AOp :=
 [.m 5 4,
 .p 6 (.off 2 (.t 1)),
 .p 7 (.load false 1 (.t 6)),
 .p 8 (.len (.t 7)),
 .p 9 (.bin .lss (.t 5) (.t 8))]
@[simp] def r16_5 : List AOp :=
 [.m 12 3,
 .p 13 (.bin .add (.t 12) (.i 1)),
 .l 14 (.off 2 (.t 1)) 1 (.loc 1),
 .l 15 (.load false 1 (.t 14)) 14 (.loc 1),
 .m 16 4,
 .l 17 (.idxS 5 (.t 15) (.t 16)) 15 .lst,
 .l 18 (.off 1 (.t 17)) 17 .imm,
 .l 19 (.load false 1 (.t 18)) 18 .imm,
 .p 20 (.len (.t 19)),
 .p 21 (.bin .add (.t 13) (.t 20)),
 .l 22 (.off 2 (.t 1)) 1 (.loc 1),
 .l 23 (.load false 1 (.t 22)) 22 (.loc 1),
 .m 24 4,
 .l 25 (.idxS 5 (.t 23) (.t 24)) 23 .lst,
 .l 26 (.off 0 (.t 25)) 25 .imm,
 .l 27 (.load false 1 (.t 26)) 26 .imm,
 .p 28 (.len (.t 27)),
 .p 29 (.bin .add (.t 21) (.t 28)),
 .m 3 29]
def p16_5 : List (List Nat) := [[], [0], [], [2], [], [3, 4], [5], [6], [7], [1, 8], [], [10], [], [11, 12], [13], [14], [15], [9, 16], [17, 0, 1, 2, 3, 4, 5, 6, 7, 8, 9, 10, 11, 12, 13, 14, 15, 16, 17]]
@[simp] def r16_4 : List AOp :=
 [.m 10 4,
 .p 11 (.bin .add (.t 10) (.i 1)),
 .m 4 11]
def l16_0 : AC :=
 .seq (.seq (.ops r16_3)
   (.cond (.t 9) (.skip) (.exit 0)))
 (.seq (.block 1 (.tops r16_5
     p16_5))
   (.ops r16_4))
@[simp] def r16_6 : List AOp :=
 [.p 30 (.load true 3 (.t 1)),
 .p 31 (.call 56 [.t 30]),
 .m 32 31,
 .q 33 32 true (.off 2 (.t 1)),
 .q 34 32 true (.load false 1 (.t 33)),
 .q 35 32 true (.len (.t 34)),
 .q 36 32 true (.bin .leq (.t 35) (.i 16)),
 .q 37 32 true (.mov (.t 36)),
 .q 38 37 true (.mov (.t 3)),
 .q 39 37 true (.bin .leq (.t 38) (.i 100)),
 .q 40 32 true (.pick (.t 37) (.t 39) (.b false)),
 .q 41 32 true (.mov (.t 40)),
 .q 42 41 false (.off 2 (.t 1)),
 .q 43 41 false (.load false 1 (.t 42)),
 .q 44 41 false (.len (.t 43)),
 .q 45 41 false (.bin .gtr (.t 44) (.i 64)),
 .q 46 32 true (.pick (.t 41) (.b true) (.t 45)),
 .q 47 32 true (.mov (.t 46)),
 .q 48 47 false (.mov (.t 3)),
 .q 49 47 false (.bin .gtr (.t 48) (.i 512)),
 .q 50 32 true (.pick (.t 47) (.b true) (.t 49)),
 .p 51 (.pick (.t 32) (.t 50) (.b false)),
 .m 2 51]
def c16 : AC :=
 .seq (.ops r16_0)
 (.seq (.ops r16_1)
   (.seq (.seq (.ops r16_2)
    (.block 0 (.loop l16_0)))
  (.seq (.ops r16_6)
    (.ret))))
def a16 : AFn := { res := [.tmp 2], body := c16, keepA := false, keepR := false, pure := true }
theorem k16 : chkFn Tryz.prog Tryz.f16 a16 = true := by kernel_rfl
@[simp] def r17_0 : List AOp :=
 [.p 2 (.box false 3 (.t 0)),
 .p 4 (.alloc false [.lst .nil [], .int .u64 0]),
 .p 5 (.mov (.i 0))]
@[simp] def r17_1 : List AOp :=
 [.p 14 (.load true 3 (.t 2)),
 .p 15 (.call 57 [.t 14]),
 .m 16 1,
 .p 17 (.lookup .i64 (.agg [.int .i64 0, .int .i64 0]) true (.t 15) (.t 16)),
 .m 13 17,
 .p 18 (.ext (.t 13) 0),
 .p 19 (.ext (.t 13) 1),
 .p 6 (.alloc false [.int .i64 0, .int .i64 0]),
 .n (.store 2 (.t 6) (.t 18)),
 .m 7 19]
@[simp] def r17_2 : List AOp :=
 [.m 20 7,
 .p 21 (.un .not (.t 20)),
 .m 22 21,
 .q 23 22 false (.load true 2 (.t 6)),
 .q 24 22 false (.build [.int .i64 0, .int .i64 0] [(0, 1, .i 64), (1, 1, .i 1)]),
 .q 25 22 false (.eq true (.agg 2) (.t 23) (.t 24)),
 .p 26 (.pick (.t 22) (.b true) (.t 25))]
@[simp] def r17_3 : List AOp :=
 [.p 27 (.build [.lst .nil [], .int .u64 0] []),
 .n (.store 2 (.t 4) (.t 27)),
 .p 5 (.mov (.i 10))]
@[simp] def r17_4 : List AOp :=
 [.p 28 (.mkmap .i64),
 .p 29 (.mkmap .i64),
 .p 30 (.build [.map none, .map none] [(0, 1, .t 28), (1, 1, .t 29)]),
 .p 31 (.box true 2 (.t 30)),
 .m 8 31]
@[simp] def r17_5 : List AOp :=
 [.p 32 (.off 2 (.t 2)),
 .p 33 (.load false 1 (.t 32)),
 .p 34 (.len (.t 33)),
 .p 35 (.mov (.i 0))]
@[simp] def r17_6 : List AOp :=
 [.p 36 (.bin .lss (.t 35) (.t 34))]
@[simp] def r17_7 : List AOp :=
 [.p 37 (.idxS 5 (.t 33) (.t 35)),
 .p 38 (.load true 5 (.t 37)),
 .p 10 (.alloc false [.lst .nil [], .lst .nil [], .int .i64 0, .int .i64 0, .lst .nil []]),
 .n (.store 5 (.t 10) (.t 38))]
@[simp] def r17_8 : List AOp :=
 [.p 39 (.off 1 (.t 10)),
 .p 40 (.load false 1 (.t 39)),
 .p 41 (.len (.t 40)),
 .p 42 (.mov (.i 0))]
@[simp] def r17_9 : List AOp :=
 [.p 43 (.bin .lss (.t 42) (.t 41))]
@[simp] def r17_10 : List AOp :=
 [.p 44 (.idxS 6 (.t 40) (.t 42)),
 .p 45 (.load true 6 (.t 44)),
 .p 12 (.alloc false [.int .i64 0, .int .i64 0, .int .i64 0, .int .i64 0, .lst .nil [], .int .u64 0]),
 .n (.store 6 (.t 12) (.t 45))]
@[simp] def r17_11 : List AOp :=
 [.m 46 8,
 .p 47 (.nilchk (.t 46)),
 .p 48 (.off 0 (.t 47)),
 .p 49 (.load false 1 (.t 48)),
 .l 50 (.off 3 (.t 12)) 12 (.loc 12),
 .l 51 (.load false 1 (.t 50)) 50 (.loc 12),
 .l 52 (.load true 6 (.t 12)) 12 (.loc 12),
 .n (.mapset .i64 (.t 49) (.t 51) (.t 52))]
def p17_11 : List (List Nat) := [[], [0], [1], [2], [], [4], [], [3, 5, 6, 0, 1, 2, 3, 4, 5, 6]]
@[simp] def r17_12 : List AOp :=
 [.p 53 (.bin .add (.t 42) (.i 1)),
 .m 42 53]
def l17_1 : AC :=
 .seq (.ops r17_9)
 (.seq (.cond (.t 43) (.skip) (.exit 2))
   (.seq (.block 3 (.seq (.ops r17_10)
   (.tops r17_11
      p17_11)))
  (.ops r17_12)))
@[simp] def r17_13 : List AOp :=
 [.p 54 (.bin .add (.t 35) (.i 1)),
 .m 35 54]
def l17_0 : AC :=
 .seq (.ops r17_6)
 (.seq (.cond (.t 36) (.skip) (.exit 0))
   (.seq (.block 1 (.seq (.ops r17_7)
   (.seq (.ops r17_8)
     (.block 2 (.loop l17_1)))))
  (.ops r17_13)))
@[simp] def r17_14 : List AOp :=
 [.m 55 8,
 .m 56 1,
 .p 57 (.call 58 [.t 55, .t 56]),
 .n (.store 2 (.t 4) (.t 57)),
 .p 5 (.mov (.i 0))]
def c17 : AC :=
 .seq (.ops r17_0)
 (.seq (.seq (.ops r17_1)
  (.seq (.ops r17_2)
    (.cond (.t 26) (.seq (.ops r17_3)
     (.ret)) (.skip))))
   (.seq (.ops r17_4)
  (.seq (.seq (.ops r17_5)
   (.block 0 (.loop l17_0)))
    (.seq (.ops r17_14)
   (.ret)))))
def a17 : AFn := { res := [.cell 4 2 true, .tmp 5], body := c17, keepA := false, keepR := false, pure := true }
theorem k17 : chkFn Tryz.prog Tryz.f17 a17 = true := by kernel_rfl
@[simp] def r18_0 : List AOp :=
 [.p 2 (.box false 3 (.t 0)),
 .p 4 (.alloc false [.lst .nil [], .int .u64 0]),
 .p 5 (.mov (.i 0))]
@[simp] def r18_1 : List AOp :=
 [.p 8 (.load true 3 (.t 2)),
 .p 9 (.call 41 [.t 8, .i 2]),
 .p 10 (.bin .neq (.t 9) (.i 0))]
@[simp] def r18_2 : List AOp :=
 [.p 11 (.build [.lst .nil [], .int .u64 0] []),
 .n (.store 2 (.t 4) (.t 11)),
 .p 5 (.mov (.i 10))]
@[simp] def r18_3 : List AOp :=
 [.p 12 (.load true 3 (.t 2)),
 .p 13 (.call 59 [.t 12]),
 .m 6 13]
@[simp] def r18_4 : List AOp :=
 [.m 14 6,
 .m 15 1,
 .p 16 (.call 60 [.t 14, .t 15]),
 .m 7 16]
@[simp] def r18_5 : List AOp :=
 [.m 17 7,
 .p 18 (.bin .lss (.t 17) (.i 0)),
 .m 19 18,
 .q 20 19 false (.mov (.t 6)),
 .q 21 19 false (.mov (.t 7)),
 .q 22 19 false (.idxS 5 (.t 20) (.t 21)),
 .q 23 19 false (.off 3 (.t 22)),
 .q 24 19 false (.load true 2 (.t 23)),
 .q 25 19 false (.build [.int .i64 0, .int .i64 0] [(0, 1, .i 64), (1, 1, .i 1)]),
 .q 26 19 false (.eq true (.agg 2) (.t 24) (.t 25)),
 .p 27 (.pick (.t 19) (.b true) (.t 26))]
@[simp] def r18_6 : List AOp :=
 [.p 28 (.build [.lst .nil [], .int .u64 0] []),
 .n (.store 2 (.t 4) (.t 28)),
 .p 5 (.mov (.i 10))]
@[simp] def r18_7 : List AOp :=
 [.p 29 (.load true 3 (.t 2)),
 .p 30 (.call 61 [.t 29]),
 .m 31 1,
 .p 32 (.call 62 [.t 30, .t 31]),
 .n (.store 2 (.t 4) (.t 32)),
 .p 5 (.mov (.i 0))]
def c18 : AC :=
 .seq (.ops r18_0)
 (.seq (.seq (.ops r18_1)
  (.cond (.t 10) (.seq (.ops r18_2)
   (.ret)) (.skip)))
   (.seq (.ops r18_3)
  (.seq (.ops r18_4)
    (.seq (.seq (.ops r18_5)
     (.cond (.t 27) (.seq (.ops r18_6)
      (.ret)) (.skip)))
   (.seq (.ops r18_7)
     (.ret))))))
def a18 : AFn := { res := [.cell 4 2 true, .tmp 5], body := c18, keepA := false, keepR := false, pure := true }
theorem k18 : chkFn Tryz.prog Tryz.f18 a18 = true := by kernel_rfl
@[simp] def r19_0 : List AOp :=
 [.p 2 (.box false 2 (.t 0)),
 .p 3 (.box false 2 (.t 1)),
 .p 4 (.mov (.b false))]
@[simp] def r19_1 : List AOp :=
 [.p 6 (.off 1 (.t 2)),
 .p 7 (.load false 1 (.t 6)),
 .p 8 (.off 1 (.t 3)),
 .p 9 (.load false 1 (.t 8)),
 .p 10 (.bin .neq (.t 7) (.t 9)),
 .m 11 10,
 .q 12 11 false (.off 0 (.t 2)),
 .q 13 11 false (.load false 1 (.t 12)),
 .q 14 11 false (.len (.t 13)),
 .q 15 11 false (.off 0 (.t 3)),
 .q 16 11 false (.load false 1 (.t 15)),
 .q 17 11 false (.len (.t 16)),
 .q 18 11 false (.bin .neq (.t 14) (.t 17)),
 .p 19 (.pick (.t 11) (.b true) (.t 18))]
@[simp] def r19_2 : List AOp :=
 [.p 4 (.mov (.b false))]
@[simp] def r19_3 : List AOp :=
 [.p 5 (.mov (.i 0))]
@[simp] def r19_4 : List AOp :=
 [.m 20 5,
 .p 21 (.off 0 (.t 2)),
 .p 22 (.load false 1 (.t 21)),
 .p 23 (.len (.t 22)),
 .p 24 (.bin .lss (.t 20) (.t 23))]
@[simp] def r19_6 : List AOp :=
 [.l 27 (.off 0 (.t 2)) 2 (.loc 2),
 .l 28 (.load false 1 (.t 27)) 27 (.loc 2),
 .m 29 5,
 .l 30 (.idxS 2 (.t 28) (.t 29)) 28 .lst,
 .l 31 (.load true 2 (.t 30)) 30 .imm,
 .l 32 (.off 0 (.t 3)) 3 (.loc 3),
 .l 33 (.load false 1 (.t 32)) 32 (.loc 3),
 .m 34 5,
 .l 35 (.idxS 2 (.t 33) (.t 34)) 33 .lst,
 .l 36 (.load true 2 (.t 35)) 35 .imm,
 .p 37 (.eq true (.agg 2) (.t 31) (.t 36))]
def p19_6 : List (List Nat) := [[], [0], [], [1, 2], [3], [], [5], [], [6, 7], [8], [4, 9]]
@[simp] def r19_7 : List AOp :=
 [.p 4 (.mov (.b false))]
@[simp] def r19_5 : List AOp :=
 [.m 25 5,
 .p 26 (.bin .add (.t 25) (.i 1)),
 .m 5 26]
def l19_0 : AC :=
 .seq (.seq (.ops r19_4)
   (.cond (.t 24) (.skip) (.exit 0)))
 (.seq (.block 1 (.seq (.tops r19_6
    p19_6)
    (.cond (.t 37) (.seq (.ops r19_7)
     (.ret)) (.skip))))
   (.ops r19_5))
@[simp] def r19_8 : List AOp :=
 [.p 4 (.mov (.b true))]
def c19 : AC :=
 .seq (.ops r19_0)
 (.seq (.seq (.ops r19_1)
  (.cond (.t 19) (.seq (.ops r19_2)
   (.ret)) (.skip)))
   (.seq (.seq (.ops r19_3)
    (.block 0 (.loop l19_0)))
  (.seq (.ops r19_8)
    (.ret))))
def a19 : AFn := { res := [.tmp 4], body := c19, keepA := false, keepR := false, pure := true }
theorem k19 : chkFn Tryz.prog Tryz.f19 a19 = true := by kernel_rfl
@[simp] def r20_0 : List AOp :=
 [.p 1 (.box false 2 (.t 0)),
 .p 2 (.mov (.b false))]
@[simp] def r20_1 : List AOp :=
 [.p 3 (.mov (.i 0))]
@[simp] def r20_2 : List AOp :=
 [.p 6 (.off 0 (.t 1)),
 .p 7 (.load false 1 (.t 6)),
 .p 8 (.len (.t 7)),
 .p 9 (.mov (.i 0))]
@[simp] def r20_3 : List AOp :=
 [.p 10 (.bin .lss (.t 9) (.t 8))]
@[simp] def r20_4 : List AOp :=
 [.p 11 (.idxS 2 (.t 7) (.t 9)),
 .p 12 (.load true 2 (.t 11)),
 .p 5 (.alloc false [.int .i64 0, .int .u64 0]),
 .n (.store 2 (.t 5) (.t 12))]
@[simp] def r20_5 : List AOp :=
 [.p 13 (.off 0 (.t 5)),
 .p 14 (.load false 1 (.t 13)),
 .m 15 3,
 .p 16 (.bin .leq (.t 14) (.t 15)),
 .m 17 16,
 .q 18 17 false (.off 0 (.t 5)),
 .q 19 17 false (.load false 1 (.t 18)),
 .q 20 17 false (.bin .gtr (.t 19) (.i 1023)),
 .p 21 (.pick (.t 17) (.b true) (.t 20)),
 .m 22 21,
 .q 23 22 false (.off 1 (.t 5)),
 .q 24 22 false (.load false 1 (.t 23)),
 .q 25 22 false (.bin .eql (.t 24) (.u 0)),
 .p 26 (.pick (.t 22) (.b true) (.t 25))]
@[simp] def r20_6 : List AOp :=
 [.p 2 (.mov (.b false))]
@[simp] def r20_7 : List AOp :=
 [.p 27 (.off 0 (.t 5)),
 .p 28 (.load false 1 (.t 27)),
 .m 3 28]
@[simp] def r20_8 : List AOp :=
 [.p 29 (.bin .add (.t 9) (.i 1)),
 .m 9 29]
def l20_0 : AC :=
 .seq (.ops r20_3)
 (.seq (.cond (.t 10) (.skip) (.exit 0))
   (.seq (.block 1 (.seq (.ops r20_4)
   (.seq (.seq (.ops r20_5)
    (.cond (.t 26) (.seq (.ops r20_6)
     (.ret)) (.skip)))
     (.ops r20_7))))
  (.ops r20_8)))
@[simp] def r20_9 : List AOp :=
 [.p 2 (.mov (.b true))]
def c20 : AC :=
 .seq (.ops r20_0)
 (.seq (.ops r20_1)
   (.seq (.seq (.ops r20_2)
    (.block 0 (.loop l20_0)))
  (.seq (.ops r20_9)
    (.ret))))
def a20 : AFn := { res := [.tmp 2], body := c20, keepA := false, keepR := false, pure := true }
theorem k20 : chkFn Tryz.prog Tryz.f20 a20 = true := by kernel_rfl
@[simp] def r21_0 : List AOp :=
 [.p 0 (.mov (.b false))]
@[simp] def r21_1 : List AOp :=
 [.p 7 (.bslice false 1 1 [.int .i64 0] [(0, .i 64)]),
 .p 8 (.build [.int .i64 0, .int .i64 0, .int .i64 0, .int .i64 0, .lst .nil [], .int .u64 0] [(0, 1, .i 0), (1, 1, .i 64), (2, 1, .i 1), (3, 1, .i 2), (5, 1, .u 4)]),
 .p 9 (.bslice false 2 1 [.int .i64 0] [(0, .i 1), (1, .i 2)]),
 .p 10 (.build [.int .i64 0, .int .i64 0, .int .i64 0, .int .i64 0, .lst .nil [], .int .u64 0] [(0, 1, .i 1), (1, 1, .i 64), (2, 1, .i 1), (3, 1, .i 3), (4, 1, .t 9)]),
 .p 11 (.bslice false 1 1 [.int .i64 0] [(0, .i 1)]),
 .p 12 (.build [.int .i64 0, .int .i64 0, .int .i64 0, .int .i64 0, .lst .nil [], .int .u64 0] [(0, 1, .i 16), (1, 1, .i 32), (2, 1, .i 1), (3, 1, .i 4), (4, 1, .t 11)]),
 .p 13 (.bslice false 1 1 [.int .i64 0] [(0, .i 3)]),
 .p 14 (.build [.int .i64 0, .int .i64 0, .int .i64 0, .int .i64 0, .lst .nil [], .int .u64 0] [(0, 1, .i 16), (1, 1, .i 32), (2, 1, .i 1), (3, 1, .i 5), (4, 1, .t 13)]),
 .p 15 (.bslice false 4 6 [.int .i64 0, .int .i64 0, .int .i64 0, .int .i64 0, .lst .nil [], .int .u64 0] [(0, .t 8), (1, .t 10), (2, .t 12), (3, .t 14)]),
 .p 16 (.build [.int .i64 0, .int .i64 0, .lst .nil []] [(0, 1, .i 0), (1, 1, .i 5)]),
 .p 17 (.build [.lst .nil [], .lst .nil [], .int .i64 0, .int .i64 0, .lst .nil []] [(1, 1, .t 15), (2, 3, .t 16)]),
 .p 18 (.bslice false 1 5 [.lst .nil [], .lst .nil [], .int .i64 0, .int .i64 0, .lst .nil []] [(0, .t 17)]),
 .p 19 (.build [.lst .nil [], .int .i64 0, .lst .nil []] [(0, 1, .t 7), (1, 1, .i 32), (2, 1, .t 18)]),
 .p 1 (.alloc false [.lst .nil [], .int .i64 0, .lst .nil []]),
 .n (.store 3 (.t 1) (.t 19))]
@[simp] def r21_2 : List AOp :=
 [.p 21 (.load true 3 (.t 1)),
 .p 22 (.call 22 [.t 21, .i 0, .i 3]),
 .m 20 22,
 .p 23 (.ext (.t 20) 0),
 .p 24 (.ext (.t 20) 1),
 .p 25 (.ext (.t 20) 2),
 .m 2 23,
 .m 3 24,
 .m 4 25]
@[simp] def r21_3 : List AOp :=
 [.p 27 (.load true 3 (.t 1)),
 .p 28 (.call 24 [.t 27, .i 0, .i 3, .i 2]),
 .m 26 28,
 .p 29 (.ext (.t 26) 0),
 .p 30 (.ext (.t 26) 1),
 .m 5 29,
 .m 6 30]
@[simp] def r21_4 : List AOp :=
 [.m 31 4,
 .m 32 31,
 .q 33 32 true (.mov (.t 2)),
 .q 34 32 true (.bin .eql (.t 33) (.i 3)),
 .p 35 (.pick (.t 32) (.t 34) (.b false)),
 .m 36 35,
 .q 37 36 true (.mov (.t 3)),
 .q 38 36 true (.bin .eql (.t 37) (.i 4)),
 .p 39 (.pick (.t 36) (.t 38) (.b false)),
 .m 40 39,
 .q 41 40 true (.mov (.t 6)),
 .p 42 (.pick (.t 40) (.t 41) (.b false)),
 .m 43 42,
 .q 44 43 true (.mov (.t 5)),
 .q 45 43 true (.bin .eql (.t 44) (.u 18446744073709551612)),
 .p 46 (.pick (.t 43) (.t 45) (.b false)),
 .m 47 46,
 .q 48 47 true (.load true 3 (.t 1)),
 .q 49 47 true (.call 28 [.t 48, .i 0, .i 2, .i 3]),
 .p 50 (.pick (.t 47) (.t 49) (.b false)),
 .m 51 50,
 .q 52 51 true (.load true 3 (.t 1)),
 .q 53 51 true (.call 28 [.t 52, .i 0, .i 3, .i 2]),
 .q 54 51 true (.un .not (.t 53)),
 .p 55 (.pick (.t 51) (.t 54) (.b false)),
 .m 56 55,
 .q 57 56 true (.load true 3 (.t 1)),
 .q 58 56 true (.call 26 [.t 57, .i 0, .i 3, .i 2]),
 .p 59 (.pick (.t 56) (.t 58) (.b false)),
 .m 60 59,
 .q 61 60 true (.load true 3 (.t 1)),
 .q 62 60 true (.call 26 [.t 61, .i 0, .i 2, .i 2]),
 .q 63 60 true (.un .not (.t 62)),
 .p 64 (.pick (.t 60) (.t 63) (.b false)),
 .m 65 64,
 .q 66 65 true (.load true 3 (.t 1)),
 .q 67 65 true (.call 30 [.t 66, .i 0]),
 .q 68 65 true (.bslice false 2 1 [.int .i64 0] [(0, .i 2), (1, .i 3)]),
 .q 69 65 true (.call 29 [.t 67, .t 68]),
 .p 70 (.pick (.t 65) (.t 69) (.b false)),
 .m 0 70]
def c21 : AC :=
 .seq (.ops r21_0)
 (.seq (.ops r21_1)
   (.seq (.ops r21_2)
  (.seq (.ops r21_3)
    (.seq (.ops r21_4)
   (.ret)))))
def a21 : AFn := { res := [.tmp 0], body := c21, keepA := false, keepR := false, pure := true }
theorem k21 : chkFn Tryz.prog Tryz.f21 a21 = true := by kernel_rfl
@[simp] def r22_0 : List AOp :=
 [.p 3 (.box false 3 (.t 0)),
 .p 6 (.mov (.i 0)),
 .p 7 (.mov (.i 0)),
 .p 8 (.mov (.b false))]
@[simp] def r22_1 : List AOp :=
 [.p 9 (.load true 3 (.t 3)),
 .m 10 1,
 .p 11 (.call 63 [.t 9, .t 10]),
 .p 12 (.un .not (.t 11))]
@[simp] def r22_2 : List AOp :=
 [.p 6 (.mov (.i 0)),
 .p 7 (.mov (.i 0)),
 .p 8 (.mov (.b false))]
@[simp] def r22_3 : List AOp :=
 [.p 13 (.off 2 (.t 3)),
 .p 14 (.load false 1 (.t 13)),
 .m 15 1,
 .p 16 (.idxS 5 (.t 14) (.t 15)),
 .p 17 (.load true 5 (.t 16)),
 .m 18 2,
 .p 19 (.call 64 [.t 17, .t 18]),
 .p 20 (.ext (.t 19) 0),
 .p 21 (.ext (.t 19) 1),
 .p 22 (.ext (.t 19) 2),
 .m 6 20,
 .m 7 21,
 .m 8 22]
def c22 : AC :=
 .seq (.ops r22_0)
 (.seq (.seq (.ops r22_1)
  (.cond (.t 12) (.seq (.ops r22_2)
   (.ret)) (.skip)))
   (.seq (.ops r22_3)
  (.ret)))
def a22 : AFn := { res := [.tmp 6, .tmp 7, .tmp 8], body := c22, keepA := false, keepR := false, pure := true }
theorem k22 : chkFn Tryz.prog Tryz.f22 a22 = true := by kernel_rfl
@[simp] def r24_0 : List AOp :=
 [.p 4 (.box false 3 (.t 0)),
 .p 8 (.mov (.u 0)),
 .p 9 (.mov (.b false))]
@[simp] def r24_1 : List AOp :=
 [.p 10 (.alloc true [.int .u64 0]),
 .n (.store 1 (.t 10) (.u 0))]
@[simp] def r24_2 : List AOp :=
 [.p 12 (.load true 3 (.t 4)),
 .m 13 1,
 .m 14 2,
 .m 15 3,
 .p 16 (.mkfn 67 [] [.t 10]),
 .p 17 (.call 66 [.t 12, .t 13, .t 14, .t 15, .t 16]),
 .m 11 17]
@[simp] def r24_3 : List AOp :=
 [.p 18 (.load false 1 (.t 10)),
 .m 19 11,
 .m 8 18,
 .m 9 19]
def c24 : AC :=
 .seq (.ops r24_0)
 (.seq (.ops r24_1)
   (.seq (.ops r24_2)
  (.seq (.ops r24_3)
    (.ret))))
def a24 : AFn := { res := [.tmp 8, .tmp 9], body := c24, keepA := false, keepR := false, pure := true }
theorem k24 : chkFn Tryz.prog Tryz.f24 a24 = true := by kernel_rfl
@[simp] def r26_0 : List AOp :=
 [.p 4 (.box false 3 (.t 0)),
 .p 8 (.mov (.b false))]
@[simp] def r26_1 : List AOp :=
 [.p 9 (.load true 3 (.t 4)),
 .m 10 1,
 .m 11 2,
 .m 12 3,
 .p 13 (.call 66 [.t 9, .t 10, .t 11, .t 12, .c (.fn 70 [] [])]),
 .m 8 13]
def c26 : AC :=
 .seq (.ops r26_0)
 (.seq (.ops r26_1)
   (.ret))
def a26 : AFn := { res := [.tmp 8], body := c26, keepA := false, keepR := false, pure := true }
theorem k26 : chkFn Tryz.prog Tryz.f26 a26 = true := by kernel_rfl
@[simp] def r28_0 : List AOp :=
 [.p 4 (.box false 3 (.t 0)),
 .p 8 (.mov (.b false))]
@[simp] def r28_1 : List AOp :=
 [.p 9 (.load true 3 (.t 4)),
 .m 10 1,
 .m 11 2,
 .m 12 3,
 .p 13 (.call 66 [.t 9, .t 10, .t 11, .t 12, .c (.fn 71 [] [])]),
 .m 8 13]
def c28 : AC :=
 .seq (.ops r28_0)
 (.seq (.ops r28_1)
   (.ret))
def a28 : AFn := { res := [.tmp 8], body := c28, keepA := false, keepR := false, pure := true }
theorem k28 : chkFn Tryz.prog Tryz.f28 a28 = true := by kernel_rfl
@[simp] def r29_0 : List AOp :=
 [.p 4 (.mov (.b false))]
@[simp] def r29_1 : List AOp :=
 [.m 6 0,
 .p 7 (.len (.t 6)),
 .m 8 1,
 .p 9 (.len (.t 8)),
 .p 10 (.bin .neq (.t 7) (.t 9))]
@[simp] def r29_2 : List AOp :=
 [.p 4 (.mov (.b false))]
@[simp] def r29_3 : List AOp :=
 [.p 5 (.mov (.i 0))]
@[simp] def r29_4 : List AOp :=
 [.m 11 5,
 .m 12 0,
 .p 13 (.len (.t 12)),
 .p 14 (.bin .lss (.t 11) (.t 13))]
@[simp] def r29_6 : List AOp :=
 [.m 17 0,
 .m 18 5,
 .l 19 (.idxS 1 (.t 17) (.t 18)) 17 .lst,
 .l 20 (.load false 1 (.t 19)) 19 .imm,
 .m 21 1,
 .m 22 5,
 .l 23 (.idxS 1 (.t 21) (.t 22)) 21 .lst,
 .l 24 (.load false 1 (.t 23)) 23 .imm,
 .p 25 (.bin .neq (.t 20) (.t 24))]
def p29_6 : List (List Nat) := [[], [], [0, 1], [2], [], [], [4, 5], [6], [3, 7]]
@[simp] def r29_7 : List AOp :=
 [.p 4 (.mov (.b false))]
@[simp] def r29_5 : List AOp :=
 [.m 15 5,
 .p 16 (.bin .add (.t 15) (.i 1)),
 .m 5 16]
def l29_0 : AC :=
 .seq (.seq (.ops r29_4)
   (.cond (.t 14) (.skip) (.exit 0)))
 (.seq (.block 1 (.seq (.tops r29_6
    p29_6)
    (.cond (.t 25) (.seq (.ops r29_7)
     (.ret)) (.skip))))
   (.ops r29_5))
@[simp] def r29_8 : List AOp :=
 [.p 4 (.mov (.b true))]
def c29 : AC :=
 .seq (.ops r29_0)
 (.seq (.seq (.ops r29_1)
  (.cond (.t 10) (.seq (.ops r29_2)
   (.ret)) (.skip)))
   (.seq (.seq (.ops r29_3)
    (.block 0 (.loop l29_0)))
  (.seq (.ops r29_8)
    (.ret))))
def a29 : AFn := { res := [.tmp 4], body := c29, keepA := false, keepR := false, pure := true }
theorem k29 : chkFn Tryz.prog Tryz.f29 a29 = true := by kernel_rfl
@[simp] def r30_0 : List AOp :=
 [.p 2 (.box false 3 (.t 0)),
 .p 4 (.mov (.c (.lst .nil [])))]
@[simp] def r30_1 : List AOp :=
 [.p 8 (.load true 3 (.t 2)),
 .m 9 1,
 .p 10 (.call 63 [.t 8, .t 9]),
 .p 11 (.un .not (.t 10))]
@[simp] def r30_2 : List AOp :=
 [.p 4 (.mov (.c (.lst .nil [])))]
@[simp] def r30_3 : List AOp :=
 [.p 5 (.mov (.c (.lst .nil [])))]
@[simp] def r30_4 : List AOp :=
 [.p 12 (.off 2 (.t 2)),
 .p 13 (.load false 1 (.t 12)),
 .m 14 1,
 .p 15 (.idxS 5 (.t 13) (.t 14)),
 .p 16 (.off 1 (.t 15)),
 .p 17 (.load false 1 (.t 16)),
 .p 18 (.len (.t 17)),
 .p 19 (.mov (.i 0))]
@[simp] def r30_5 : List AOp :=
 [.p 20 (.bin .lss (.t 19) (.t 18))]
@[simp] def r30_6 : List AOp :=
 [.m 21 19,
 .p 22 (.idxS 6 (.t 17) (.t 19)),
 .p 23 (.load true 6 (.t 22)),
 .p 7 (.alloc false [.int .i64 0, .int .i64 0, .int .i64 0, .int .i64 0, .lst .nil [], .int .u64 0]),
 .m 6 21,
 .n (.store 6 (.t 7) (.t 23))]
@[simp] def r30_7 : List AOp :=
 [.p 24 (.off 0 (.t 7)),
 .p 25 (.load false 1 (.t 24)),
 .p 26 (.call 72 [.t 25]),
 .p 27 (.bin .geq (.t 26) (.i 0))]
@[simp] def r30_8 : List AOp :=
 [.m 28 5,
 .m 29 6,
 .p 30 (.bslice false 1 1 [.int .i64 0] [(0, .t 29)]),
 .p 31 (.append false 1 8 (.t 28) (.t 30)),
 .m 5 31]
@[simp] def r30_9 : List AOp :=
 [.p 32 (.bin .add (.t 19) (.i 1)),
 .m 19 32]
def l30_0 : AC :=
 .seq (.ops r30_5)
 (.seq (.cond (.t 20) (.skip) (.exit 0))
   (.seq (.block 1 (.seq (.ops r30_6)
   (.seq (.ops r30_7)
     (.cond (.t 27) (.ops r30_8) (.skip)))))
  (.ops r30_9)))
@[simp] def r30_10 : List AOp :=
 [.m 33 5,
 .m 4 33]
def c30 : AC :=
 .seq (.ops r30_0)
 (.seq (.seq (.ops r30_1)
  (.cond (.t 11) (.seq (.ops r30_2)
   (.ret)) (.skip)))
   (.seq (.ops r30_3)
  (.seq (.seq (.ops r30_4)
   (.block 0 (.loop l30_0)))
    (.seq (.ops r30_10)
   (.ret)))))
def a30 : AFn := { res := [.tmp 4], body := c30, keepA := false, keepR := false, pure := true }
theorem k30 : chkFn Tryz.prog Tryz.f30 a30 = true := by kernel_rfl
@[simp] def r41_0 : List AOp :=
 [.p 2 (.box false 3 (.t 0)),
 .p 4 (.mov (.i 0))]
@[simp] def r41_1 : List AOp :=
 [.m 16 1,
 .p 17 (.bin .lss (.t 16) (.i 0)),
 .m 18 17,
 .q 19 18 false (.mov (.t 1)),
 .q 20 18 false (.bin .gtr (.t 19) (.i 2)),
 .p 21 (.pick (.t 18) (.b true) (.t 20))]
@[simp] def r41_2 : List AOp :=
 [.p 4 (.mov (.i 1))]
@[simp] def r41_3 : List AOp :=
 [.p 22 (.load true 3 (.t 2)),
 .p 23 (.call 87 [.t 22]),
 .p 24 (.un .not (.t 23))]
@[simp] def r41_4 : List AOp :=
 [.p 4 (.mov (.i 4))]
@[simp] def r41_5 : List AOp :=
 [.p 25 (.load true 3 (.t 2)),
 .p 26 (.call 88 [.t 25]),
 .p 27 (.un .not (.t 26))]
@[simp] def r41_6 : List AOp :=
 [.p 4 (.mov (.i 5))]
@[simp] def r41_7 : List AOp :=
 [.p 28 (.load true 3 (.t 2)),
 .m 29 1,
 .p 30 (.call 89 [.t 28, .t 29]),
 .p 31 (.un .not (.t 30))]
@[simp] def r41_8 : List AOp :=
 [.p 4 (.mov (.i 6))]
@[simp] def r41_9 : List AOp :=
 [.p 32 (.load true 3 (.t 2)),
 .p 33 (.call 59 [.t 32]),
 .m 5 33]
@[simp] def r41_10 : List AOp :=
 [.p 6 (.mov (.i 0))]
@[simp] def r41_11 : List AOp :=
 [.m 34 6,
 .m 35 5,
 .p 36 (.len (.t 35)),
 .p 37 (.bin .lss (.t 34) (.t 36))]
@[simp] def r41_13 : List AOp :=
 [.m 40 5,
 .m 41 6,
 .p 42 (.idxS 5 (.t 40) (.t 41)),
 .p 43 (.off 0 (.t 42)),
 .p 44 (.load false 1 (.t 43)),
 .p 45 (.call 90 [.t 44]),
 .p 46 (.un .not (.t 45)),
 .m 47 46,
 .q 48 47 false (.mov (.t 5)),
 .q 49 47 false (.mov (.t 5)),
 .q 50 47 false (.mov (.t 6)),
 .q 51 47 false (.idxS 5 (.t 49) (.t 50)),
 .q 52 47 false (.off 0 (.t 51)),
 .q 53 47 false (.load false 1 (.t 52)),
 .q 54 47 false (.call 60 [.t 48, .t 53]),
 .q 55 47 false (.mov (.t 6)),
 .q 56 47 false (.bin .neq (.t 54) (.t 55)),
 .p 57 (.pick (.t 47) (.b true) (.t 56))]
@[simp] def r41_14 : List AOp :=
 [.p 4 (.mov (.i 7))]
@[simp] def r41_12 : List AOp :=
 [.m 38 6,
 .p 39 (.bin .add (.t 38) (.i 1)),
 .m 6 39]
def l41_0 : AC :=
 .seq (.seq (.ops r41_11)
   (.cond (.t 37) (.skip) (.exit 0)))
 (.seq (.block 1 (.seq (.ops r41_13)
    (.cond (.t 57) (.seq (.ops r41_14)
     (.ret)) (.skip))))
   (.ops r41_12))
@[simp] def r41_15 : List AOp :=
 [.p 58 (.load true 3 (.t 2)),
 .p 59 (.call 91 [.t 58]),
 .m 7 59]
@[simp] def r41_16 : List AOp :=
 [.p 8 (.mov (.i 0))]
@[simp] def r41_17 : List AOp :=
 [.m 60 8,
 .m 61 7,
 .p 62 (.len (.t 61)),
 .p 63 (.bin .lss (.t 60) (.t 62))]
@[simp] def r41_19 : List AOp :=
 [.m 66 5,
 .m 67 7,
 .m 68 8,
 .p 69 (.idxS 5 (.t 67) (.t 68)),
 .p 70 (.off 0 (.t 69)),
 .p 71 (.load false 1 (.t 70)),
 .p 72 (.call 60 [.t 66, .t 71]),
 .p 73 (.bin .lss (.t 72) (.i 0))]
@[simp] def r41_20 : List AOp :=
 [.p 4 (.mov (.i 7))]
@[simp] def r41_18 : List AOp :=
 [.m 64 8,
 .p 65 (.bin .add (.t 64) (.i 1)),
 .m 8 65]
def l41_1 : AC :=
 .seq (.seq (.ops r41_17)
   (.cond (.t 63) (.skip) (.exit 2)))
 (.seq (.block 3 (.seq (.ops r41_19)
    (.cond (.t 73) (.seq (.ops r41_20)
     (.ret)) (.skip))))
   (.ops r41_18))
@[simp] def r41_21 : List AOp :=
 [.p 9 (.mov (.i 0))]
@[simp] def r41_22 : List AOp :=
 [.m 74 9,
 .m 75 7,
 .p 76 (.len (.t 75)),
 .p 77 (.bin .lss (.t 74) (.t 76))]
@[simp] def r41_24 : List AOp :=
 [.m 80 5,
 .m 81 5,
 .m 82 7,
 .m 83 9,
 .l 84 (.idxS 5 (.t 82) (.t 83)) 82 .lst,
 .l 85 (.off 0 (.t 84)) 84 .imm,
 .l 86 (.load false 1 (.t 85)) 85 .imm,
 .p 87 (.call 60 [.t 81, .t 86]),
 .l 88 (.idxS 5 (.t 80) (.t 87)) 80 .lst,
 .l 89 (.off 3 (.t 88)) 88 .imm,
 .l 90 (.load true 2 (.t 89)) 89 .imm,
 .m 91 7,
 .m 92 9,
 .l 93 (.idxS 5 (.t 91) (.t 92)) 91 .lst,
 .l 94 (.off 3 (.t 93)) 93 .imm,
 .l 95 (.load true 2 (.t 94)) 94 .imm,
 .p 96 (.eq true (.agg 2) (.t 90) (.t 95))]
def p41_24 : List (List Nat) := [[], [], [], [], [2, 3], [4], [5], [1, 6], [0, 7], [8], [9], [], [], [11, 12], [13], [14], [10, 15]]
@[simp] def r41_25 : List AOp :=
 [.p 4 (.mov (.i 6))]
@[simp] def r41_23 : List AOp :=
 [.m 78 9,
 .p 79 (.bin .add (.t 78) (.i 1)),
 .m 9 79]
def l41_2 : AC :=
 .seq (.seq (.ops r41_22)
   (.cond (.t 77) (.skip) (.exit 4)))
 (.seq (.block 5 (.seq (.tops r41_24
    p41_24)
    (.cond (.t 96) (.seq (.ops r41_25)
     (.ret)) (.skip))))
   (.ops r41_23))
@[simp] def r41_26 : List AOp :=
 [.p 98 (.load true 3 (.t 2)),
 .p 99 (.call 92 [.t 98]),
 .m 97 99,
 .p 100 (.ext (.t 97) 0),
 .p 101 (.ext (.t 97) 1),
 .p 10 (.alloc false [.lst .nil [], .lst .nil []]),
 .n (.store 2 (.t 10) (.t 100)),
 .m 11 101]
@[simp] def r41_27 : List AOp :=
 [.p 102 (.load true 2 (.t 10)),
 .p 103 (.call 93 [.t 102, .i 0]),
 .m 12 103]
@[simp] def r41_28 : List AOp :=
 [.p 13 (.mov (.i 0))]
@[simp] def r41_29 : List AOp :=
 [.m 104 13,
 .m 105 7,
 .p 106 (.len (.t 105)),
 .p 107 (.bin .lss (.t 104) (.t 106))]
@[simp] def r41_31 : List AOp :=
 [.m 110 7,
 .m 111 13,
 .p 112 (.idxS 5 (.t 110) (.t 111)),
 .p 113 (.load true 5 (.t 112)),
 .p 14 (.alloc false [.int .i64 0, .int .i64 0, .int .i64 0, .int .i64 0, .int .i64 0]),
 .n (.store 5 (.t 14) (.t 113))]
@[simp] def r41_32 : List AOp :=
 [.m 114 5,
 .m 115 5,
 .p 116 (.off 0 (.t 14)),
 .p 117 (.load false 1 (.t 116)),
 .p 118 (.call 60 [.t 115, .t 117]),
 .p 119 (.idxS 5 (.t 114) (.t 118)),
 .p 120 (.load true 5 (.t 119)),
 .p 15 (.alloc false [.int .i64 0, .int .i64 0, .int .i64 0, .int .i64 0, .int .i64 0]),
 .n (.store 5 (.t 15) (.t 120))]
@[simp] def r41_33 : List AOp :=
 [.p 121 (.off 1 (.t 15)),
 .p 122 (.load false 1 (.t 121)),
 .p 123 (.bin .lss (.t 122) (.i 0)),
 .m 124 123,
 .q 125 124 false (.off 1 (.t 15)),
 .q 126 124 false (.load false 1 (.t 125)),
 .q 127 124 false (.off 1 (.t 14)),
 .q 128 124 false (.load false 1 (.t 127)),
 .q 129 124 false (.bin .eql (.t 126) (.t 128)),
 .q 130 124 false (.mov (.t 129)),
 .q 131 130 true (.off 2 (.t 15)),
 .q 132 130 true (.load false 1 (.t 131)),
 .q 133 130 true (.off 2 (.t 14)),
 .q 134 130 true (.load false 1 (.t 133)),
 .q 135 130 true (.bin .lss (.t 132) (.t 134)),
 .q 136 124 false (.pick (.t 130) (.t 135) (.b false)),
 .p 137 (.pick (.t 124) (.b true) (.t 136))]
@[simp] def r41_34 : List AOp :=
 [.l 138 (.off 1 (.t 15)) 15 (.loc 15),
 .l 139 (.load false 1 (.t 138)) 138 (.loc 15),
 .l 140 (.off 1 (.t 14)) 14 (.loc 14),
 .l 141 (.load false 1 (.t 140)) 140 (.loc 14),
 .p 142 (.bin .eql (.t 139) (.t 141)),
 .m 143 142,
 .q 144 143 false (.mov (.t 12)),
 ⟨(some 145), (some (143, false)), .off 1 (.t 15), (some (.t 15, .loc 15))⟩,
 ⟨(some 146), (some (143, false)), .load false 1 (.t 145), (some (.t 145, .loc 15))⟩,
 ⟨(some 147), (some (143, false)), .off 1 (.t 14), (some (.t 14, .loc 14))⟩,
 ⟨(some 148), (some (143, false)), .load false 1 (.t 147), (some (.t 147, .loc 14))⟩,
 .q 149 143 false (.call 94 [.t 144, .t 146, .t 148]),
 ⟨(some 150), (some (143, false)), .off 1 (.t 15), (some (.t 15, .loc 15))⟩,
 ⟨(some 151), (some (143, false)), .load false 1 (.t 150), (some (.t 150, .loc 15))⟩,
 .q 152 143 false (.bin .neq (.t 149) (.t 151)),
 .p 153 (.pick (.t 143) (.b true) (.t 152))]
def p41_34 : List (List Nat) := [[], [0], [], [2], [1, 3], [4], [5], [5], [7, 5], [5], [9, 5], [6, 8, 10, 5, 5], [5], [12, 5], [11, 13, 5], [5, 14]]
@[simp] def r41_35 : List AOp :=
 [.p 4 (.mov (.i 7))]
@[simp] def r41_30 : List AOp :=
 [.m 108 13,
 .p 109 (.bin .add (.t 108) (.i 1)),
 .m 13 109]
def l41_3 : AC :=
 .seq (.seq (.ops r41_29)
   (.cond (.t 107) (.skip) (.exit 6)))
 (.seq (.block 7 (.seq (.ops r41_31)
    (.seq (.ops r41_32)
   (.seq (.seq (.ops r41_33)
    (.cond (.t 137) (.exit 7) (.skip)))
     (.seq (.tops r41_34
       p41_34)
    (.cond (.t 153) (.seq (.ops r41_35)
     (.ret)) (.skip)))))))
   (.ops r41_30))
@[simp] def r41_36 : List AOp :=
 [.p 4 (.mov (.i 0))]
def c41 : AC :=
 .seq (.ops r41_0)
 (.seq (.seq (.ops r41_1)
  (.cond (.t 21) (.seq (.ops r41_2)
   (.ret)) (.skip)))
   (.seq (.seq (.ops r41_3)
    (.cond (.t 24) (.seq (.ops r41_4)
     (.ret)) (.skip)))
  (.seq (.seq (.ops r41_5)
   (.cond (.t 27) (.seq (.ops r41_6)
    (.ret)) (.skip)))
    (.seq (.seq (.ops r41_7)
     (.cond (.t 31) (.seq (.ops r41_8)
      (.ret)) (.skip)))
   (.seq (.ops r41_9)
     (.seq (.seq (.ops r41_10)
      (.block 0 (.loop l41_0)))
    (.seq (.ops r41_15)
      (.seq (.seq (.ops r41_16)
       (.block 2 (.loop l41_1)))
     (.seq (.seq (.ops r41_21)
      (.block 4 (.loop l41_2)))
       (.seq (.ops r41_26)
      (.seq (.ops r41_27)
        (.seq (.seq (.ops r41_28)
         (.block 6 (.loop l41_3)))
       (.seq (.ops r41_36)
         (.ret))))))))))))))
def a41 : AFn := { res := [.tmp 4], body := c41, keepA := false, keepR := false, pure := true }
theorem k41 : chkFn Tryz.prog Tryz.f41 a41 = true := by kernel_rfl
@[simp] def r52_0 : List AOp :=
 [.p 2 (.box false 2 (.t 0)),
 .p 3 (.box false 2 (.t 1)),
 .p 4 (.mov (.b false))]
@[simp] def r52_1 : List AOp :=
 [.p 5 (.off 1 (.t 2)),
 .p 6 (.load false 1 (.t 5)),
 .p 7 (.off 1 (.t 3)),
 .p 8 (.load false 1 (.t 7)),
 .p 9 (.bin .eql (.t 6) (.t 8)),
 .m 10 9,
 .q 11 10 true (.off 0 (.t 2)),
 .q 12 10 true (.load false 1 (.t 11)),
 .q 13 10 true (.off 0 (.t 3)),
 .q 14 10 true (.load false 1 (.t 13)),
 .q 15 10 true (.call 112 [.t 12, .t 14]),
 .p 16 (.pick (.t 10) (.t 15) (.b false)),
 .m 4 16]
def c52 : AC :=
 .seq (.ops r52_0)
 (.seq (.ops r52_1)
   (.ret))
def a52 : AFn := { res := [.tmp 4], body := c52, keepA := false, keepR := false, pure := true }
theorem k52 : chkFn Tryz.prog Tryz.f52 a52 = true := by kernel_rfl
@[simp] def r53_0 : List AOp :=
 [.p 2 (.box false 2 (.t 0)),
 .p 3 (.box false 2 (.t 1)),
 .p 4 (.alloc false [.lst .nil [], .int .u64 0])]
@[simp] def r53_1 : List AOp :=
 [.p 5 (.load true 2 (.t 2)),
 .p 6 (.load true 2 (.t 3)),
 .p 7 (.bslice false 2 2 [.lst .nil [], .int .u64 0] [(0, .t 5), (1, .t 6)]),
 .p 8 (.call 113 [.t 7]),
 .p 9 (.un .not (.t 8))]
@[simp] def r53_2 : List AOp :=
 [.p 10 (.build [.lst .nil [], .int .u64 0] []),
 .n (.store 2 (.t 4) (.t 10))]
@[simp] def r53_3 : List AOp :=
 [.p 11 (.load true 2 (.t 2)),
 .p 12 (.load true 2 (.t 3)),
 .p 13 (.call 114 [.t 11, .t 12, .c (.fn 115 [] [])]),
 .n (.store 2 (.t 4) (.t 13))]
def c53 : AC :=
 .seq (.ops r53_0)
 (.seq (.seq (.ops r53_1)
  (.cond (.t 9) (.seq (.ops r53_2)
   (.ret)) (.skip)))
   (.seq (.ops r53_3)
  (.ret)))
def a53 : AFn := { res := [.cell 4 2 true], body := c53, keepA := false, keepR := false, pure := true }
theorem k53 : chkFn Tryz.prog Tryz.f53 a53 = true := by kernel_rfl
@[simp] def r54_0 : List AOp :=
 [.p 2 (.box false 2 (.t 0)),
 .p 3 (.box false 2 (.t 1)),
 .p 4 (.alloc false [.lst .nil [], .int .u64 0])]
@[simp] def r54_1 : List AOp :=
 [.p 5 (.load true 2 (.t 2)),
 .p 6 (.load true 2 (.t 3)),
 .p 7 (.bslice false 2 2 [.lst .nil [], .int .u64 0] [(0, .t 5), (1, .t 6)]),
 .p 8 (.call 113 [.t 7]),
 .p 9 (.un .not (.t 8))]
@[simp] def r54_2 : List AOp :=
 [.p 10 (.build [.lst .nil [], .int .u64 0] []),
 .n (.store 2 (.t 4) (.t 10))]
@[simp] def r54_3 : List AOp :=
 [.p 11 (.load true 2 (.t 2)),
 .p 12 (.load true 2 (.t 3)),
 .p 13 (.call 114 [.t 11, .t 12, .c (.fn 116 [] [])]),
 .n (.store 2 (.t 4) (.t 13))]
def c54 : AC :=
 .seq (.ops r54_0)
 (.seq (.seq (.ops r54_1)
  (.cond (.t 9) (.seq (.ops r54_2)
   (.ret)) (.skip)))
   (.seq (.ops r54_3)
  (.ret)))
def a54 : AFn := { res := [.cell 4 2 true], body := c54, keepA := false, keepR := false, pure := true }
theorem k54 : chkFn Tryz.prog Tryz.f54 a54 = true := by kernel_rfl
@[simp] def r55_0 : List AOp :=
 [.p 2 (.box false 2 (.t 0)),
 .p 3 (.box true 1 (.t 1)),
 .p 4 (.alloc false [.lst .nil [], .int .u64 0])]
@[simp] def r55_1 : List AOp :=
 [.p 5 (.load true 2 (.t 2)),
 .p 6 (.call 20 [.t 5]),
 .p 7 (.un .not (.t 6))]
@[simp] def r55_2 : List AOp :=
 [.p 8 (.build [.lst .nil [], .int .u64 0] []),
 .n (.store 2 (.t 4) (.t 8))]
@[simp] def r55_3 : List AOp :=
 [.p 9 (.load true 2 (.t 2)),
 .p 10 (.build [.lst .nil [], .int .u64 0] []),
 .p 11 (.mkfn 117 [] [.t 3]),
 .p 12 (.call 114 [.t 9, .t 10, .t 11]),
 .n (.store 2 (.t 4) (.t 12))]
def c55 : AC :=
 .seq (.ops r55_0)
 (.seq (.seq (.ops r55_1)
  (.cond (.t 7) (.seq (.ops r55_2)
   (.ret)) (.skip)))
   (.seq (.ops r55_3)
  (.ret)))
def a55 : AFn := { res := [.cell 4 2 true], body := c55, keepA := false, keepR := false, pure := true }
theorem k55 : chkFn Tryz.prog Tryz.f55 a55 = true := by kernel_rfl
@[simp] def r56_0 : List AOp :=
 [.p 1 (.box false 3 (.t 0)),
 .p 2 (.mov (.b false))]
@[simp] def r56_1 : List AOp :=
 [.p 7 (.off 0 (.t 1)),
 .p 8 (.load false 1 (.t 7)),
 .p 9 (.len (.t 8)),
 .m 3 9]
@[simp] def r56_2 : List AOp :=
 [.p 4 (.mov (.i 0))]
@[simp] def r56_3 : List AOp :=
 [.m 10 4,
 .p 11 (.off 2 (.t 1)),
 .p 12 (.load false 1 (.t 11)),
 .p 13 (.len (.t 12)),
 .p 14 (.bin .lss (.t 10) (.t 13)),
 .m 15 14,
 .q 16 15 true (.mov (.t 3)),
 .q 17 15 true (.bin .leq (.t 16) (.i 20000)),
 .p 18 (.pick (.t 15) (.t 17) (.b false))]
@[simp] def r56_5 : List AOp :=
 [.m 21 3,
 .p 22 (.bin .add (.t 21) (.i 1)),
 .p 23 (.off 2 (.t 1)),
 .p 24 (.load false 1 (.t 23)),
 .m 25 4,
 .p 26 (.idxS 5 (.t 24) (.t 25)),
 .p 27 (.off 2 (.t 26)),
 .p 28 (.off 2 (.t 27)),
 .p 29 (.load false 1 (.t 28)),
 .p 30 (.len (.t 29)),
 .p 31 (.bin .add (.t 22) (.t 30)),
 .m 3 31]
@[simp] def r56_6 : List AOp :=
 [.p 5 (.mov (.i 0))]
@[simp] def r56_7 : List AOp :=
 [.m 32 5,
 .p 33 (.off 2 (.t 1)),
 .p 34 (.load false 1 (.t 33)),
 .m 35 4,
 .p 36 (.idxS 5 (.t 34) (.t 35)),
 .p 37 (.off 0 (.t 36)),
 .p 38 (.load false 1 (.t 37)),
 .p 39 (.len (.t 38)),
 .p 40 (.bin .lss (.t 32) (.t 39)),
 .m 41 40,
 .q 42 41 true (.mov (.t 3)),
 .q 43 41 true (.bin .leq (.t 42) (.i 20000)),
 .p 44 (.pick (.t 41) (.t 43) (.b false))]
@[simp] def r56_9 : List AOp :=
 [.m 47 3,
 .p 48 (.bin .add (.t 47) (.i 1)),
 .l 49 (.off 2 (.t 1)) 1 (.loc 1),
 .l 50 (.load false 1 (.t 49)) 49 (.loc 1),
 .m 51 4,
 .l 52 (.idxS 5 (.t 50) (.t 51)) 50 .lst,
 .l 53 (.off 0 (.t 52)) 52 .imm,
 .l 54 (.load false 1 (.t 53)) 53 .imm,
 .m 55 5,
 .l 56 (.idxS 4 (.t 54) (.t 55)) 54 .lst,
 .l 57 (.off 2 (.t 56)) 56 .imm,
 .l 58 (.load false 1 (.t 57)) 57 .imm,
 .p 59 (.len (.t 58)),
 .p 60 (.bin .add (.t 48) (.t 59)),
 .l 61 (.off 2 (.t 1)) 1 (.loc 1),
 .l 62 (.load false 1 (.t 61)) 61 (.loc 1),
 .m 63 4,
 .l 64 (.idxS 5 (.t 62) (.t 63)) 62 .lst,
 .l 65 (.off 0 (.t 64)) 64 .imm,
 .l 66 (.load false 1 (.t 65)) 65 .imm,
 .m 67 5,
 .l 68 (.idxS 4 (.t 66) (.t 67)) 66 .lst,
 .l 69 (.off 3 (.t 68)) 68 .imm,
 .l 70 (.load false 1 (.t 69)) 69 .imm,
 .p 71 (.len (.t 70)),
 .p 72 (.bin .add (.t 60) (.t 71)),
 .m 3 72]
def p56_9 : List (List Nat) := [[], [0], [], [2], [], [3, 4], [5], [6], [], [7, 8], [9], [10], [11], [1, 12], [], [14], [], [15, 16], [17], [18], [], [19, 20], [21], [22], [23], [13, 24], [25, 0, 1, 2, 3, 4, 5, 6, 7, 8, 9, 10, 11, 12, 13, 14, 15, 16, 17, 18, 19, 20, 21, 22, 23, 24, 25]]
@[simp] def r56_8 : List AOp :=
 [.m 45 5,
 .p 46 (.bin .add (.t 45) (.i 1)),
 .m 5 46]
def l56_1 : AC :=
 .seq (.seq (.ops r56_7)
   (.cond (.t 44) (.skip) (.exit 2)))
 (.seq (.block 3 (.tops r56_9
     p56_9))
   (.ops r56_8))
@[simp] def r56_10 : List AOp :=
 [.p 6 (.mov (.i 0))]
@[simp] def r56_11 : List AOp :=
 [.m 73 6,
 .p 74 (.off 2 (.t 1)),
 .p 75 (.load false 1 (.t 74)),
 .m 76 4,
 .p 77 (.idxS 5 (.t 75) (.t 76)),
 .p 78 (.off 1 (.t 77)),
 .p 79 (.load false 1 (.t 78)),
 .p 80 (.len (.t 79)),
 .p 81 (.bin .lss (.t 73) (.t 80)),
 .m 82 81,
 .q 83 82 true (.mov (.t 3)),
 .q 84 82 true (.bin .leq (.t 83) (.i 20000)),
 .p 85 (.pick (.t 82) (.t 84) (.b false))]
@[simp] def r56_13 : List AOp :=
 [.m 88 3,
 .p 89 (.bin .add (.t 88) (.i 1)),
 .p 90 (.off 2 (.t 1)),
 .p 91 (.load false 1 (.t 90)),
 .m 92 4,
 .p 93 (.idxS 5 (.t 91) (.t 92)),
 .p 94 (.off 1 (.t 93)),
 .p 95 (.load false 1 (.t 94)),
 .m 96 6,
 .p 97 (.idxS 6 (.t 95) (.t 96)),
 .p 98 (.off 4 (.t 97)),
 .p 99 (.load false 1 (.t 98)),
 .p 100 (.len (.t 99)),
 .p 101 (.bin .add (.t 89) (.t 100)),
 .m 3 101]
@[simp] def r56_12 : List AOp :=
 [.m 86 6,
 .p 87 (.bin .add (.t 86) (.i 1)),
 .m 6 87]
def l56_2 : AC :=
 .seq (.seq (.ops r56_11)
   (.cond (.t 85) (.skip) (.exit 4)))
 (.seq (.block 5 (.ops r56_13))
   (.ops r56_12))
@[simp] def r56_4 : List AOp :=
 [.m 19 4,
 .p 20 (.bin .add (.t 19) (.i 1)),
 .m 4 20]
def l56_0 : AC :=
 .seq (.seq (.ops r56_3)
   (.cond (.t 18) (.skip) (.exit 0)))
 (.seq (.block 1 (.seq (.ops r56_5)
    (.seq (.seq (.ops r56_6)
     (.block 2 (.loop l56_1)))
   (.seq (.ops r56_10)
     (.block 4 (.loop l56_2))))))
   (.ops r56_4))
@[simp] def r56_14 : List AOp :=
 [.m 102 3,
 .p 103 (.bin .leq (.t 102) (.i 20000)),
 .m 2 103]
def c56 : AC :=
 .seq (.ops r56_0)
 (.seq (.ops r56_1)
   (.seq (.seq (.ops r56_2)
    (.block 0 (.loop l56_0)))
  (.seq (.ops r56_14)
    (.ret))))
def a56 : AFn := { res := [.tmp 2], body := c56, keepA := false, keepR := false, pure := true }
theorem k56 : chkFn Tryz.prog Tryz.f56 a56 = true := by kernel_rfl
@[simp] def r57_0 : List AOp :=
 [.p 1 (.box false 3 (.t 0)),
 .p 2 (.mov (.c (.map none)))]
@[simp] def r57_1 : List AOp :=
 [.p 9 (.load true 3 (.t 1)),
 .p 10 (.call 118 [.t 9, .i 2]),
 .m 8 10,
 .p 11 (.ext (.t 8) 0),
 .p 12 (.ext (.t 8) 1),
 .m 3 11,
 .m 4 12]
@[simp] def r57_2 : List AOp :=
 [.m 13 4,
 .p 14 (.bin .neq (.t 13) (.i 0))]
@[simp] def r57_3 : List AOp :=
 [.p 2 (.mov (.c (.map none)))]
@[simp] def r57_4 : List AOp :=
 [.p 15 (.mkmap .i64),
 .m 5 15]
@[simp] def r57_5 : List AOp :=
 [.m 16 3,
 .p 17 (.nilchk (.t 16)),
 .p 18 (.off 7 (.t 17)),
 .p 19 (.load false 1 (.t 18))]
@[simp] def r57_7 : List AOp :=
 [.p 24 (.ext (.t 23) 0),
 .p 25 (.ext (.t 23) 1),
 .p 7 (.alloc false [.int .i64 0, .int .i64 0, .int .i64 0, .int .i64 0]),
 .m 6 24,
 .n (.store 4 (.t 7) (.t 25)),
 .m 26 5,
 .m 27 6,
 .p 28 (.off 2 (.t 7)),
 .p 29 (.load true 2 (.t 28)),
 .n (.mapset .i64 (.t 26) (.t 27) (.t 29))]
@[simp] def r57_9 : List AOp :=
 [.m 30 5,
 .m 2 30]
def c57 : AC :=
 .seq (.ops r57_0)
 (.seq (.ops r57_1)
   (.seq (.seq (.ops r57_2)
    (.cond (.t 14) (.seq (.ops r57_3)
     (.ret)) (.skip)))
  (.seq (.ops r57_4)
    (.seq (.rangeM r57_5 (.t 19) 20 21 22 23 r57_7)
   (.seq (.ops r57_9)
     (.ret))))))
def a57 : AFn := { res := [.tmp 2], body := c57, keepA := false, keepR := false, pure := false }
theorem k57 : chkFn Tryz.prog Tryz.f57 a57 = true := by kernel_rfl
@[simp] def r58_0 : List AOp :=
 [.p 4 (.alloc false [.lst .nil [], .int .u64 0])]
@[simp] def r58_1 : List AOp :=
 [.m 11 0,
 .p 12 (.nilchk (.t 11)),
 .p 13 (.off 1 (.t 12)),
 .p 14 (.load false 1 (.t 13)),
 .m 15 1,
 .p 16 (.lookup .i64 (.agg [.lst .nil [], .int .u64 0]) true (.t 14) (.t 15)),
 .m 10 16,
 .p 17 (.ext (.t 10) 0),
 .p 18 (.ext (.t 10) 1),
 .p 5 (.alloc false [.lst .nil [], .int .u64 0]),
 .n (.store 2 (.t 5) (.t 17)),
 .m 6 18]
@[simp] def r58_2 : List AOp :=
 [.m 19 6]
@[simp] def r58_3 : List AOp :=
 [.p 20 (.load true 2 (.t 5)),
 .n (.store 2 (.t 4) (.t 20))]
@[simp] def r58_4 : List AOp :=
 [.m 21 1,
 .p 22 (.build [.int .i64 0, .int .u64 0] [(0, 1, .t 21), (1, 1, .u 1)]),
 .p 23 (.bslice false 1 2 [.int .i64 0, .int .u64 0] [(0, .t 22)]),
 .p 24 (.build [.lst .nil [], .int .u64 0] [(0, 1, .t 23)]),
 .p 7 (.alloc false [.lst .nil [], .int .u64 0]),
 .n (.store 2 (.t 7) (.t 24))]
@[simp] def r58_5 : List AOp :=
 [.m 26 0,
 .m 27 1,
 .p 28 (.call 119 [.t 26, .t 27]),
 .m 25 28,
 .p 29 (.ext (.t 25) 0),
 .p 30 (.ext (.t 25) 1),
 .p 8 (.alloc false [.lst .nil [], .int .u64 0]),
 .n (.store 2 (.t 8) (.t 29)),
 .m 9 30]
@[simp] def r58_6 : List AOp :=
 [.m 31 9,
 .p 32 (.un .not (.t 31)),
 .m 33 32,
 .q 34 33 false (.off 0 (.t 8)),
 .q 35 33 false (.load false 1 (.t 34)),
 .q 36 33 false (.len (.t 35)),
 .q 37 33 false (.bin .gtr (.t 36) (.i 16)),
 .p 38 (.pick (.t 33) (.b true) (.t 37))]
@[simp] def r58_7 : List AOp :=
 [.p 39 (.load true 2 (.t 7)),
 .n (.store 2 (.t 8) (.t 39))]
@[simp] def r58_8 : List AOp :=
 [.m 40 0,
 .p 41 (.nilchk (.t 40)),
 .p 42 (.off 1 (.t 41)),
 .p 43 (.load false 1 (.t 42)),
 .m 44 1,
 .l 45 (.load true 2 (.t 8)) 8 (.loc 8),
 .n (.mapset .i64 (.t 43) (.t 44) (.t 45))]
def p58_8 : List (List Nat) := [[], [0], [1], [2], [], [], [3, 4, 5, 0, 1, 2, 3, 4, 5]]
@[simp] def r58_9 : List AOp :=
 [.p 46 (.load true 2 (.t 8)),
 .n (.store 2 (.t 4) (.t 46))]
def c58 : AC :=
 .seq (.ops r58_0)
 (.seq (.seq (.ops r58_1)
  (.seq (.ops r58_2)
    (.cond (.t 19) (.seq (.ops r58_3)
     (.ret)) (.skip))))
   (.seq (.ops r58_4)
  (.seq (.ops r58_5)
    (.seq (.seq (.ops r58_6)
     (.cond (.t 38) (.ops r58_7) (.skip)))
   (.seq (.tops r58_8
     p58_8)
     (.seq (.ops r58_9)
    (.ret)))))))
def a58 : AFn := { res := [.cell 4 2 true], body := c58, keepA := false, keepR := false, pure := false }
theorem k58 : chkFn Tryz.prog Tryz.f58 a58 = true := by kernel_rfl
@[simp] def r59_0 : List AOp :=
 [.p 1 (.box false 3 (.t 0)),
 .p 2 (.mov (.c (.lst .nil [])))]
@[simp] def r59_1 : List AOp :=
 [.p 3 (.mov (.c (.lst .nil [])))]
@[simp] def r59_2 : List AOp :=
 [.p 4 (.mov (.i 0))]
@[simp] def r59_3 : List AOp :=
 [.m 11 4,
 .p 12 (.off 0 (.t 1)),
 .p 13 (.load false 1 (.t 12)),
 .p 14 (.len (.t 13)),
 .p 15 (.bin .lss (.t 11) (.t 14))]
@[simp] def r59_5 : List AOp :=
 [.m 18 3,
 .m 19 4,
 .p 20 (.bin .add (.t 19) (.i 1)),
 .p 21 (.off 0 (.t 1)),
 .p 22 (.load false 1 (.t 21)),
 .m 23 4,
 .p 24 (.idxS 1 (.t 22) (.t 23)),
 .p 25 (.load false 1 (.t 24)),
 .p 26 (.build [.int .i64 0, .int .i64 0] [(0, 1, .t 25), (1, 1, .i 1)]),
 .p 27 (.build [.int .i64 0, .int .i64 0, .int .i64 0, .int .i64 0, .int .i64 0] [(0, 1, .t 20), (1, 1, .c (.int .i64 (-1))), (3, 2, .t 26)]),
 .p 28 (.bslice false 1 5 [.int .i64 0, .int .i64 0, .int .i64 0, .int .i64 0, .int .i64 0] [(0, .t 27)]),
 .p 29 (.append false 5 40 (.t 18) (.t 28)),
 .m 3 29]
@[simp] def r59_4 : List AOp :=
 [.m 16 4,
 .p 17 (.bin .add (.t 16) (.i 1)),
 .m 4 17]
def l59_0 : AC :=
 .seq (.seq (.ops r59_3)
   (.cond (.t 15) (.skip) (.exit 0)))
 (.seq (.block 1 (.ops r59_5))
   (.ops r59_4))
@[simp] def r59_6 : List AOp :=
 [.p 5 (.mov (.i 0))]
@[simp] def r59_7 : List AOp :=
 [.m 30 5,
 .p 31 (.off 2 (.t 1)),
 .p 32 (.load false 1 (.t 31)),
 .p 33 (.len (.t 32)),
 .p 34 (.bin .lss (.t 30) (.t 33))]
@[simp] def r59_9 : List AOp :=
 [.p 37 (.off 2 (.t 1)),
 .p 38 (.load false 1 (.t 37)),
 .m 39 5,
 .p 40 (.idxS 5 (.t 38) (.t 39)),
 .p 41 (.load true 5 (.t 40)),
 .p 6 (.alloc false [.lst .nil [], .lst .nil [], .int .i64 0, .int .i64 0, .lst .nil []]),
 .n (.store 5 (.t 6) (.t 41))]
@[simp] def r59_10 : List AOp :=
 [.p 7 (.mov (.i 0))]
@[simp] def r59_11 : List AOp :=
 [.m 42 7,
 .p 43 (.off 0 (.t 6)),
 .p 44 (.load false 1 (.t 43)),
 .p 45 (.len (.t 44)),
 .p 46 (.bin .lss (.t 42) (.t 45))]
@[simp] def r59_13 : List AOp :=
 [.m 49 3,
 .l 50 (.off 0 (.t 6)) 6 (.loc 6),
 .l 51 (.load false 1 (.t 50)) 50 (.loc 6),
 .m 52 7,
 .l 53 (.idxS 4 (.t 51) (.t 52)) 51 .lst,
 .l 54 (.off 1 (.t 53)) 53 .imm,
 .l 55 (.load false 1 (.t 54)) 54 .imm,
 .m 56 5,
 .l 57 (.off 0 (.t 6)) 6 (.loc 6),
 .l 58 (.load false 1 (.t 57)) 57 (.loc 6),
 .m 59 7,
 .l 60 (.idxS 4 (.t 58) (.t 59)) 58 .lst,
 .l 61 (.off 0 (.t 60)) 60 .imm,
 .l 62 (.load false 1 (.t 61)) 61 .imm,
 .p 63 (.build [.int .i64 0, .int .i64 0] [(0, 1, .t 62), (1, 1, .i 1)]),
 .p 64 (.build [.int .i64 0, .int .i64 0, .int .i64 0, .int .i64 0, .int .i64 0] [(0, 1, .t 55), (1, 1, .t 56), (2, 1, .c (.int .i64 (-1))), (3, 2, .t 63)]),
 .p 65 (.bslice false 1 5 [.int .i64 0, .int .i64 0, .int .i64 0, .int .i64 0, .int .i64 0] [(0, .t 64)]),
 .p 66 (.append false 5 40 (.t 49) (.t 65)),
 .m 3 66]
def p59_13 : List (List Nat) := [[], [], [1], [], [2, 3], [4], [5], [], [], [8], [], [9, 10], [11], [12], [13], [6, 7, 14], [15], [0, 16], [17, 17, 0, 1, 2, 3, 4, 5, 6, 7, 8, 9, 10, 11, 12, 13, 14, 15, 16, 17]]
@[simp] def r59_12 : List AOp :=
 [.m 47 7,
 .p 48 (.bin .add (.t 47) (.i 1)),
 .m 7 48]
def l59_2 : AC :=
 .seq (.seq (.ops r59_11)
   (.cond (.t 46) (.skip) (.exit 4)))
 (.seq (.block 5 (.tops r59_13
     p59_13))
   (.ops r59_12))
@[simp] def r59_14 : List AOp :=
 [.p 8 (.mov (.i 0))]
@[simp] def r59_15 : List AOp :=
 [.m 67 8,
 .p 68 (.off 1 (.t 6)),
 .p 69 (.load false 1 (.t 68)),
 .p 70 (.len (.t 69)),
 .p 71 (.bin .lss (.t 67) (.t 70))]
@[simp] def r59_17 : List AOp :=
 [.p 75 (.off 1 (.t 6)),
 .p 76 (.load false 1 (.t 75)),
 .m 77 8,
 .p 78 (.idxS 6 (.t 76) (.t 77)),
 .p 79 (.load true 6 (.t 78)),
 .p 80 (.call 120 [.t 79]),
 .m 74 80,
 .p 81 (.ext (.t 74) 0),
 .p 82 (.ext (.t 74) 1),
 .m 9 81,
 .m 10 82]
@[simp] def r59_18 : List AOp :=
 [.m 83 9,
 .p 84 (.bin .gtr (.t 83) (.i 0))]
@[simp] def r59_19 : List AOp :=
 [.m 85 3,
 .p 86 (.off 1 (.t 6)),
 .p 87 (.load false 1 (.t 86)),
 .m 88 8,
 .p 89 (.idxS 6 (.t 87) (.t 88)),
 .p 90 (.off 3 (.t 89)),
 .p 91 (.load false 1 (.t 90)),
 .m 92 5,
 .m 93 8,
 .m 94 9,
 .m 95 10,
 .p 96 (.build [.int .i64 0, .int .i64 0] [(0, 1, .t 94), (1, 1, .t 95)]),
 .p 97 (.build [.int .i64 0, .int .i64 0, .int .i64 0, .int .i64 0, .int .i64 0] [(0, 1, .t 91), (1, 1, .t 92), (2, 1, .t 93), (3, 2, .t 96)]),
 .p 98 (.bslice false 1 5 [.int .i64 0, .int .i64 0, .int .i64 0, .int .i64 0, .int .i64 0] [(0, .t 97)]),
 .p 99 (.append false 5 40 (.t 85) (.t 98)),
 .m 3 99]
@[simp] def r59_16 : List AOp :=
 [.m 72 8,
 .p 73 (.bin .add (.t 72) (.i 1)),
 .m 8 73]
def l59_3 : AC :=
 .seq (.seq (.ops r59_15)
   (.cond (.t 71) (.skip) (.exit 6)))
 (.seq (.block 7 (.seq (.ops r59_17)
    (.seq (.ops r59_18)
   (.cond (.t 84) (.ops r59_19) (.skip)))))
   (.ops r59_16))
@[simp] def r59_8 : List AOp :=
 [.m 35 5,
 .p 36 (.bin .add (.t 35) (.i 1)),
 .m 5 36]
def l59_1 : AC :=
 .seq (.seq (.ops r59_7)
   (.cond (.t 34) (.skip) (.exit 2)))
 (.seq (.block 3 (.seq (.ops r59_9)
    (.seq (.seq (.ops r59_10)
     (.block 4 (.loop l59_2)))
   (.seq (.ops r59_14)
     (.block 6 (.loop l59_3))))))
   (.ops r59_8))
@[simp] def r59_20 : List AOp :=
 [.m 100 3,
 .m 2 100]
def c59 : AC :=
 .seq (.ops r59_0)
 (.seq (.ops r59_1)
   (.seq (.seq (.ops r59_2)
    (.block 0 (.loop l59_0)))
  (.seq (.seq (.ops r59_6)
   (.block 2 (.loop l59_1)))
    (.seq (.ops r59_20)
   (.ret)))))
def a59 : AFn := { res := [.tmp 2], body := c59, keepA := false, keepR := false, pure := true }
theorem k59 : chkFn Tryz.prog Tryz.f59 a59 = true := by kernel_rfl
@[simp] def r60_0 : List AOp :=
 [.p 4 (.mov (.i 0))]
@[simp] def r60_1 : List AOp :=
 [.p 5 (.mov (.i 0))]
@[simp] def r60_2 : List AOp :=
 [.m 6 5,
 .m 7 0,
 .p 8 (.len (.t 7)),
 .p 9 (.bin .lss (.t 6) (.t 8))]
@[simp] def r60_4 : List AOp :=
 [.m 12 0,
 .m 13 5,
 .p 14 (.idxS 5 (.t 12) (.t 13)),
 .p 15 (.off 0 (.t 14)),
 .p 16 (.load false 1 (.t 15)),
 .m 17 1,
 .p 18 (.bin .eql (.t 16) (.t 17))]
@[simp] def r60_5 : List AOp :=
 [.m 19 5,
 .m 4 19]
@[simp] def r60_3 : List AOp :=
 [.m 10 5,
 .p 11 (.bin .add (.t 10) (.i 1)),
 .m 5 11]
def l60_0 : AC :=
 .seq (.seq (.ops r60_2)
   (.cond (.t 9) (.skip) (.exit 0)))
 (.seq (.block 1 (.seq (.ops r60_4)
    (.cond (.t 18) (.seq (.ops r60_5)
     (.ret)) (.skip))))
   (.ops r60_3))
@[simp] def r60_6 : List AOp :=
 [.p 4 (.mov (.c (.int .i64 (-1))))]
def c60 : AC :=
 .seq (.ops r60_0)
 (.seq (.seq (.ops r60_1)
  (.block 0 (.loop l60_0)))
   (.seq (.ops r60_6)
  (.ret)))
def a60 : AFn := { res := [.tmp 4], body := c60, keepA := false, keepR := false, pure := true }
theorem k60 : chkFn Tryz.prog Tryz.f60 a60 = true := by kernel_rfl
@[simp] def r61_0 : List AOp :=
 [.p 1 (.box false 3 (.t 0)),
 .p 2 (.mov (.c (.nilp)))]
@[simp] def r61_1 : List AOp :=
 [.p 6 (.build ((List.replicate 1024 [.int .i64 0, .int .i64 0, .int .i64 0, .int .i64 0, .lst .nil [], .int .u64 0]).flatten ++ (List.replicate 1024 [.bool false]).flatten ++ (List.replicate 1024 [.lst .nil [], .int .u64 0]).flatten) []),
 .p 7 (.box true 9216 (.t 6)),
 .m 3 7]
@[simp] def r61_2 : List AOp :=
 [.p 4 (.mov (.i 0))]
@[simp] def r61_3 : List AOp :=
 [.m 8 4,
 .p 9 (.off 2 (.t 1)),
 .p 10 (.load false 1 (.t 9)),
 .p 11 (.len (.t 10)),
 .p 12 (.bin .lss (.t 8) (.t 11))]
@[simp] def r61_5 : List AOp :=
 [.p 5 (.mov (.i 0))]
@[simp] def r61_6 : List AOp :=
 [.m 15 5,
 .p 16 (.off 2 (.t 1)),
 .p 17 (.load false 1 (.t 16)),
 .m 18 4,
 .p 19 (.idxS 5 (.t 17) (.t 18)),
 .p 20 (.off 1 (.t 19)),
 .p 21 (.load false 1 (.t 20)),
 .p 22 (.len (.t 21)),
 .p 23 (.bin .lss (.t 15) (.t 22))]
@[simp] def r61_8 : List AOp :=
 [.m 26 3,
 .l 27 (.off 2 (.t 1)) 1 (.loc 1),
 .l 28 (.load false 1 (.t 27)) 27 (.loc 1),
 .m 29 4,
 .l 30 (.idxS 5 (.t 28) (.t 29)) 28 .lst,
 .l 31 (.off 1 (.t 30)) 30 .imm,
 .l 32 (.load false 1 (.t 31)) 31 .imm,
 .m 33 5,
 .l 34 (.idxS 6 (.t 32) (.t 33)) 32 .lst,
 .l 35 (.off 3 (.t 34)) 34 .imm,
 .l 36 (.load false 1 (.t 35)) 35 .imm,
 .l 37 (.off 2 (.t 1)) 1 (.loc 1),
 .l 38 (.load false 1 (.t 37)) 37 (.loc 1),
 .m 39 4,
 .l 40 (.idxS 5 (.t 38) (.t 39)) 38 .lst,
 .l 41 (.off 1 (.t 40)) 40 .imm,
 .l 42 (.load false 1 (.t 41)) 41 .imm,
 .m 43 5,
 .l 44 (.idxS 6 (.t 42) (.t 43)) 42 .lst,
 .l 45 (.load true 6 (.t 44)) 44 .imm,
 .p 46 (.nilchk (.t 26)),
 .p 47 (.off 0 (.t 46)),
 .p 48 (.idxA 1024 6 (.t 47) (.t 36)),
 .n (.store 6 (.t 48) (.t 45))]
def p61_8 : List (List Nat) := [[], [], [1], [], [2, 3], [4], [5], [], [6, 7], [8], [9], [], [11], [], [12, 13], [14], [15], [], [16, 17], [18], [0], [20], [21, 10, 0, 1, 2, 3, 4, 5, 6, 7, 8, 9, 10, 11, 12, 13, 14, 15, 16, 17, 18, 19], [22, 19, 0, 1, 2, 3, 4, 5, 6, 7, 8, 9, 10, 11, 12, 13, 14, 15, 16, 17, 18, 19]]
@[simp] def r61_7 : List AOp :=
 [.m 24 5,
 .p 25 (.bin .add (.t 24) (.i 1)),
 .m 5 25]
def l61_1 : AC :=
 .seq (.seq (.ops r61_6)
   (.cond (.t 23) (.skip) (.exit 2)))
 (.seq (.block 3 (.tops r61_8
     p61_8))
   (.ops r61_7))
@[simp] def r61_4 : List AOp :=
 [.m 13 4,
 .p 14 (.bin .add (.t 13) (.i 1)),
 .m 4 14]
def l61_0 : AC :=
 .seq (.seq (.ops r61_3)
   (.cond (.t 12) (.skip) (.exit 0)))
 (.seq (.block 1 (.seq (.ops r61_5)
    (.block 2 (.loop l61_1))))
   (.ops r61_4))
@[simp] def r61_9 : List AOp :=
 [.m 49 3,
 .p 50 (.build [.int .i64 0, .int .i64 0, .int .i64 0, .int .i64 0, .lst .nil [], .int .u64 0] []),
 .p 51 (.nilchk (.t 49)),
 .p 52 (.off 0 (.t 51)),
 .p 53 (.idxA 1024 6 (.t 52) (.i 0)),
 .n (.store 6 (.t 53) (.t 50))]
@[simp] def r61_10 : List AOp :=
 [.m 54 3,
 .m 2 54]
def c61 : AC :=
 .seq (.ops r61_0)
 (.seq (.ops r61_1)
   (.seq (.seq (.ops r61_2)
    (.block 0 (.loop l61_0)))
  (.seq (.ops r61_9)
    (.seq (.ops r61_10)
   (.ret)))))
def a61 : AFn := { res := [.tmp 2], body := c61, keepA := false, keepR := false, pure := false }
theorem k61 : chkFn Tryz.prog Tryz.f61 a61 = true := by kernel_rfl
@[simp] def r62_0 : List AOp :=
 [.p 4 (.alloc false [.lst .nil [], .int .u64 0])]
@[simp] def r62_1 : List AOp :=
 [.m 8 0,
 .m 9 1,
 .p 10 (.nilchk (.t 8)),
 .p 11 (.off 6144 (.t 10)),
 .p 12 (.idxA 1024 1 (.t 11) (.t 9)),
 .p 13 (.load false 1 (.t 12))]
@[simp] def r62_2 : List AOp :=
 [.m 14 0,
 .m 15 1,
 .p 16 (.nilchk (.t 14)),
 .p 17 (.off 7168 (.t 16)),
 .p 18 (.idxA 1024 2 (.t 17) (.t 15)),
 .p 19 (.load true 2 (.t 18)),
 .n (.store 2 (.t 4) (.t 19))]
@[simp] def r62_3 : List AOp :=
 [.m 20 1,
 .p 21 (.build [.int .i64 0, .int .u64 0] [(0, 1, .t 20), (1, 1, .u 1)]),
 .p 22 (.bslice false 1 2 [.int .i64 0, .int .u64 0] [(0, .t 21)]),
 .p 23 (.build [.lst .nil [], .int .u64 0] [(0, 1, .t 22)]),
 .p 5 (.alloc false [.lst .nil [], .int .u64 0]),
 .n (.store 2 (.t 5) (.t 23))]
@[simp] def r62_4 : List AOp :=
 [.m 24 0,
 .m 25 1,
 .p 26 (.nilchk (.t 24)),
 .p 27 (.off 0 (.t 26)),
 .p 28 (.idxA 1024 6 (.t 27) (.t 25)),
 .p 29 (.load true 6 (.t 28)),
 .p 6 (.alloc false [.int .i64 0, .int .i64 0, .int .i64 0, .int .i64 0, .lst .nil [], .int .u64 0]),
 .n (.store 6 (.t 6) (.t 29))]
@[simp] def r62_5 : List AOp :=
 [.p 30 (.off 3 (.t 6)),
 .p 31 (.load false 1 (.t 30)),
 .m 32 1,
 .p 33 (.bin .eql (.t 31) (.t 32)),
 .m 34 33,
 .q 35 34 true (.off 1 (.t 6)),
 .q 36 34 true (.load false 1 (.t 35)),
 .q 37 34 true (.bin .eql (.t 36) (.i 64)),
 .p 38 (.pick (.t 34) (.t 37) (.b false)),
 .m 39 38,
 .q 40 39 true (.off 2 (.t 6)),
 .q 41 39 true (.load false 1 (.t 40)),
 .q 42 39 true (.bin .eql (.t 41) (.i 1)),
 .p 43 (.pick (.t 39) (.t 42) (.b false))]
@[simp] def r62_6 : List AOp :=
 [.p 44 (.load true 2 (.t 5)),
 .p 7 (.alloc false [.lst .nil [], .int .u64 0]),
 .n (.store 2 (.t 7) (.t 44))]
@[simp] def r62_7 : List AOp :=
 [.p 45 (.off 0 (.t 6)),
 .p 46 (.load false 1 (.t 45)),
 .p 47 (.bin .eql (.t 46) (.i 0))]
@[simp] def r62_8 : List AOp :=
 [.p 48 (.off 5 (.t 6)),
 .p 49 (.load false 1 (.t 48)),
 .p 50 (.build [.lst .nil [], .int .u64 0] [(1, 1, .t 49)]),
 .n (.store 2 (.t 7) (.t 50))]
@[simp] def r62_9 : List AOp :=
 [.p 51 (.off 0 (.t 6)),
 .p 52 (.load false 1 (.t 51)),
 .p 53 (.bin .eql (.t 52) (.i 1)),
 .m 54 53,
 .q 55 54 false (.off 0 (.t 6)),
 .q 56 54 false (.load false 1 (.t 55)),
 .q 57 54 false (.bin .eql (.t 56) (.i 2)),
 .p 58 (.pick (.t 54) (.b true) (.t 57)),
 .m 59 58,
 .q 60 59 false (.off 0 (.t 6)),
 .q 61 59 false (.load false 1 (.t 60)),
 .q 62 59 false (.bin .eql (.t 61) (.i 3)),
 .p 63 (.pick (.t 59) (.b true) (.t 62)),
 .m 64 63,
 .q 65 64 false (.off 0 (.t 6)),
 .q 66 64 false (.load false 1 (.t 65)),
 .q 67 64 false (.bin .eql (.t 66) (.i 8)),
 .p 68 (.pick (.t 64) (.b true) (.t 67))]
@[simp] def r62_10 : List AOp :=
 [.m 69 0,
 .p 70 (.load true 6 (.t 6)),
 .p 71 (.load true 2 (.t 5)),
 .p 72 (.call 121 [.t 69, .t 70, .t 71]),
 .n (.store 2 (.t 7) (.t 72))]
@[simp] def r62_11 : List AOp :=
 [.p 73 (.off 0 (.t 7)),
 .p 74 (.load false 1 (.t 73)),
 .p 75 (.len (.t 74)),
 .p 76 (.bin .leq (.t 75) (.i 16))]
@[simp] def r62_12 : List AOp :=
 [.p 77 (.load true 2 (.t 7)),
 .n (.store 2 (.t 5) (.t 77))]
@[simp] def r62_13 : List AOp :=
 [.m 78 0,
 .m 79 1,
 .p 80 (.nilchk (.t 78)),
 .p 81 (.off 6144 (.t 80)),
 .p 82 (.idxA 1024 1 (.t 81) (.t 79)),
 .n (.store 1 (.t 82) (.b true))]
@[simp] def r62_14 : List AOp :=
 [.m 83 0,
 .m 84 1,
 .l 85 (.load true 2 (.t 5)) 5 (.loc 5),
 .p 86 (.nilchk (.t 83)),
 .p 87 (.off 7168 (.t 86)),
 .p 88 (.idxA 1024 2 (.t 87) (.t 84)),
 .n (.store 2 (.t 88) (.t 85))]
def p62_14 : List (List Nat) := [[], [], [], [0], [3], [4, 1, 0, 1, 2], [5, 2, 0, 1, 2]]
@[simp] def r62_15 : List AOp :=
 [.p 89 (.load true 2 (.t 5)),
 .n (.store 2 (.t 4) (.t 89))]
def c62 : AC :=
 .seq (.ops r62_0)
 (.seq (.seq (.ops r62_1)
  (.cond (.t 13) (.seq (.ops r62_2)
   (.ret)) (.skip)))
   (.seq (.ops r62_3)
  (.seq (.ops r62_4)
    (.seq (.seq (.ops r62_5)
     (.cond (.t 43) (.seq (.ops r62_6)
      (.seq (.seq (.ops r62_7)
       (.cond (.t 47) (.ops r62_8) (.skip)))
     (.seq (.seq (.ops r62_9)
      (.cond (.t 68) (.ops r62_10) (.skip)))
       (.seq (.ops r62_11)
      (.cond (.t 76) (.ops r62_12) (.skip)))))) (.skip)))
   (.seq (.ops r62_13)
     (.seq (.tops r62_14
       p62_14)
    (.seq (.ops r62_15)
      (.ret))))))))
def a62 : AFn := { res := [.cell 4 2 true], body := c62, keepA := false, keepR := false, pure := false }
theorem k62 : chkFn Tryz.prog Tryz.f62 a62 = true := by kernel_rfl
@[simp] def r63_0 : List AOp :=
 [.p 2 (.box false 3 (.t 0)),
 .p 4 (.mov (.b false))]
@[simp] def r63_1 : List AOp :=
 [.m 5 1,
 .p 6 (.bin .geq (.t 5) (.i 0)),
 .m 7 6,
 .q 8 7 true (.mov (.t 1)),
 .q 9 7 true (.off 2 (.t 2)),
 .q 10 7 true (.load false 1 (.t 9)),
 .q 11 7 true (.len (.t 10)),
 .q 12 7 true (.bin .lss (.t 8) (.t 11)),
 .p 13 (.pick (.t 7) (.t 12) (.b false)),
 .m 14 13,
 .q 15 14 true (.load true 3 (.t 2)),
 .q 16 14 true (.call 96 [.t 15, .i 2]),
 .q 17 14 true (.bin .eql (.t 16) (.i 0)),
 .p 18 (.pick (.t 14) (.t 17) (.b false)),
 .m 4 18]
def c63 : AC :=
 .seq (.ops r63_0)
 (.seq (.ops r63_1)
   (.ret))
def a63 : AFn := { res := [.tmp 4], body := c63, keepA := false, keepR := false, pure := true }
theorem k63 : chkFn Tryz.prog Tryz.f63 a63 = true := by kernel_rfl
@[simp] def r64_0 : List AOp :=
 [.p 2 (.box false 5 (.t 0)),
 .p 4 (.mov (.i 0)),
 .p 5 (.mov (.i 0)),
 .p 6 (.mov (.b false))]
@[simp] def r64_1 : List AOp :=
 [.m 9 1,
 .p 10 (.bin .lss (.t 9) (.i 0)),
 .m 11 10,
 .q 12 11 false (.mov (.t 1)),
 .q 13 11 false (.off 1 (.t 2)),
 .q 14 11 false (.load false 1 (.t 13)),
 .q 15 11 false (.len (.t 14)),
 .q 16 11 false (.bin .geq (.t 12) (.t 15)),
 .p 17 (.pick (.t 11) (.b true) (.t 16))]
@[simp] def r64_2 : List AOp :=
 [.p 4 (.mov (.i 0)),
 .p 5 (.mov (.i 0)),
 .p 6 (.mov (.b false))]
@[simp] def r64_3 : List AOp :=
 [.p 18 (.off 1 (.t 2)),
 .p 19 (.load false 1 (.t 18)),
 .m 20 1,
 .p 21 (.idxS 6 (.t 19) (.t 20)),
 .p 22 (.load true 6 (.t 21)),
 .p 7 (.alloc false [.int .i64 0, .int .i64 0, .int .i64 0, .int .i64 0, .lst .nil [], .int .u64 0]),
 .n (.store 6 (.t 7) (.t 22))]
@[simp] def r64_4 : List AOp :=
 [.p 23 (.off 0 (.t 7)),
 .p 24 (.load false 1 (.t 23)),
 .p 25 (.call 72 [.t 24]),
 .m 8 25]
@[simp] def r64_5 : List AOp :=
 [.m 26 8,
 .p 27 (.bin .geq (.t 26) (.i 0))]
@[simp] def r64_6 : List AOp :=
 [.l 28 (.off 4 (.t 7)) 7 (.loc 7),
 .l 29 (.load false 1 (.t 28)) 28 (.loc 7),
 .m 30 8,
 .l 31 (.idxS 1 (.t 29) (.t 30)) 29 .lst,
 .l 32 (.load false 1 (.t 31)) 31 .imm,
 .l 33 (.off 2 (.t 7)) 7 (.loc 7),
 .l 34 (.load false 1 (.t 33)) 33 (.loc 7),
 .l 35 (.off 1 (.t 7)) 7 (.loc 7),
 .l 36 (.load false 1 (.t 35)) 35 (.loc 7),
 .p 37 (.bin .mul (.t 34) (.t 36)),
 .p 38 (.bin .quo (.t 37) (.i 8)),
 .m 4 32,
 .m 5 38,
 .p 6 (.mov (.b true))]
def p64_6 : List (List Nat) := [[], [0], [], [1, 2], [3], [], [5], [], [7], [6, 8], [9], [4, 0, 1, 2, 3, 4], [10, 11, 0, 1, 2, 3, 4, 5, 6, 7, 8, 9, 10, 11], [12, 0, 1, 2, 3, 4, 5, 6, 7, 8, 9, 10, 11, 12]]
@[simp] def r64_7 : List AOp :=
 [.p 4 (.mov (.i 0)),
 .p 5 (.mov (.i 0)),
 .p 6 (.mov (.b false))]
def c64 : AC :=
 .seq (.ops r64_0)
 (.seq (.seq (.ops r64_1)
  (.cond (.t 17) (.seq (.ops r64_2)
   (.ret)) (.skip)))
   (.seq (.ops r64_3)
  (.seq (.seq (.ops r64_4)
   (.seq (.ops r64_5)
     (.cond (.t 27) (.seq (.tops r64_6
      p64_6)
      (.ret)) (.skip))))
    (.seq (.ops r64_7)
   (.ret)))))
def a64 : AFn := { res := [.tmp 4, .tmp 5, .tmp 6], body := c64, keepA := false, keepR := false, pure := true }
theorem k64 : chkFn Tryz.prog Tryz.f64 a64 = true := by kernel_rfl
@[simp] def r66_0 : List AOp :=
 [.p 5 (.box false 3 (.t 0)),
 .p 10 (.mov (.b false))]
@[simp] def r66_1 : List AOp :=
 [.p 22 (.load true 3 (.t 5)),
 .m 23 1,
 .m 24 2,
 .p 25 (.call 22 [.t 22, .t 23, .t 24]),
 .m 21 25,
 .p 26 (.ext (.t 21) 0),
 .p 27 (.ext (.t 21) 1),
 .p 28 (.ext (.t 21) 2),
 .m 11 26,
 .m 12 27,
 .m 13 28]
@[simp] def r66_2 : List AOp :=
 [.p 30 (.load true 3 (.t 5)),
 .m 31 1,
 .m 32 3,
 .p 33 (.call 22 [.t 30, .t 31, .t 32]),
 .m 29 33,
 .p 34 (.ext (.t 29) 0),
 .p 35 (.ext (.t 29) 1),
 .p 36 (.ext (.t 29) 2),
 .m 14 34,
 .m 15 35,
 .m 16 36]
@[simp] def r66_3 : List AOp :=
 [.m 37 13,
 .p 38 (.un .not (.t 37)),
 .m 39 38,
 .q 40 39 false (.mov (.t 16)),
 .q 41 39 false (.un .not (.t 40)),
 .p 42 (.pick (.t 39) (.b true) (.t 41))]
@[simp] def r66_4 : List AOp :=
 [.p 10 (.mov (.b false))]
@[simp] def r66_5 : List AOp :=
 [.p 44 (.load true 3 (.t 5)),
 .m 45 11,
 .p 46 (.call 17 [.t 44, .t 45]),
 .m 43 46,
 .p 47 (.ext (.t 43) 0),
 .p 48 (.ext (.t 43) 1),
 .p 17 (.alloc false [.lst .nil [], .int .u64 0]),
 .n (.store 2 (.t 17) (.t 47)),
 .m 18 48]
@[simp] def r66_6 : List AOp :=
 [.p 50 (.load true 3 (.t 5)),
 .m 51 14,
 .p 52 (.call 17 [.t 50, .t 51]),
 .m 49 52,
 .p 53 (.ext (.t 49) 0),
 .p 54 (.ext (.t 49) 1),
 .p 19 (.alloc false [.lst .nil [], .int .u64 0]),
 .n (.store 2 (.t 19) (.t 53)),
 .m 20 54]
@[simp] def r66_7 : List AOp :=
 [.p 55 (.off 0 (.t 17)),
 .p 56 (.load false 1 (.t 55)),
 .p 57 (.off 0 (.t 19)),
 .p 58 (.load false 1 (.t 57)),
 .p 59 (.call 112 [.t 56, .t 58]),
 .m 60 59,
 .q 61 60 true (.mov (.t 4)),
 .q 62 60 true (.off 1 (.t 19)),
 .q 63 60 true (.load false 1 (.t 62)),
 .q 64 60 true (.off 1 (.t 17)),
 .q 65 60 true (.load false 1 (.t 64)),
 .q 66 60 true (.bin .sub (.t 63) (.t 65)),
 .q 67 60 true (.mov (.t 12)),
 .q 68 60 true (.conv .u64 (.t 67)),
 .q 69 60 true (.mov (.t 15)),
 .q 70 60 true (.conv .u64 (.t 69)),
 .q 71 60 true (.calld (.t 61) [.t 66, .t 68, .t 70]),
 .p 72 (.pick (.t 60) (.t 71) (.b false)),
 .m 10 72]
def c66 : AC :=
 .seq (.ops r66_0)
 (.seq (.ops r66_1)
   (.seq (.ops r66_2)
  (.seq (.seq (.ops r66_3)
   (.cond (.t 42) (.seq (.ops r66_4)
    (.ret)) (.skip)))
    (.seq (.ops r66_5)
   (.seq (.ops r66_6)
     (.seq (.ops r66_7)
    (.ret)))))))
def a66 : AFn := { res := [.tmp 10], body := c66, keepA := false, keepR := false, pure := false }
theorem k66 : chkFn Tryz.prog Tryz.f66 a66 = true := by kernel_rfl
@[simp] def r67_0 : List AOp :=
 [.p 7 (.mov (.b false))]
@[simp] def r67_1 : List AOp :=
 [.m 8 0,
 .n (.store 1 (.t 3) (.t 8))]
@[simp] def r67_2 : List AOp :=
 [.p 7 (.mov (.b true))]
def c67 : AC :=
 .seq (.ops r67_0)
 (.seq (.ops r67_1)
   (.seq (.ops r67_2)
  (.ret)))
def a67 : AFn := { res := [.tmp 7], body := c67, keepA := false, keepR := false, pure := false }
theorem k67 : chkFn Tryz.prog Tryz.f67 a67 = true := by kernel_rfl
@[simp] def r69_0 : List AOp :=
 [.p 4 (.box false 2 (.t 0)),
 .p 6 (.box false 2 (.t 2)),
 .p 8 (.alloc false [.lst .nil [], .int .u64 0])]
@[simp] def r69_1 : List AOp :=
 [.p 12 (.load true 2 (.t 4)),
 .p 13 (.call 122 [.t 12]),
 .m 9 13]
@[simp] def r69_2 : List AOp :=
 [.p 14 (.load true 2 (.t 6)),
 .p 15 (.call 122 [.t 14]),
 .m 10 15]
@[simp] def r69_3 : List AOp :=
 [.p 11 (.mov (.i 0))]
@[simp] def r69_4 : List AOp :=
 [.m 16 11,
 .p 17 (.bin .lss (.t 16) (.i 1024))]
@[simp] def r69_6 : List AOp :=
 [.m 20 9,
 .m 21 11,
 .m 22 9,
 .m 23 11,
 .p 24 (.nilchk (.t 22)),
 .p 25 (.off 0 (.t 24)),
 .p 26 (.idxA 1024 1 (.t 25) (.t 23)),
 .p 27 (.load false 1 (.t 26)),
 .m 28 1,
 .p 29 (.bin .mul (.t 27) (.t 28)),
 .m 30 10,
 .m 31 11,
 .p 32 (.nilchk (.t 30)),
 .p 33 (.off 0 (.t 32)),
 .p 34 (.idxA 1024 1 (.t 33) (.t 31)),
 .p 35 (.load false 1 (.t 34)),
 .m 36 3,
 .p 37 (.bin .mul (.t 35) (.t 36)),
 .p 38 (.bin .add (.t 29) (.t 37)),
 .p 39 (.nilchk (.t 20)),
 .p 40 (.off 0 (.t 39)),
 .p 41 (.idxA 1024 1 (.t 40) (.t 21)),
 .n (.store 1 (.t 41) (.t 38))]
def p69_6 : List (List Nat) := [[], [], [], [], [2], [4], [5, 3], [6], [], [7, 8], [], [], [10], [12], [13, 11], [14], [], [15, 16], [9, 17], [0], [19], [20, 1, 0, 1, 2, 3, 4, 5, 6, 7, 8, 9, 10, 11, 12, 13, 14, 15, 16, 17, 18], [21, 18, 0, 1, 2, 3, 4, 5, 6, 7, 8, 9, 10, 11, 12, 13, 14, 15, 16, 17, 18]]
@[simp] def r69_5 : List AOp :=
 [.m 18 11,
 .p 19 (.bin .add (.t 18) (.i 1)),
 .m 11 19]
def l69_0 : AC :=
 .seq (.seq (.ops r69_4)
   (.cond (.t 17) (.skip) (.exit 0)))
 (.seq (.block 1 (.tops r69_6
     p69_6))
   (.ops r69_5))
@[simp] def r69_7 : List AOp :=
 [.m 42 9,
 .m 43 9,
 .p 44 (.nilchk (.t 43)),
 .p 45 (.off 1024 (.t 44)),
 .p 46 (.load false 1 (.t 45)),
 .m 47 1,
 .p 48 (.bin .mul (.t 46) (.t 47)),
 .m 49 10,
 .p 50 (.nilchk (.t 49)),
 .p 51 (.off 1024 (.t 50)),
 .p 52 (.load false 1 (.t 51)),
 .m 53 3,
 .p 54 (.bin .mul (.t 52) (.t 53)),
 .p 55 (.bin .add (.t 48) (.t 54)),
 .p 56 (.nilchk (.t 42)),
 .p 57 (.off 1024 (.t 56)),
 .n (.store 1 (.t 57) (.t 55))]
def p69_7 : List (List Nat) := [[], [], [1], [2], [3], [], [4, 5], [], [7], [8], [9], [], [10, 11], [6, 12], [0, 0, 1, 2, 3, 4, 5, 6, 7, 8, 9, 10, 11, 12, 13], [14, 0, 1, 2, 3, 4, 5, 6, 7, 8, 9, 10, 11, 12, 13], [15, 13, 0, 1, 2, 3, 4, 5, 6, 7, 8, 9, 10, 11, 12, 13]]
@[simp] def r69_8 : List AOp :=
 [.m 58 9,
 .p 59 (.call 123 [.t 58]),
 .n (.store 2 (.t 8) (.t 59))]
def c69 : AC :=
 .seq (.ops r69_0)
 (.seq (.ops r69_1)
   (.seq (.ops r69_2)
  (.seq (.seq (.ops r69_3)
   (.block 0 (.loop l69_0)))
    (.seq (.tops r69_7
      p69_7)
   (.seq (.ops r69_8)
     (.ret))))))
def a69 : AFn := { res := [.cell 8 2 true], body := c69, keepA := false, keepR := false, pure := true }
theorem k69 : chkFn Tryz.prog Tryz.f69 a69 = true := by kernel_rfl
@[simp] def r70_0 : List AOp :=
 [.p 6 (.mov (.b false))]
@[simp] def r70_1 : List AOp :=
 [.m 7 0,
 .m 8 1,
 .p 9 (.bin .geq (.t 7) (.t 8)),
 .m 10 9,
 .q 11 10 true (.mov (.t 0)),
 .q 12 10 true (.un .neg (.t 11)),
 .q 13 10 true (.mov (.t 2)),
 .q 14 10 true (.bin .geq (.t 12) (.t 13)),
 .p 15 (.pick (.t 10) (.t 14) (.b false)),
 .m 6 15]
def c70 : AC :=
 .seq (.ops r70_0)
 (.seq (.ops r70_1)
   (.ret))
def a70 : AFn := { res := [.tmp 6], body := c70, keepA := false, keepR := false, pure := true }
theorem k70 : chkFn Tryz.prog Tryz.f70 a70 = true := by kernel_rfl
@[simp] def r71_0 : List AOp :=
 [.p 6 (.mov (.b false))]
@[simp] def r71_1 : List AOp :=
 [.m 7 0,
 .m 8 1,
 .p 9 (.bin .eql (.t 7) (.t 8)),
 .m 6 9]
def c71 : AC :=
 .seq (.ops r71_0)
 (.seq (.ops r71_1)
   (.ret))
def a71 : AFn := { res := [.tmp 6], body := c71, keepA := false, keepR := false, pure := true }
theorem k71 : chkFn Tryz.prog Tryz.f71 a71 = true := by kernel_rfl
@[simp] def r72_0 : List AOp :=
 [.p 2 (.mov (.i 0))]
@[simp] def r72_1 : List AOp :=
 [.m 3 0]
@[simp] def r72_2 : List AOp :=
 [.p 5 (.bin .eql (.t 3) (.i 16)),
 .m 4 5]
@[simp] def r72_3 : List AOp :=
 [.p 6 (.bin .eql (.t 3) (.i 17)),
 .m 4 6]
@[simp] def r72_4 : List AOp :=
 [.p 2 (.mov (.i 0))]
@[simp] def r72_5 : List AOp :=
 [.p 8 (.bin .eql (.t 3) (.i 18)),
 .m 7 8]
@[simp] def r72_6 : List AOp :=
 [.p 9 (.bin .eql (.t 3) (.i 19)),
 .m 7 9]
@[simp] def r72_7 : List AOp :=
 [.p 2 (.mov (.i 1))]
@[simp] def r72_8 : List AOp :=
 [.p 2 (.mov (.c (.int .i64 (-1))))]
def c72 : AC :=
 .seq (.ops r72_0)
 (.seq (.seq (.ops r72_1)
  (.block 0 (.seq (.seq (.ops r72_2)
     (.cond (.t 4) (.skip) (.ops r72_3)))
   (.cond (.t 4) (.seq (.ops r72_4)
    (.ret)) (.seq (.seq (.ops r72_5)
      (.cond (.t 7) (.skip) (.ops r72_6)))
    (.cond (.t 7) (.seq (.ops r72_7)
     (.ret)) (.skip)))))))
   (.seq (.ops r72_8)
  (.ret)))
def a72 : AFn := { res := [.tmp 2], body := c72, keepA := false, keepR := false, pure := true }
theorem k72 : chkFn Tryz.prog Tryz.f72 a72 = true := by kernel_rfl
@[simp] def r80_0 : List AOp :=
 [.p 4 (.mov (.b false))]
@[simp] def r80_1 : List AOp :=
 [.m 5 0,
 .p 6 (.call 127 [.t 5]),
 .p 7 (.un .not (.t 6))]
@[simp] def r80_2 : List AOp :=
 [.p 4 (.mov (.b false))]
@[simp] def r80_3 : List AOp :=
 [.m 8 1]
@[simp] def r80_4 : List AOp :=
 [.p 10 (.bin .eql (.t 8) (.i 1)),
 .m 9 10]
@[simp] def r80_5 : List AOp :=
 [.p 4 (.mov (.b true))]
@[simp] def r80_6 : List AOp :=
 [.p 12 (.bin .eql (.t 8) (.i 2)),
 .m 11 12]
@[simp] def r80_7 : List AOp :=
 [.p 13 (.bin .eql (.t 8) (.i 4)),
 .m 11 13]
@[simp] def r80_8 : List AOp :=
 [.p 14 (.bin .eql (.t 8) (.i 8)),
 .m 11 14]
@[simp] def r80_9 : List AOp :=
 [.p 15 (.bin .eql (.t 8) (.i 16)),
 .m 11 15]
@[simp] def r80_10 : List AOp :=
 [.m 16 0,
 .p 17 (.bin .geq (.t 16) (.i 8)),
 .m 18 17,
 .q 19 18 true (.mov (.t 0)),
 .q 20 18 true (.mov (.t 1)),
 .q 21 18 true (.bin .mul (.t 19) (.t 20)),
 .q 22 18 true (.bin .leq (.t 21) (.i 128)),
 .p 23 (.pick (.t 18) (.t 22) (.b false)),
 .m 4 23]
@[simp] def r80_11 : List AOp :=
 [.p 4 (.mov (.b false))]
def c80 : AC :=
 .seq (.ops r80_0)
 (.seq (.seq (.ops r80_1)
  (.cond (.t 7) (.seq (.ops r80_2)
   (.ret)) (.skip)))
   (.seq (.seq (.ops r80_3)
    (.block 0 (.seq (.ops r80_4)
     (.cond (.t 9) (.seq (.ops r80_5)
      (.ret)) (.seq (.seq (.ops r80_6)
     (.cond (.t 11) (.skip) (.seq (.ops r80_7)
      (.cond (.t 11) (.skip) (.seq (.ops r80_8)
       (.cond (.t 11) (.skip) (.ops r80_9)))))))
      (.cond (.t 11) (.seq (.ops r80_10)
       (.ret)) (.skip)))))))
  (.seq (.ops r80_11)
    (.ret))))
def a80 : AFn := { res := [.tmp 4], body := c80, keepA := false, keepR := false, pure := true }
theorem k80 : chkFn Tryz.prog Tryz.f80 a80 = true := by kernel_rfl
@[simp] def r81_0 : List AOp :=
 [.p 4 (.mov (.b false))]
@[simp] def r81_1 : List AOp :=
 [.m 5 0,
 .p 6 (.call 128 [.t 5]),
 .p 7 (.un .not (.t 6))]
@[simp] def r81_2 : List AOp :=
 [.p 4 (.mov (.b false))]
@[simp] def r81_3 : List AOp :=
 [.m 8 1,
 .p 9 (.bin .eql (.t 8) (.i 1))]
@[simp] def r81_4 : List AOp :=
 [.p 4 (.mov (.b true))]
@[simp] def r81_5 : List AOp :=
 [.m 10 1,
 .p 11 (.bin .eql (.t 10) (.i 2)),
 .m 12 11,
 .q 13 12 false (.mov (.t 1)),
 .q 14 12 false (.bin .eql (.t 13) (.i 4)),
 .p 15 (.pick (.t 12) (.b true) (.t 14)),
 .m 16 15,
 .q 17 16 false (.mov (.t 1)),
 .q 18 16 false (.bin .eql (.t 17) (.i 8)),
 .p 19 (.pick (.t 16) (.b true) (.t 18)),
 .m 20 19,
 .q 21 20 false (.mov (.t 1)),
 .q 22 20 false (.bin .eql (.t 21) (.i 16)),
 .p 23 (.pick (.t 20) (.b true) (.t 22)),
 .m 24 23,
 .q 25 24 true (.mov (.t 0)),
 .q 26 24 true (.bin .gtr (.t 25) (.i 1)),
 .p 27 (.pick (.t 24) (.t 26) (.b false)),
 .m 28 27,
 .q 29 28 true (.mov (.t 0)),
 .q 30 28 true (.mov (.t 1)),
 .q 31 28 true (.bin .mul (.t 29) (.t 30)),
 .q 32 28 true (.bin .leq (.t 31) (.i 128)),
 .p 33 (.pick (.t 28) (.t 32) (.b false)),
 .m 4 33]
def c81 : AC :=
 .seq (.ops r81_0)
 (.seq (.seq (.ops r81_1)
  (.cond (.t 7) (.seq (.ops r81_2)
   (.ret)) (.skip)))
   (.seq (.seq (.ops r81_3)
    (.cond (.t 9) (.seq (.ops r81_4)
     (.ret)) (.skip)))
  (.seq (.ops r81_5)
    (.ret))))
def a81 : AFn := { res := [.tmp 4], body := c81, keepA := false, keepR := false, pure := true }
theorem k81 : chkFn Tryz.prog Tryz.f81 a81 = true := by kernel_rfl
@[simp] def r82_0 : List AOp :=
 [.p 4 (.mov (.b false))]
@[simp] def r82_1 : List AOp :=
 [.m 5 0,
 .m 6 1,
 .p 7 (.call 129 [.t 5, .t 6]),
 .p 8 (.bin .geq (.t 7) (.i 0)),
 .m 4 8]
def c82 : AC :=
 .seq (.ops r82_0)
 (.seq (.ops r82_1)
   (.ret))
def a82 : AFn := { res := [.tmp 4], body := c82, keepA := false, keepR := false, pure := true }
theorem k82 : chkFn Tryz.prog Tryz.f82 a82 = true := by kernel_rfl
@[simp] def r85_0 : List AOp :=
 [.p 2 (.mov (.c (.lst .nil [])))]
@[simp] def r85_1 : List AOp :=
 [.m 3 0,
 .p 4 (.eq false .slice (.t 3) (.c (.lst .nil [])))]
@[simp] def r85_2 : List AOp :=
 [.p 2 (.mov (.c (.lst .nil [])))]
@[simp] def r85_3 : List AOp :=
 [.p 5 (.bslice false 0 1 [.int .i64 0] []),
 .m 6 0,
 .p 7 (.append false 1 8 (.t 5) (.t 6)),
 .p 7 (.freeze (.t 7)),
 .m 2 7]
def c85 : AC :=
 .seq (.ops r85_0)
 (.seq (.seq (.ops r85_1)
  (.cond (.t 4) (.seq (.ops r85_2)
   (.ret)) (.skip)))
   (.seq (.ops r85_3)
  (.ret)))
def a85 : AFn := { res := [.tmp 2], body := c85, keepA := true, keepR := true, pure := true }
theorem k85 : chkFn Tryz.prog Tryz.f85 a85 = true := by kernel_rfl
@[simp] def r87_0 : List AOp :=
 [.p 1 (.box false 3 (.t 0)),
 .p 2 (.mov (.b false))]
@[simp] def r87_1 : List AOp :=
 [.p 9 (.off 2 (.t 1)),
 .p 10 (.load false 1 (.t 9)),
 .p 11 (.len (.t 10)),
 .p 12 (.bin .eql (.t 11) (.i 0)),
 .m 13 12,
 .q 14 13 false (.off 2 (.t 1)),
 .q 15 13 false (.load false 1 (.t 14)),
 .q 16 13 false (.len (.t 15)),
 .q 17 13 false (.bin .gtr (.t 16) (.i 64)),
 .p 18 (.pick (.t 13) (.b true) (.t 17)),
 .m 19 18,
 .q 20 19 false (.off 0 (.t 1)),
 .q 21 19 false (.load false 1 (.t 20)),
 .q 22 19 false (.len (.t 21)),
 .q 23 19 false (.bin .gtr (.t 22) (.i 16)),
 .p 24 (.pick (.t 19) (.b true) (.t 23)),
 .m 25 24,
 .q 26 25 false (.off 0 (.t 1)),
 .q 27 25 false (.load false 1 (.t 26)),
 .q 28 25 false (.call 138 [.t 27]),
 .q 29 25 false (.un .not (.t 28)),
 .p 30 (.pick (.t 25) (.b true) (.t 29)),
 .m 31 30,
 .q 32 31 false (.off 1 (.t 1)),
 .q 33 31 false (.load false 1 (.t 32)),
 .q 34 31 false (.call 139 [.t 33]),
 .q 35 31 false (.un .not (.t 34)),
 .p 36 (.pick (.t 31) (.b true) (.t 35)),
 .m 37 36,
 .q 38 37 false (.load true 3 (.t 1)),
 .q 39 37 false (.call 140 [.t 38]),
 .q 40 37 false (.bin .gtr (.t 39) (.i 512)),
 .p 41 (.pick (.t 37) (.b true) (.t 40))]
@[simp] def r87_2 : List AOp :=
 [.p 2 (.mov (.b false))]
@[simp] def r87_3 : List AOp :=
 [.p 3 (.mov (.i 0))]
@[simp] def r87_4 : List AOp :=
 [.m 42 3,
 .p 43 (.off 2 (.t 1)),
 .p 44 (.load false 1 (.t 43)),
 .p 45 (.len (.t 44)),
 .p 46 (.bin .lss (.t 42) (.t 45))]
@[simp] def r87_6 : List AOp :=
 [.p 49 (.off 2 (.t 1)),
 .p 50 (.load false 1 (.t 49)),
 .m 51 3,
 .p 52 (.idxS 5 (.t 50) (.t 51)),
 .p 53 (.load true 5 (.t 52)),
 .p 4 (.alloc false [.lst .nil [], .lst .nil [], .int .i64 0, .int .i64 0, .lst .nil []]),
 .n (.store 5 (.t 4) (.t 53))]
@[simp] def r87_7 : List AOp :=
 [.p 5 (.mov (.i 0))]
@[simp] def r87_8 : List AOp :=
 [.m 54 5,
 .p 55 (.off 0 (.t 4)),
 .p 56 (.load false 1 (.t 55)),
 .p 57 (.len (.t 56)),
 .p 58 (.bin .lss (.t 54) (.t 57))]
@[simp] def r87_10 : List AOp :=
 [.p 61 (.off 0 (.t 4)),
 .p 62 (.load false 1 (.t 61)),
 .m 63 5,
 .p 64 (.idxS 4 (.t 62) (.t 63)),
 .p 65 (.load true 4 (.t 64)),
 .p 6 (.alloc false [.int .i64 0, .int .i64 0, .lst .nil [], .lst .nil []]),
 .n (.store 4 (.t 6) (.t 65))]
@[simp] def r87_11 : List AOp :=
 [.p 66 (.off 0 (.t 6)),
 .p 67 (.load false 1 (.t 66)),
 .p 68 (.call 139 [.t 67]),
 .p 69 (.un .not (.t 68)),
 .m 70 69,
 .q 71 70 false (.off 1 (.t 6)),
 .q 72 70 false (.load false 1 (.t 71)),
 .q 73 70 false (.call 139 [.t 72]),
 .q 74 70 false (.un .not (.t 73)),
 .p 75 (.pick (.t 70) (.b true) (.t 74)),
 .m 76 75,
 .q 77 76 false (.off 2 (.t 6)),
 .q 78 76 false (.load false 1 (.t 77)),
 .q 79 76 false (.call 138 [.t 78]),
 .q 80 76 false (.un .not (.t 79)),
 .p 81 (.pick (.t 76) (.b true) (.t 80)),
 .m 82 81,
 .q 83 82 false (.off 3 (.t 6)),
 .q 84 82 false (.load false 1 (.t 83)),
 .q 85 82 false (.call 138 [.t 84]),
 .q 86 82 false (.un .not (.t 85)),
 .p 87 (.pick (.t 82) (.b true) (.t 86))]
@[simp] def r87_12 : List AOp :=
 [.p 2 (.mov (.b false))]
@[simp] def r87_9 : List AOp :=
 [.m 59 5,
 .p 60 (.bin .add (.t 59) (.i 1)),
 .m 5 60]
def l87_1 : AC :=
 .seq (.seq (.ops r87_8)
   (.cond (.t 58) (.skip) (.exit 2)))
 (.seq (.block 3 (.seq (.ops r87_10)
    (.seq (.ops r87_11)
   (.cond (.t 87) (.seq (.ops r87_12)
    (.ret)) (.skip)))))
   (.ops r87_9))
@[simp] def r87_13 : List AOp :=
 [.p 7 (.mov (.i 0))]
@[simp] def r87_14 : List AOp :=
 [.m 88 7,
 .p 89 (.off 1 (.t 4)),
 .p 90 (.load false 1 (.t 89)),
 .p 91 (.len (.t 90)),
 .p 92 (.bin .lss (.t 88) (.t 91))]
@[simp] def r87_16 : List AOp :=
 [.p 95 (.off 1 (.t 4)),
 .p 96 (.load false 1 (.t 95)),
 .m 97 7,
 .p 98 (.idxS 6 (.t 96) (.t 97)),
 .p 99 (.load true 6 (.t 98)),
 .p 8 (.alloc false [.int .i64 0, .int .i64 0, .int .i64 0, .int .i64 0, .lst .nil [], .int .u64 0]),
 .n (.store 6 (.t 8) (.t 99))]
@[simp] def r87_17 : List AOp :=
 [.p 100 (.off 0 (.t 8)),
 .p 101 (.load false 1 (.t 100)),
 .p 102 (.call 139 [.t 101]),
 .p 103 (.un .not (.t 102)),
 .m 104 103,
 .q 105 104 false (.off 1 (.t 8)),
 .q 106 104 false (.load false 1 (.t 105)),
 .q 107 104 false (.call 139 [.t 106]),
 .q 108 104 false (.un .not (.t 107)),
 .p 109 (.pick (.t 104) (.b true) (.t 108)),
 .m 110 109,
 .q 111 110 false (.off 2 (.t 8)),
 .q 112 110 false (.load false 1 (.t 111)),
 .q 113 110 false (.call 139 [.t 112]),
 .q 114 110 false (.un .not (.t 113)),
 .p 115 (.pick (.t 110) (.b true) (.t 114)),
 .m 116 115,
 .q 117 116 false (.off 3 (.t 8)),
 .q 118 116 false (.load false 1 (.t 117)),
 .q 119 116 false (.call 139 [.t 118]),
 .q 120 116 false (.un .not (.t 119)),
 .p 121 (.pick (.t 116) (.b true) (.t 120)),
 .m 122 121,
 .q 123 122 false (.off 4 (.t 8)),
 .q 124 122 false (.load false 1 (.t 123)),
 .q 125 122 false (.call 138 [.t 124]),
 .q 126 122 false (.un .not (.t 125)),
 .p 127 (.pick (.t 122) (.b true) (.t 126))]
@[simp] def r87_18 : List AOp :=
 [.p 2 (.mov (.b false))]
@[simp] def r87_15 : List AOp :=
 [.m 93 7,
 .p 94 (.bin .add (.t 93) (.i 1)),
 .m 7 94]
def l87_2 : AC :=
 .seq (.seq (.ops r87_14)
   (.cond (.t 92) (.skip) (.exit 4)))
 (.seq (.block 5 (.seq (.ops r87_16)
    (.seq (.ops r87_17)
   (.cond (.t 127) (.seq (.ops r87_18)
    (.ret)) (.skip)))))
   (.ops r87_15))
@[simp] def r87_19 : List AOp :=
 [.p 128 (.off 2 (.t 4)),
 .p 129 (.off 0 (.t 128)),
 .p 130 (.load false 1 (.t 129)),
 .p 131 (.call 139 [.t 130]),
 .p 132 (.un .not (.t 131)),
 .m 133 132,
 .q 134 133 false (.off 2 (.t 4)),
 .q 135 133 false (.off 1 (.t 134)),
 .q 136 133 false (.load false 1 (.t 135)),
 .q 137 133 false (.call 139 [.t 136]),
 .q 138 133 false (.un .not (.t 137)),
 .p 139 (.pick (.t 133) (.b true) (.t 138)),
 .m 140 139,
 .q 141 140 false (.off 2 (.t 4)),
 .q 142 140 false (.off 2 (.t 141)),
 .q 143 140 false (.load false 1 (.t 142)),
 .q 144 140 false (.call 138 [.t 143]),
 .q 145 140 false (.un .not (.t 144)),
 .p 146 (.pick (.t 140) (.b true) (.t 145))]
@[simp] def r87_20 : List AOp :=
 [.p 2 (.mov (.b false))]
@[simp] def r87_5 : List AOp :=
 [.m 47 3,
 .p 48 (.bin .add (.t 47) (.i 1)),
 .m 3 48]
def l87_0 : AC :=
 .seq (.seq (.ops r87_4)
   (.cond (.t 46) (.skip) (.exit 0)))
 (.seq (.block 1 (.seq (.ops r87_6)
    (.seq (.seq (.ops r87_7)
     (.block 2 (.loop l87_1)))
   (.seq (.seq (.ops r87_13)
    (.block 4 (.loop l87_2)))
     (.seq (.ops r87_19)
    (.cond (.t 146) (.seq (.ops r87_20)
     (.ret)) (.skip)))))))
   (.ops r87_5))
@[simp] def r87_21 : List AOp :=
 [.p 2 (.mov (.b true))]
def c87 : AC :=
 .seq (.ops r87_0)
 (.seq (.seq (.ops r87_1)
  (.cond (.t 41) (.seq (.ops r87_2)
   (.ret)) (.skip)))
   (.seq (.seq (.ops r87_3)
    (.block 0 (.loop l87_0)))
  (.seq (.ops r87_21)
    (.ret))))
def a87 : AFn := { res := [.tmp 2], body := c87, keepA := false, keepR := false, pure := true }
theorem k87 : chkFn Tryz.prog Tryz.f87 a87 = true := by kernel_rfl
@[simp] def r88_0 : List AOp :=
 [.p 1 (.box false 3 (.t 0)),
 .p 2 (.mov (.b false))]
@[simp] def r88_1 : List AOp :=
 [.p 10 (.load true 3 (.t 1)),
 .p 11 (.call 92 [.t 10]),
 .m 9 11,
 .p 12 (.ext (.t 9) 0),
 .p 13 (.ext (.t 9) 1),
 .p 3 (.alloc false [.lst .nil [], .lst .nil []]),
 .n (.store 2 (.t 3) (.t 12)),
 .m 4 13]
@[simp] def r88_2 : List AOp :=
 [.m 14 4,
 .p 15 (.bin .neq (.t 14) (.i 0))]
@[simp] def r88_3 : List AOp :=
 [.p 2 (.mov (.b false))]
@[simp] def r88_4 : List AOp :=
 [.p 16 (.load true 2 (.t 3)),
 .p 17 (.call 141 [.t 16, .i 0, .c (.int .i64 (-1))]),
 .m 5 17]
@[simp] def r88_5 : List AOp :=
 [.p 6 (.mov (.i 0))]
@[simp] def r88_6 : List AOp :=
 [.m 18 6,
 .p 19 (.off 2 (.t 1)),
 .p 20 (.load false 1 (.t 19)),
 .p 21 (.len (.t 20)),
 .p 22 (.bin .lss (.t 18) (.t 21))]
@[simp] def r88_8 : List AOp :=
 [.p 25 (.off 2 (.t 1)),
 .p 26 (.load false 1 (.t 25)),
 .m 27 6,
 .p 28 (.idxS 5 (.t 26) (.t 27)),
 .p 29 (.load true 5 (.t 28)),
 .p 7 (.alloc false [.lst .nil [], .lst .nil [], .int .i64 0, .int .i64 0, .lst .nil []]),
 .n (.store 5 (.t 7) (.t 29))]
@[simp] def r88_9 : List AOp :=
 [.m 30 5,
 .m 31 6,
 .p 32 (.idxS 1 (.t 30) (.t 31)),
 .p 33 (.load false 1 (.t 32)),
 .p 34 (.un .not (.t 33)),
 .m 35 34,
 .q 36 35 false (.off 2 (.t 7)),
 .q 37 35 false (.off 0 (.t 36)),
 .q 38 35 false (.load false 1 (.t 37)),
 .q 39 35 false (.bin .eql (.t 38) (.i 1)),
 .q 40 35 false (.mov (.t 39)),
 .q 41 40 false (.off 2 (.t 7)),
 .q 42 40 false (.off 0 (.t 41)),
 .q 43 40 false (.load false 1 (.t 42)),
 .q 44 40 false (.bin .eql (.t 43) (.i 3)),
 .q 45 35 false (.pick (.t 40) (.b true) (.t 44)),
 .q 46 35 false (.mov (.t 45)),
 .q 47 46 true (.off 2 (.t 7)),
 .q 48 46 true (.off 1 (.t 47)),
 .q 49 46 true (.load false 1 (.t 48)),
 .q 50 46 true (.bin .neq (.t 49) (.i 0)),
 .q 51 35 false (.pick (.t 46) (.t 50) (.b false)),
 .p 52 (.pick (.t 35) (.b true) (.t 51))]
@[simp] def r88_10 : List AOp :=
 [.p 2 (.mov (.b false))]
@[simp] def r88_11 : List AOp :=
 [.p 8 (.mov (.i 0))]
@[simp] def r88_12 : List AOp :=
 [.m 53 8,
 .p 54 (.off 0 (.t 7)),
 .p 55 (.load false 1 (.t 54)),
 .p 56 (.len (.t 55)),
 .p 57 (.bin .lss (.t 53) (.t 56))]
@[simp] def r88_14 : List AOp :=
 [.l 60 (.off 1 (.t 3)) 3 (.loc 3),
 .l 61 (.load false 1 (.t 60)) 60 (.loc 3),
 .m 62 6,
 .l 63 (.idxS 1 (.t 61) (.t 62)) 61 .lst,
 .l 64 (.load false 1 (.t 63)) 63 .imm,
 .p 65 (.len (.t 64)),
 .p 66 (.bin .eql (.t 65) (.i 0)),
 .m 67 66,
 ⟨(some 68), (some (67, false)), .off 0 (.t 7), (some (.t 7, .loc 7))⟩,
 ⟨(some 69), (some (67, false)), .load false 1 (.t 68), (some (.t 68, .loc 7))⟩,
 .q 70 67 false (.mov (.t 8)),
 ⟨(some 71), (some (67, false)), .idxS 4 (.t 69) (.t 70), (some (.t 69, .lst))⟩,
 ⟨(some 72), (some (67, false)), .off 2 (.t 71), (some (.t 71, .imm))⟩,
 ⟨(some 73), (some (67, false)), .load false 1 (.t 72), (some (.t 72, .imm))⟩,
 ⟨(some 74), (some (67, false)), .off 1 (.t 3), (some (.t 3, .loc 3))⟩,
 ⟨(some 75), (some (67, false)), .load false 1 (.t 74), (some (.t 74, .loc 3))⟩,
 .q 76 67 false (.mov (.t 6)),
 ⟨(some 77), (some (67, false)), .idxS 1 (.t 75) (.t 76), (some (.t 75, .lst))⟩,
 ⟨(some 78), (some (67, false)), .load false 1 (.t 77), (some (.t 77, .imm))⟩,
 .q 79 67 false (.call 29 [.t 73, .t 78]),
 .q 80 67 false (.un .not (.t 79)),
 .p 81 (.pick (.t 67) (.b true) (.t 80)),
 .m 82 81,
 ⟨(some 83), (some (82, false)), .off 0 (.t 7), (some (.t 7, .loc 7))⟩,
 ⟨(some 84), (some (82, false)), .load false 1 (.t 83), (some (.t 83, .loc 7))⟩,
 .q 85 82 false (.mov (.t 8)),
 ⟨(some 86), (some (82, false)), .idxS 4 (.t 84) (.t 85), (some (.t 84, .lst))⟩,
 ⟨(some 87), (some (82, false)), .off 3 (.t 86), (some (.t 86, .imm))⟩,
 ⟨(some 88), (some (82, false)), .load false 1 (.t 87), (some (.t 87, .imm))⟩,
 .q 89 82 false (.len (.t 88)),
 ⟨(some 90), (some (82, false)), .off 1 (.t 3), (some (.t 3, .loc 3))⟩,
 ⟨(some 91), (some (82, false)), .load false 1 (.t 90), (some (.t 90, .loc 3))⟩,
 .q 92 82 false (.mov (.t 6)),
 ⟨(some 93), (some (82, false)), .idxS 1 (.t 91) (.t 92), (some (.t 91, .lst))⟩,
 ⟨(some 94), (some (82, false)), .load false 1 (.t 93), (some (.t 93, .imm))⟩,
 .q 95 82 false (.len (.t 94)),
 .q 96 82 false (.bin .neq (.t 89) (.t 95)),
 .p 97 (.pick (.t 82) (.b true) (.t 96))]
def p88_14 : List (List Nat) := [[], [0], [], [1, 2], [3], [4], [5], [6], [7], [8, 7], [7], [9, 10, 7], [11, 7], [12, 7], [7], [14, 7], [7], [15, 16, 7], [17, 7], [13, 18, 7, 7], [19, 7], [7, 20], [21, 19], [22], [23, 22], [22], [24, 25, 22], [26, 22], [27, 22], [28, 22], [22], [30, 22], [22], [31, 32, 22], [33, 22], [34, 22], [29, 35, 22], [22, 36]]
@[simp] def r88_15 : List AOp :=
 [.p 2 (.mov (.b false))]
@[simp] def r88_13 : List AOp :=
 [.m 58 8,
 .p 59 (.bin .add (.t 58) (.i 1)),
 .m 8 59]
def l88_1 : AC :=
 .seq (.seq (.ops r88_12)
   (.cond (.t 57) (.skip) (.exit 2)))
 (.seq (.block 3 (.seq (.tops r88_14
    p88_14)
    (.cond (.t 97) (.seq (.ops r88_15)
     (.ret)) (.skip))))
   (.ops r88_13))
@[simp] def r88_7 : List AOp :=
 [.m 23 6,
 .p 24 (.bin .add (.t 23) (.i 1)),
 .m 6 24]
def l88_0 : AC :=
 .seq (.seq (.ops r88_6)
   (.cond (.t 22) (.skip) (.exit 0)))
 (.seq (.block 1 (.seq (.ops r88_8)
    (.seq (.seq (.ops r88_9)
     (.cond (.t 52) (.seq (.ops r88_10)
      (.ret)) (.skip)))
   (.seq (.ops r88_11)
     (.block 2 (.loop l88_1))))))
   (.ops r88_7))
@[simp] def r88_16 : List AOp :=
 [.p 2 (.mov (.b true))]
def c88 : AC :=
 .seq (.ops r88_0)
 (.seq (.ops r88_1)
   (.seq (.seq (.ops r88_2)
    (.cond (.t 15) (.seq (.ops r88_3)
     (.ret)) (.skip)))
  (.seq (.ops r88_4)
    (.seq (.seq (.ops r88_5)
     (.block 0 (.loop l88_0)))
   (.seq (.ops r88_16)
     (.ret))))))
def a88 : AFn := { res := [.tmp 2], body := c88, keepA := false, keepR := false, pure := true }
theorem k88 : chkFn Tryz.prog Tryz.f88 a88 = true := by kernel_rfl
@[simp] def r89_0 : List AOp :=
 [.p 2 (.box false 3 (.t 0)),
 .p 4 (.mov (.b false))]
@[simp] def r89_1 : List AOp :=
 [.p 5 (.mov (.i 0))]
@[simp] def r89_2 : List AOp :=
 [.m 11 5,
 .p 12 (.off 0 (.t 2)),
 .p 13 (.load false 1 (.t 12)),
 .p 14 (.len (.t 13)),
 .p 15 (.bin .lss (.t 11) (.t 14))]
@[simp] def r89_4 : List AOp :=
 [.p 18 (.off 0 (.t 2)),
 .p 19 (.load false 1 (.t 18)),
 .m 20 5,
 .p 21 (.idxS 1 (.t 19) (.t 20)),
 .p 22 (.load false 1 (.t 21)),
 .p 23 (.call 128 [.t 22]),
 .p 24 (.un .not (.t 23))]
@[simp] def r89_5 : List AOp :=
 [.p 4 (.mov (.b false))]
@[simp] def r89_3 : List AOp :=
 [.m 16 5,
 .p 17 (.bin .add (.t 16) (.i 1)),
 .m 5 17]
def l89_0 : AC :=
 .seq (.seq (.ops r89_2)
   (.cond (.t 15) (.skip) (.exit 0)))
 (.seq (.block 1 (.seq (.ops r89_4)
    (.cond (.t 24) (.seq (.ops r89_5)
     (.ret)) (.skip))))
   (.ops r89_3))
@[simp] def r89_6 : List AOp :=
 [.p 6 (.mov (.i 0))]
@[simp] def r89_7 : List AOp :=
 [.m 25 6,
 .p 26 (.off 2 (.t 2)),
 .p 27 (.load false 1 (.t 26)),
 .p 28 (.len (.t 27)),
 .p 29 (.bin .lss (.t 25) (.t 28))]
@[simp] def r89_9 : List AOp :=
 [.p 7 (.mov (.i 0))]
@[simp] def r89_10 : List AOp :=
 [.m 32 7,
 .p 33 (.off 2 (.t 2)),
 .p 34 (.load false 1 (.t 33)),
 .m 35 6,
 .p 36 (.idxS 5 (.t 34) (.t 35)),
 .p 37 (.off 0 (.t 36)),
 .p 38 (.load false 1 (.t 37)),
 .p 39 (.len (.t 38)),
 .p 40 (.bin .lss (.t 32) (.t 39))]
@[simp] def r89_12 : List AOp :=
 [.p 43 (.off 2 (.t 2)),
 .p 44 (.load false 1 (.t 43)),
 .m 45 6,
 .p 46 (.idxS 5 (.t 44) (.t 45)),
 .p 47 (.off 0 (.t 46)),
 .p 48 (.load false 1 (.t 47)),
 .m 49 7,
 .p 50 (.idxS 4 (.t 48) (.t 49)),
 .p 51 (.off 0 (.t 50)),
 .p 52 (.load false 1 (.t 51)),
 .p 53 (.call 128 [.t 52]),
 .p 54 (.un .not (.t 53))]
@[simp] def r89_13 : List AOp :=
 [.p 4 (.mov (.b false))]
@[simp] def r89_11 : List AOp :=
 [.m 41 7,
 .p 42 (.bin .add (.t 41) (.i 1)),
 .m 7 42]
def l89_2 : AC :=
 .seq (.seq (.ops r89_10)
   (.cond (.t 40) (.skip) (.exit 4)))
 (.seq (.block 5 (.seq (.ops r89_12)
    (.cond (.t 54) (.seq (.ops r89_13)
     (.ret)) (.skip))))
   (.ops r89_11))
@[simp] def r89_14 : List AOp :=
 [.p 8 (.mov (.i 0))]
@[simp] def r89_15 : List AOp :=
 [.m 55 8,
 .p 56 (.off 2 (.t 2)),
 .p 57 (.load false 1 (.t 56)),
 .m 58 6,
 .p 59 (.idxS 5 (.t 57) (.t 58)),
 .p 60 (.off 1 (.t 59)),
 .p 61 (.load false 1 (.t 60)),
 .p 62 (.len (.t 61)),
 .p 63 (.bin .lss (.t 55) (.t 62))]
@[simp] def r89_17 : List AOp :=
 [.p 66 (.off 2 (.t 2)),
 .p 67 (.load false 1 (.t 66)),
 .m 68 6,
 .p 69 (.idxS 5 (.t 67) (.t 68)),
 .p 70 (.off 1 (.t 69)),
 .p 71 (.load false 1 (.t 70)),
 .m 72 8,
 .p 73 (.idxS 6 (.t 71) (.t 72)),
 .p 74 (.load true 6 (.t 73)),
 .p 9 (.alloc false [.int .i64 0, .int .i64 0, .int .i64 0, .int .i64 0, .lst .nil [], .int .u64 0]),
 .n (.store 6 (.t 9) (.t 74))]
@[simp] def r89_18 : List AOp :=
 [.p 10 (.mov (.i 22))]
@[simp] def r89_19 : List AOp :=
 [.m 75 1,
 .p 76 (.bin .eql (.t 75) (.i 1))]
@[simp] def r89_20 : List AOp :=
 [.p 10 (.mov (.i 20))]
@[simp] def r89_21 : List AOp :=
 [.m 77 1,
 .p 78 (.bin .eql (.t 77) (.i 0))]
@[simp] def r89_22 : List AOp :=
 [.p 10 (.mov (.i 17))]
@[simp] def r89_23 : List AOp :=
 [.p 79 (.load true 6 (.t 9)),
 .p 80 (.call 142 [.t 79]),
 .p 81 (.un .not (.t 80)),
 .m 82 81,
 .q 83 82 false (.off 0 (.t 9)),
 .q 84 82 false (.load false 1 (.t 83)),
 .q 85 82 false (.mov (.t 10)),
 .q 86 82 false (.bin .gtr (.t 84) (.t 85)),
 .p 87 (.pick (.t 82) (.b true) (.t 86)),
 .m 88 87,
 .q 89 88 false (.mov (.t 1)),
 .q 90 88 false (.bin .lss (.t 89) (.i 2)),
 .q 91 88 false (.mov (.t 90)),
 .q 92 91 true (.off 2 (.t 9)),
 .q 93 91 true (.load false 1 (.t 92)),
 .q 94 91 true (.bin .gtr (.t 93) (.i 1)),
 .q 95 88 false (.pick (.t 91) (.t 94) (.b false)),
 .p 96 (.pick (.t 88) (.b true) (.t 95))]
@[simp] def r89_24 : List AOp :=
 [.p 4 (.mov (.b false))]
@[simp] def r89_16 : List AOp :=
 [.m 64 8,
 .p 65 (.bin .add (.t 64) (.i 1)),
 .m 8 65]
def l89_3 : AC :=
 .seq (.seq (.ops r89_15)
   (.cond (.t 63) (.skip) (.exit 6)))
 (.seq (.block 7 (.seq (.ops r89_17)
    (.seq (.ops r89_18)
   (.seq (.seq (.ops r89_19)
    (.cond (.t 76) (.ops r89_20) (.skip)))
     (.seq (.seq (.ops r89_21)
      (.cond (.t 78) (.ops r89_22) (.skip)))
    (.seq (.ops r89_23)
      (.cond (.t 96) (.seq (.ops r89_24)
       (.ret)) (.skip))))))))
   (.ops r89_16))
@[simp] def r89_8 : List AOp :=
 [.m 30 6,
 .p 31 (.bin .add (.t 30) (.i 1)),
 .m 6 31]
def l89_1 : AC :=
 .seq (.seq (.ops r89_7)
   (.cond (.t 29) (.skip) (.exit 2)))
 (.seq (.block 3 (.seq (.seq (.ops r89_9)
   (.block 4 (.loop l89_2)))
    (.seq (.ops r89_14)
   (.block 6 (.loop l89_3)))))
   (.ops r89_8))
@[simp] def r89_25 : List AOp :=
 [.p 97 (.off 1 (.t 2)),
 .p 98 (.load false 1 (.t 97)),
 .p 99 (.call 128 [.t 98]),
 .m 4 99]
def c89 : AC :=
 .seq (.ops r89_0)
 (.seq (.seq (.ops r89_1)
  (.block 0 (.loop l89_0)))
   (.seq (.seq (.ops r89_6)
    (.block 2 (.loop l89_1)))
  (.seq (.ops r89_25)
    (.ret))))
def a89 : AFn := { res := [.tmp 4], body := c89, keepA := false, keepR := false, pure := true }
theorem k89 : chkFn Tryz.prog Tryz.f89 a89 = true := by kernel_rfl
@[simp] def r90_0 : List AOp :=
 [.p 2 (.mov (.b false))]
@[simp] def r90_1 : List AOp :=
 [.m 3 0,
 .p 4 (.bin .gtr (.t 3) (.i 0)),
 .m 5 4,
 .q 6 5 true (.mov (.t 0)),
 .q 7 5 true (.bin .lss (.t 6) (.i 1024)),
 .p 8 (.pick (.t 5) (.t 7) (.b false)),
 .m 2 8]
def c90 : AC :=
 .seq (.ops r90_0)
 (.seq (.ops r90_1)
   (.ret))
def a90 : AFn := { res := [.tmp 2], body := c90, keepA := false, keepR := false, pure := true }
theorem k90 : chkFn Tryz.prog Tryz.f90 a90 = true := by kernel_rfl
@[simp] def r91_0 : List AOp :=
 [.p 1 (.box false 3 (.t 0)),
 .p 2 (.mov (.c (.lst .nil [])))]
@[simp] def r91_1 : List AOp :=
 [.p 3 (.mov (.c (.lst .nil [])))]
@[simp] def r91_2 : List AOp :=
 [.p 4 (.mov (.i 0))]
@[simp] def r91_3 : List AOp :=
 [.m 12 4,
 .p 13 (.off 2 (.t 1)),
 .p 14 (.load false 1 (.t 13)),
 .p 15 (.len (.t 14)),
 .p 16 (.bin .lss (.t 12) (.t 15))]
@[simp] def r91_5 : List AOp :=
 [.p 19 (.off 2 (.t 1)),
 .p 20 (.load false 1 (.t 19)),
 .m 21 4,
 .p 22 (.idxS 5 (.t 20) (.t 21)),
 .p 23 (.load true 5 (.t 22)),
 .p 5 (.alloc false [.lst .nil [], .lst .nil [], .int .i64 0, .int .i64 0, .lst .nil []]),
 .n (.store 5 (.t 5) (.t 23))]
@[simp] def r91_6 : List AOp :=
 [.p 6 (.mov (.i 0))]
@[simp] def r91_7 : List AOp :=
 [.m 24 6,
 .p 25 (.off 0 (.t 5)),
 .p 26 (.load false 1 (.t 25)),
 .p 27 (.len (.t 26)),
 .p 28 (.bin .lss (.t 24) (.t 27))]
@[simp] def r91_9 : List AOp :=
 [.p 31 (.off 0 (.t 5)),
 .p 32 (.load false 1 (.t 31)),
 .m 33 6,
 .p 34 (.idxS 4 (.t 32) (.t 33)),
 .p 35 (.load true 4 (.t 34)),
 .p 7 (.alloc false [.int .i64 0, .int .i64 0, .lst .nil [], .lst .nil []]),
 .n (.store 4 (.t 7) (.t 35))]
@[simp] def r91_10 : List AOp :=
 [.p 8 (.mov (.i 0))]
@[simp] def r91_11 : List AOp :=
 [.m 36 8,
 .p 37 (.off 3 (.t 7)),
 .p 38 (.load false 1 (.t 37)),
 .p 39 (.len (.t 38)),
 .p 40 (.bin .lss (.t 36) (.t 39))]
@[simp] def r91_13 : List AOp :=
 [.m 43 3,
 .l 44 (.off 3 (.t 7)) 7 (.loc 7),
 .l 45 (.load false 1 (.t 44)) 44 (.loc 7),
 .m 46 8,
 .l 47 (.idxS 1 (.t 45) (.t 46)) 45 .lst,
 .l 48 (.load false 1 (.t 47)) 47 .imm,
 .l 49 (.off 2 (.t 7)) 7 (.loc 7),
 .l 50 (.load false 1 (.t 49)) 49 (.loc 7),
 .m 51 8,
 .l 52 (.idxS 1 (.t 50) (.t 51)) 50 .lst,
 .l 53 (.load false 1 (.t 52)) 52 .imm,
 .l 54 (.off 0 (.t 7)) 7 (.loc 7),
 .l 55 (.load false 1 (.t 54)) 54 (.loc 7),
 .p 56 (.build [.int .i64 0, .int .i64 0] [(0, 1, .t 55), (1, 1, .i 1)]),
 .p 57 (.build [.int .i64 0, .int .i64 0, .int .i64 0, .int .i64 0, .int .i64 0] [(0, 1, .t 48), (1, 1, .t 53), (2, 1, .i 1000), (3, 2, .t 56)]),
 .p 58 (.bslice false 1 5 [.int .i64 0, .int .i64 0, .int .i64 0, .int .i64 0, .int .i64 0] [(0, .t 57)]),
 .p 59 (.append false 5 40 (.t 43) (.t 58)),
 .m 3 59]
def p91_13 : List (List Nat) := [[], [], [1], [], [2, 3], [4], [], [6], [], [7, 8], [9], [], [11], [12], [5, 10, 13], [14], [0, 15], [16, 16, 0, 1, 2, 3, 4, 5, 6, 7, 8, 9, 10, 11, 12, 13, 14, 15, 16]]
@[simp] def r91_12 : List AOp :=
 [.m 41 8,
 .p 42 (.bin .add (.t 41) (.i 1)),
 .m 8 42]
def l91_2 : AC :=
 .seq (.seq (.ops r91_11)
   (.cond (.t 40) (.skip) (.exit 4)))
 (.seq (.block 5 (.tops r91_13
     p91_13))
   (.ops r91_12))
@[simp] def r91_8 : List AOp :=
 [.m 29 6,
 .p 30 (.bin .add (.t 29) (.i 1)),
 .m 6 30]
def l91_1 : AC :=
 .seq (.seq (.ops r91_7)
   (.cond (.t 28) (.skip) (.exit 2)))
 (.seq (.block 3 (.seq (.ops r91_9)
    (.seq (.ops r91_10)
   (.block 4 (.loop l91_2)))))
   (.ops r91_8))
@[simp] def r91_14 : List AOp :=
 [.p 9 (.mov (.i 0))]
@[simp] def r91_15 : List AOp :=
 [.m 60 9,
 .p 61 (.off 1 (.t 5)),
 .p 62 (.load false 1 (.t 61)),
 .p 63 (.len (.t 62)),
 .p 64 (.bin .lss (.t 60) (.t 63))]
@[simp] def r91_17 : List AOp :=
 [.p 67 (.off 1 (.t 5)),
 .p 68 (.load false 1 (.t 67)),
 .m 69 9,
 .p 70 (.idxS 6 (.t 68) (.t 69)),
 .p 71 (.load true 6 (.t 70)),
 .p 72 (.call 143 [.t 71]),
 .m 10 72]
@[simp] def r91_18 : List AOp :=
 [.p 11 (.mov (.i 0))]
@[simp] def r91_19 : List AOp :=
 [.m 73 11,
 .m 74 10,
 .p 75 (.len (.t 74)),
 .p 76 (.bin .lss (.t 73) (.t 75))]
@[simp] def r91_21 : List AOp :=
 [.m 79 3,
 .l 80 (.off 1 (.t 5)) 5 (.loc 5),
 .l 81 (.load false 1 (.t 80)) 80 (.loc 5),
 .m 82 9,
 .l 83 (.idxS 6 (.t 81) (.t 82)) 81 .lst,
 .l 84 (.off 4 (.t 83)) 83 .imm,
 .l 85 (.load false 1 (.t 84)) 84 .imm,
 .m 86 11,
 .l 87 (.idxS 1 (.t 85) (.t 86)) 85 .lst,
 .l 88 (.load false 1 (.t 87)) 87 .imm,
 .m 89 4,
 .m 90 9,
 .m 91 10,
 .m 92 11,
 .l 93 (.idxS 2 (.t 91) (.t 92)) 91 .lst,
 .l 94 (.load true 2 (.t 93)) 93 .imm,
 .p 95 (.build [.int .i64 0, .int .i64 0, .int .i64 0, .int .i64 0, .int .i64 0] [(0, 1, .t 88), (1, 1, .t 89), (2, 1, .t 90), (3, 2, .t 94)]),
 .p 96 (.bslice false 1 5 [.int .i64 0, .int .i64 0, .int .i64 0, .int .i64 0, .int .i64 0] [(0, .t 95)]),
 .p 97 (.append false 5 40 (.t 79) (.t 96)),
 .m 3 97]
def p91_21 : List (List Nat) := [[], [], [1], [], [2, 3], [4], [5], [], [6, 7], [8], [], [], [], [], [12, 13], [14], [9, 10, 11, 15], [16], [0, 17], [18, 18, 0, 1, 2, 3, 4, 5, 6, 7, 8, 9, 10, 11, 12, 13, 14, 15, 16, 17, 18]]
@[simp] def r91_20 : List AOp :=
 [.m 77 11,
 .p 78 (.bin .add (.t 77) (.i 1)),
 .m 11 78]
def l91_4 : AC :=
 .seq (.seq (.ops r91_19)
   (.cond (.t 76) (.skip) (.exit 8)))
 (.seq (.block 9 (.tops r91_21
     p91_21))
   (.ops r91_20))
@[simp] def r91_16 : List AOp :=
 [.m 65 9,
 .p 66 (.bin .add (.t 65) (.i 1)),
 .m 9 66]
def l91_3 : AC :=
 .seq (.seq (.ops r91_15)
   (.cond (.t 64) (.skip) (.exit 6)))
 (.seq (.block 7 (.seq (.ops r91_17)
    (.seq (.ops r91_18)
   (.block 8 (.loop l91_4)))))
   (.ops r91_16))
@[simp] def r91_22 : List AOp :=
 [.p 98 (.off 2 (.t 5)),
 .p 99 (.off 0 (.t 98)),
 .p 100 (.load false 1 (.t 99)),
 .p 101 (.bin .eql (.t 100) (.i 0))]
@[simp] def r91_23 : List AOp :=
 [.m 102 3,
 .p 103 (.off 2 (.t 5)),
 .p 104 (.off 1 (.t 103)),
 .p 105 (.load false 1 (.t 104)),
 .m 106 4,
 .p 107 (.off 1 (.t 1)),
 .p 108 (.load false 1 (.t 107)),
 .p 109 (.build [.int .i64 0, .int .i64 0] [(0, 1, .t 108), (1, 1, .i 1)]),
 .p 110 (.build [.int .i64 0, .int .i64 0, .int .i64 0, .int .i64 0, .int .i64 0] [(0, 1, .t 105), (1, 1, .t 106), (2, 1, .i 1000), (3, 2, .t 109)]),
 .p 111 (.bslice false 1 5 [.int .i64 0, .int .i64 0, .int .i64 0, .int .i64 0, .int .i64 0] [(0, .t 110)]),
 .p 112 (.append false 5 40 (.t 102) (.t 111)),
 .m 3 112]
@[simp] def r91_24 : List AOp :=
 [.p 113 (.off 2 (.t 5)),
 .p 114 (.off 0 (.t 113)),
 .p 115 (.load false 1 (.t 114)),
 .p 116 (.bin .eql (.t 115) (.i 2))]
@[simp] def r91_25 : List AOp :=
 [.m 117 3,
 .p 118 (.off 2 (.t 5)),
 .p 119 (.off 1 (.t 118)),
 .p 120 (.load false 1 (.t 119)),
 .m 121 4,
 .p 122 (.build [.int .i64 0, .int .i64 0] [(0, 1, .i 1), (1, 1, .i 1)]),
 .p 123 (.build [.int .i64 0, .int .i64 0, .int .i64 0, .int .i64 0, .int .i64 0] [(0, 1, .t 120), (1, 1, .t 121), (2, 1, .i 1000), (3, 2, .t 122)]),
 .p 124 (.bslice false 1 5 [.int .i64 0, .int .i64 0, .int .i64 0, .int .i64 0, .int .i64 0] [(0, .t 123)]),
 .p 125 (.append false 5 40 (.t 117) (.t 124)),
 .m 3 125]
@[simp] def r91_4 : List AOp :=
 [.m 17 4,
 .p 18 (.bin .add (.t 17) (.i 1)),
 .m 4 18]
def l91_0 : AC :=
 .seq (.seq (.ops r91_3)
   (.cond (.t 16) (.skip) (.exit 0)))
 (.seq (.block 1 (.seq (.ops r91_5)
    (.seq (.seq (.ops r91_6)
     (.block 2 (.loop l91_1)))
   (.seq (.seq (.ops r91_14)
    (.block 6 (.loop l91_3)))
     (.seq (.seq (.ops r91_22)
      (.cond (.t 101) (.ops r91_23) (.skip)))
    (.seq (.ops r91_24)
      (.cond (.t 116) (.ops r91_25) (.skip))))))))
   (.ops r91_4))
@[simp] def r91_26 : List AOp :=
 [.m 126 3,
 .m 2 126]
def c91 : AC :=
 .seq (.ops r91_0)
 (.seq (.ops r91_1)
   (.seq (.seq (.ops r91_2)
    (.block 0 (.loop l91_0)))
  (.seq (.ops r91_26)
    (.ret))))
def a91 : AFn := { res := [.tmp 2], body := c91, keepA := false, keepR := false, pure := true }
theorem k91 : chkFn Tryz.prog Tryz.f91 a91 = true := by kernel_rfl

end Go.Proofs.YtpbngohpklpalaaGreat
