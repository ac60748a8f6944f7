/- A part of the proof: an abstract machine for the program's code and what each of its functions comes to there. No conditions. -/
import Derived.Test.YtpbngohpklpalaaGreatP06
import Derived.Test.YtpbngohpklpalaaGreatChecked
import Derived.KernelRfl

set_option linter.unusedSimpArgs false
set_option linter.unusedVariables false

/- Compact code of the program's functions, each checked against the program's form: printed by mkcode.py. -/
namespace Go.Proofs.YtpbngohpklpalaaGreat
open Go.LS
@[simp] def r177_0 : List AOp :=
 [.p 2 (.box false 2 (.t 0)),
 .p 3 (.box false 2 (.t 1)),
 .p 4 (.mov (.b false))]
@[simp] def r177_1 : List AOp :=
 [.p 7 (.off 0 (.t 2)),
 .p 8 (.load false 1 (.t 7)),
 .p 9 (.len (.t 8)),
 .p 10 (.off 0 (.t 3)),
 .p 11 (.load false 1 (.t 10)),
 .p 12 (.len (.t 11)),
 .p 13 (.bin .neq (.t 9) (.t 12)),
 .m 14 13,
 .q 15 14 false (.off 1 (.t 2)),
 .q 16 14 false (.load false 1 (.t 15)),
 .q 17 14 false (.len (.t 16)),
 .q 18 14 false (.off 1 (.t 3)),
 .q 19 14 false (.load false 1 (.t 18)),
 .q 20 14 false (.len (.t 19)),
 .q 21 14 false (.bin .neq (.t 17) (.t 20)),
 .p 22 (.pick (.t 14) (.b true) (.t 21))]
@[simp] def r177_2 : List AOp :=
 [.p 4 (.mov (.b false))]
@[simp] def r177_3 : List AOp :=
 [.p 5 (.mov (.i 0))]
@[simp] def r177_4 : List AOp :=
 [.m 23 5,
 .p 24 (.off 0 (.t 2)),
 .p 25 (.load false 1 (.t 24)),
 .p 26 (.len (.t 25)),
 .p 27 (.bin .lss (.t 23) (.t 26))]
@[simp] def r177_6 : List AOp :=
 [.l 30 (.off 0 (.t 2)) 2 (.loc 2),
 .l 31 (.load false 1 (.t 30)) 30 (.loc 2),
 .m 32 5,
 .l 33 (.idxS 1 (.t 31) (.t 32)) 31 .lst,
 .l 34 (.load false 1 (.t 33)) 33 .imm,
 .l 35 (.off 0 (.t 3)) 3 (.loc 3),
 .l 36 (.load false 1 (.t 35)) 35 (.loc 3),
 .m 37 5,
 .l 38 (.idxS 1 (.t 36) (.t 37)) 36 .lst,
 .l 39 (.load false 1 (.t 38)) 38 .imm,
 .p 40 (.call 29 [.t 34, .t 39]),
 .p 41 (.un .not (.t 40))]
def p177_6 : List (List Nat) := [[], [0], [], [1, 2], [3], [], [5], [], [6, 7], [8], [4, 9], [10]]
@[simp] def r177_7 : List AOp :=
 [.p 4 (.mov (.b false))]
@[simp] def r177_5 : List AOp :=
 [.m 28 5,
 .p 29 (.bin .add (.t 28) (.i 1)),
 .m 5 29]
def l177_0 : AC :=
 .seq (.seq (.ops r177_4)
   (.cond (.t 27) (.skip) (.exit 0)))
 (.seq (.block 1 (.seq (.tops r177_6
    p177_6)
    (.cond (.t 41) (.seq (.ops r177_7)
     (.ret)) (.skip))))
   (.ops r177_5))
@[simp] def r177_8 : List AOp :=
 [.p 6 (.mov (.i 0))]
@[simp] def r177_9 : List AOp :=
 [.m 42 6,
 .p 43 (.off 1 (.t 2)),
 .p 44 (.load false 1 (.t 43)),
 .p 45 (.len (.t 44)),
 .p 46 (.bin .lss (.t 42) (.t 45))]
@[simp] def r177_11 : List AOp :=
 [.l 49 (.off 1 (.t 2)) 2 (.loc 2),
 .l 50 (.load false 1 (.t 49)) 49 (.loc 2),
 .m 51 6,
 .l 52 (.idxS 1 (.t 50) (.t 51)) 50 .lst,
 .l 53 (.load false 1 (.t 52)) 52 .imm,
 .l 54 (.off 1 (.t 3)) 3 (.loc 3),
 .l 55 (.load false 1 (.t 54)) 54 (.loc 3),
 .m 56 6,
 .l 57 (.idxS 1 (.t 55) (.t 56)) 55 .lst,
 .l 58 (.load false 1 (.t 57)) 57 .imm,
 .p 59 (.call 29 [.t 53, .t 58]),
 .p 60 (.un .not (.t 59))]
def p177_11 : List (List Nat) := [[], [0], [], [1, 2], [3], [], [5], [], [6, 7], [8], [4, 9], [10]]
@[simp] def r177_12 : List AOp :=
 [.p 4 (.mov (.b false))]
@[simp] def r177_10 : List AOp :=
 [.m 47 6,
 .p 48 (.bin .add (.t 47) (.i 1)),
 .m 6 48]
def l177_1 : AC :=
 .seq (.seq (.ops r177_9)
   (.cond (.t 46) (.skip) (.exit 2)))
 (.seq (.block 3 (.seq (.tops r177_11
    p177_11)
    (.cond (.t 60) (.seq (.ops r177_12)
     (.ret)) (.skip))))
   (.ops r177_10))
@[simp] def r177_13 : List AOp :=
 [.p 4 (.mov (.b true))]
def c177 : AC :=
 .seq (.ops r177_0)
 (.seq (.seq (.ops r177_1)
  (.cond (.t 22) (.seq (.ops r177_2)
   (.ret)) (.skip)))
   (.seq (.seq (.ops r177_3)
    (.block 0 (.loop l177_0)))
  (.seq (.seq (.ops r177_8)
   (.block 2 (.loop l177_1)))
    (.seq (.ops r177_13)
   (.ret)))))
def a177 : AFn := { res := [.tmp 4], body := c177, keepA := false, keepR := false, pure := true }
theorem k177 : chkFn Tryz.prog Tryz.f177 a177 = true := by kernel_rfl
@[simp] def r178_0 : List AOp :=
 [.p 4 (.mov (.i 0))]
@[simp] def r178_1 : List AOp :=
 [.m 6 0,
 .p 7 (.len (.t 6)),
 .p 8 (.mov (.i 0))]
@[simp] def r178_2 : List AOp :=
 [.p 9 (.bin .lss (.t 8) (.t 7))]
@[simp] def r178_3 : List AOp :=
 [.m 10 8,
 .m 5 10]
@[simp] def r178_4 : List AOp :=
 [.m 11 1,
 .m 12 0,
 .m 13 5,
 .p 14 (.idxS 1 (.t 12) (.t 13)),
 .p 15 (.load false 1 (.t 14)),
 .p 16 (.calld (.t 11) [.t 15])]
@[simp] def r178_5 : List AOp :=
 [.m 17 5,
 .m 4 17]
@[simp] def r178_6 : List AOp :=
 [.p 18 (.bin .add (.t 8) (.i 1)),
 .m 8 18]
def l178_0 : AC :=
 .seq (.ops r178_2)
 (.seq (.cond (.t 9) (.skip) (.exit 0))
   (.seq (.block 1 (.seq (.ops r178_3)
   (.seq (.ops r178_4)
     (.cond (.t 16) (.seq (.ops r178_5)
      (.ret)) (.skip)))))
  (.ops r178_6)))
@[simp] def r178_7 : List AOp :=
 [.p 4 (.mov (.c (.int .i64 (-1))))]
def c178 : AC :=
 .seq (.ops r178_0)
 (.seq (.seq (.ops r178_1)
  (.block 0 (.loop l178_0)))
   (.seq (.ops r178_7)
  (.ret)))
def a178 : AFn := { res := [.tmp 4], body := c178, keepA := false, keepR := false, pure := true }
theorem k178 : chkFn Tryz.prog Tryz.f178 a178 = true := by kernel_rfl
@[simp] def r181_0 : List AOp :=
 [.p 2 (.mov (.b false))]
@[simp] def r181_1 : List AOp :=
 [.m 3 0,
 .p 4 (.bin .lss (.t 3) (.i 0)),
 .m 5 4,
 .q 6 5 false (.mov (.t 0)),
 .q 7 5 false (.bin .gtr (.t 6) (.i 2147483647)),
 .p 8 (.pick (.t 5) (.b true) (.t 7)),
 .m 2 8]
def c181 : AC :=
 .seq (.ops r181_0)
 (.seq (.ops r181_1)
   (.ret))
def a181 : AFn := { res := [.tmp 2], body := c181, keepA := false, keepR := false, pure := true }
theorem k181 : chkFn Tryz.prog Tryz.f181 a181 = true := by kernel_rfl
@[simp] def r182_0 : List AOp :=
 [.p 4 (.mov (.i 0))]
@[simp] def r182_1 : List AOp :=
 [.m 6 0,
 .p 7 (.len (.t 6)),
 .p 8 (.mov (.i 0))]
@[simp] def r182_2 : List AOp :=
 [.p 9 (.bin .lss (.t 8) (.t 7))]
@[simp] def r182_3 : List AOp :=
 [.m 10 8,
 .m 5 10]
@[simp] def r182_4 : List AOp :=
 [.m 11 1,
 .m 12 0,
 .m 13 5,
 .p 14 (.idxS 5 (.t 12) (.t 13)),
 .p 15 (.load true 5 (.t 14)),
 .p 16 (.calld (.t 11) [.t 15])]
@[simp] def r182_5 : List AOp :=
 [.m 17 5,
 .m 4 17]
@[simp] def r182_6 : List AOp :=
 [.p 18 (.bin .add (.t 8) (.i 1)),
 .m 8 18]
def l182_0 : AC :=
 .seq (.ops r182_2)
 (.seq (.cond (.t 9) (.skip) (.exit 0))
   (.seq (.block 1 (.seq (.ops r182_3)
   (.seq (.ops r182_4)
     (.cond (.t 16) (.seq (.ops r182_5)
      (.ret)) (.skip)))))
  (.ops r182_6)))
@[simp] def r182_7 : List AOp :=
 [.p 4 (.mov (.c (.int .i64 (-1))))]
def c182 : AC :=
 .seq (.ops r182_0)
 (.seq (.seq (.ops r182_1)
  (.block 0 (.loop l182_0)))
   (.seq (.ops r182_7)
  (.ret)))
def a182 : AFn := { res := [.tmp 4], body := c182, keepA := false, keepR := false, pure := true }
theorem k182 : chkFn Tryz.prog Tryz.f182 a182 = true := by kernel_rfl
@[simp] def r183_0 : List AOp :=
 [.p 2 (.mov (.b false))]
@[simp] def r183_1 : List AOp :=
 [.m 5 0,
 .p 6 (.len (.t 5)),
 .p 7 (.mov (.i 0))]
@[simp] def r183_2 : List AOp :=
 [.p 8 (.bin .lss (.t 7) (.t 6))]
@[simp] def r183_3 : List AOp :=
 [.p 9 (.idxS 1 (.t 5) (.t 7)),
 .p 10 (.load false 1 (.t 9)),
 .m 4 10]
@[simp] def r183_4 : List AOp :=
 [.m 11 4,
 .p 12 (.len (.t 11)),
 .p 13 (.bin .gtr (.t 12) (.i 64)),
 .m 14 13,
 .q 15 14 false (.mov (.t 4)),
 .q 16 14 false (.call 157 [.t 15]),
 .q 17 14 false (.un .not (.t 16)),
 .p 18 (.pick (.t 14) (.b true) (.t 17))]
@[simp] def r183_5 : List AOp :=
 [.p 2 (.mov (.b false))]
@[simp] def r183_6 : List AOp :=
 [.p 19 (.bin .add (.t 7) (.i 1)),
 .m 7 19]
def l183_0 : AC :=
 .seq (.ops r183_2)
 (.seq (.cond (.t 8) (.skip) (.exit 0))
   (.seq (.block 1 (.seq (.ops r183_3)
   (.seq (.ops r183_4)
     (.cond (.t 18) (.seq (.ops r183_5)
      (.ret)) (.skip)))))
  (.ops r183_6)))
@[simp] def r183_7 : List AOp :=
 [.p 2 (.mov (.b true))]
def c183 : AC :=
 .seq (.ops r183_0)
 (.seq (.seq (.ops r183_1)
  (.block 0 (.loop l183_0)))
   (.seq (.ops r183_7)
  (.ret)))
def a183 : AFn := { res := [.tmp 2], body := c183, keepA := false, keepR := false, pure := true }
theorem k183 : chkFn Tryz.prog Tryz.f183 a183 = true := by kernel_rfl
@[simp] def r185_0 : List AOp :=
 [.p 4 (.mov (.i 0))]
@[simp] def r185_1 : List AOp :=
 [.m 6 0,
 .p 7 (.len (.t 6)),
 .p 8 (.mov (.i 0))]
@[simp] def r185_2 : List AOp :=
 [.p 9 (.bin .lss (.t 8) (.t 7))]
@[simp] def r185_3 : List AOp :=
 [.m 10 8,
 .m 5 10]
@[simp] def r185_4 : List AOp :=
 [.m 11 1,
 .m 12 0,
 .m 13 5,
 .p 14 (.idxS 2 (.t 12) (.t 13)),
 .p 15 (.load true 2 (.t 14)),
 .p 16 (.calld (.t 11) [.t 15])]
@[simp] def r185_5 : List AOp :=
 [.m 17 5,
 .m 4 17]
@[simp] def r185_6 : List AOp :=
 [.p 18 (.bin .add (.t 8) (.i 1)),
 .m 8 18]
def l185_0 : AC :=
 .seq (.ops r185_2)
 (.seq (.cond (.t 9) (.skip) (.exit 0))
   (.seq (.block 1 (.seq (.ops r185_3)
   (.seq (.ops r185_4)
     (.cond (.t 16) (.seq (.ops r185_5)
      (.ret)) (.skip)))))
  (.ops r185_6)))
@[simp] def r185_7 : List AOp :=
 [.p 4 (.mov (.c (.int .i64 (-1))))]
def c185 : AC :=
 .seq (.ops r185_0)
 (.seq (.seq (.ops r185_1)
  (.block 0 (.loop l185_0)))
   (.seq (.ops r185_7)
  (.ret)))
def a185 : AFn := { res := [.tmp 4], body := c185, keepA := false, keepR := false, pure := true }
theorem k185 : chkFn Tryz.prog Tryz.f185 a185 = true := by kernel_rfl
@[simp] def r186_0 : List AOp :=
 [.p 1 (.box false 3 (.t 0)),
 .p 2 (.alloc false [.lst .nil [], .lst .nil []]),
 .p 3 (.mov (.i 0))]
@[simp] def r186_1 : List AOp :=
 [.p 8 (.off 2 (.t 1)),
 .p 9 (.load false 1 (.t 8)),
 .p 10 (.len (.t 9)),
 .p 4 (.alloc true [.int .i64 0]),
 .n (.store 1 (.t 4) (.t 10))]
@[simp] def r186_2 : List AOp :=
 [.p 11 (.load false 1 (.t 4)),
 .p 12 (.bin .gtr (.t 11) (.i 64))]
@[simp] def r186_3 : List AOp :=
 [.p 13 (.build [.lst .nil [], .lst .nil []] []),
 .n (.store 2 (.t 2) (.t 13)),
 .p 3 (.mov (.i 5))]
@[simp] def r186_4 : List AOp :=
 [.p 5 (.mov (.c (.lst .nil [])))]
@[simp] def r186_5 : List AOp :=
 [.p 14 (.off 2 (.t 1)),
 .p 15 (.load false 1 (.t 14)),
 .p 16 (.len (.t 15)),
 .p 17 (.mov (.i 0))]
@[simp] def r186_6 : List AOp :=
 [.p 18 (.bin .lss (.t 17) (.t 16))]
@[simp] def r186_7 : List AOp :=
 [.p 19 (.idxS 5 (.t 15) (.t 17)),
 .p 20 (.load true 5 (.t 19)),
 .p 7 (.alloc false [.lst .nil [], .lst .nil [], .int .i64 0, .int .i64 0, .lst .nil []]),
 .n (.store 5 (.t 7) (.t 20))]
@[simp] def r186_8 : List AOp :=
 [.l 21 (.off 2 (.t 7)) 7 (.loc 7),
 .l 22 (.off 0 (.t 21)) 21 (.loc 7),
 .l 23 (.load false 1 (.t 22)) 22 (.loc 7),
 .p 24 (.call 203 [.t 23]),
 .l 25 (.off 2 (.t 7)) 7 (.loc 7),
 .l 26 (.off 2 (.t 25)) 25 (.loc 7),
 .l 27 (.load false 1 (.t 26)) 26 (.loc 7),
 .p 28 (.len (.t 27)),
 .p 29 (.bin .neq (.t 24) (.t 28)),
 .m 30 29,
 ⟨(some 31), (some (30, false)), .off 2 (.t 7), (some (.t 7, .loc 7))⟩,
 ⟨(some 32), (some (30, false)), .off 2 (.t 31), (some (.t 31, .loc 7))⟩,
 ⟨(some 33), (some (30, false)), .load false 1 (.t 32), (some (.t 32, .loc 7))⟩,
 .q 34 30 false (.mkfn 204 [] [.t 4]),
 .q 35 30 false (.call 82 [.t 33, .t 34]),
 .p 36 (.pick (.t 30) (.b true) (.t 35))]
def p186_8 : List (List Nat) := [[], [0], [1], [2], [], [4], [5], [6], [3, 7], [8, 3], [9], [10, 9], [11, 9], [9], [12, 13, 9, 9], [9, 14]]
@[simp] def r186_9 : List AOp :=
 [.p 37 (.build [.lst .nil [], .lst .nil []] []),
 .n (.store 2 (.t 2) (.t 37)),
 .p 3 (.mov (.i 5))]
@[simp] def r186_10 : List AOp :=
 [.m 38 5,
 .p 39 (.off 2 (.t 7)),
 .p 40 (.off 2 (.t 39)),
 .p 41 (.load false 1 (.t 40)),
 .p 42 (.call 207 [.t 41]),
 .p 43 (.call 206 [.t 42]),
 .p 44 (.call 205 [.t 43]),
 .p 45 (.bslice false 1 1 [.lst .nil []] [(0, .t 44)]),
 .p 46 (.append false 1 24 (.t 38) (.t 45)),
 .m 5 46]
@[simp] def r186_11 : List AOp :=
 [.p 47 (.bin .add (.t 17) (.i 1)),
 .m 17 47]
def l186_0 : AC :=
 .seq (.ops r186_6)
 (.seq (.cond (.t 18) (.skip) (.exit 0))
   (.seq (.block 1 (.seq (.ops r186_7)
   (.seq (.seq (.tops r186_8
       p186_8)
    (.cond (.t 36) (.seq (.ops r186_9)
     (.ret)) (.skip)))
     (.ops r186_10))))
  (.ops r186_11)))
@[simp] def r186_12 : List AOp :=
 [.m 48 5,
 .p 49 (.call 208 [.t 48]),
 .p 50 (.ext (.t 49) 0),
 .p 51 (.ext (.t 49) 1),
 .n (.store 2 (.t 2) (.t 50)),
 .m 3 51]
def c186 : AC :=
 .seq (.ops r186_0)
 (.seq (.ops r186_1)
   (.seq (.seq (.ops r186_2)
    (.cond (.t 12) (.seq (.ops r186_3)
     (.ret)) (.skip)))
  (.seq (.ops r186_4)
    (.seq (.seq (.ops r186_5)
     (.block 0 (.loop l186_0)))
   (.seq (.ops r186_12)
     (.ret))))))
def a186 : AFn := { res := [.cell 2 2 true, .tmp 3], body := c186, keepA := false, keepR := true, pure := true }
theorem k186 : chkFn Tryz.prog Tryz.f186 a186 = true := by kernel_rfl
@[simp] def r187_0 : List AOp :=
 [.p 2 (.box false 2 (.t 0)),
 .p 4 (.mov (.c (.lst .nil [])))]
@[simp] def r187_1 : List AOp :=
 [.p 16 (.load true 2 (.t 2)),
 .m 17 1,
 .p 18 (.call 209 [.t 16, .t 17]),
 .m 5 18]
@[simp] def r187_2 : List AOp :=
 [.m 19 5,
 .p 20 (.len (.t 19)),
 .p 21 (.bin .eql (.t 20) (.i 0))]
@[simp] def r187_3 : List AOp :=
 [.p 4 (.mov (.c (.lst .nil [])))]
@[simp] def r187_4 : List AOp :=
 [.p 22 (.off 0 (.t 2)),
 .p 23 (.load false 1 (.t 22)),
 .p 24 (.len (.t 23)),
 .m 6 24]
@[simp] def r187_5 : List AOp :=
 [.p 25 (.bslice false 1 1 [.int .i64 0] [(0, .c (.int .i64 (-2)))]),
 .m 26 6,
 .p 27 (.call 210 [.t 25, .t 26]),
 .m 28 6,
 .p 29 (.mkslice true 1 8 [.int .i64 0] (.t 28) (.t 28)),
 .m 7 27,
 .m 8 29]
def p187_5 : List (List Nat) := [[], [], [0, 1], [], [3, 3], [2, 2, 0, 1, 2], [4, 5, 0, 1, 2, 3, 4, 5]]
@[simp] def r187_6 : List AOp :=
 [.m 30 5,
 .p 31 (.len (.t 30)),
 .p 32 (.mov (.i 0))]
@[simp] def r187_7 : List AOp :=
 [.p 33 (.bin .lss (.t 32) (.t 31))]
@[simp] def r187_8 : List AOp :=
 [.m 34 32,
 .p 35 (.idxS 1 (.t 30) (.t 32)),
 .p 36 (.load false 1 (.t 35)),
 .m 9 34,
 .m 10 36]
@[simp] def r187_9 : List AOp :=
 [.m 37 8,
 .m 38 10,
 .m 39 9,
 .p 40 (.idxS 1 (.t 37) (.t 38)),
 .n (.store 1 (.t 40) (.t 39))]
@[simp] def r187_10 : List AOp :=
 [.p 41 (.bin .add (.t 32) (.i 1)),
 .m 32 41]
def l187_0 : AC :=
 .seq (.ops r187_7)
 (.seq (.cond (.t 33) (.skip) (.exit 0))
   (.seq (.block 1 (.seq (.ops r187_8)
   (.ops r187_9)))
  (.ops r187_10)))
@[simp] def r187_11 : List AOp :=
 [.m 42 7,
 .m 43 1,
 .m 44 1,
 .p 45 (.idxS 1 (.t 42) (.t 43)),
 .n (.store 1 (.t 45) (.t 44))]
@[simp] def r187_12 : List AOp :=
 [.m 46 5,
 .p 47 (.slice 1 (.t 46) (some (.i 1)) none none),
 .p 48 (.len (.t 47)),
 .p 49 (.mov (.i 0))]
@[simp] def r187_13 : List AOp :=
 [.p 50 (.bin .lss (.t 49) (.t 48))]
@[simp] def r187_14 : List AOp :=
 [.p 51 (.idxS 1 (.t 47) (.t 49)),
 .p 52 (.load false 1 (.t 51)),
 .m 12 52]
@[simp] def r187_15 : List AOp :=
 [.p 13 (.mov (.c (.int .i64 (-2))))]
@[simp] def r187_16 : List AOp :=
 [.p 53 (.off 1 (.t 2)),
 .p 54 (.load false 1 (.t 53)),
 .m 55 12,
 .p 56 (.idxS 1 (.t 54) (.t 55)),
 .p 57 (.load false 1 (.t 56)),
 .p 58 (.len (.t 57)),
 .p 59 (.mov (.i 0))]
@[simp] def r187_17 : List AOp :=
 [.p 60 (.bin .lss (.t 59) (.t 58))]
@[simp] def r187_18 : List AOp :=
 [.p 61 (.idxS 1 (.t 57) (.t 59)),
 .p 62 (.load false 1 (.t 61)),
 .m 15 62]
@[simp] def r187_20 : List AOp :=
 [.m 69 7,
 .m 70 15,
 .p 71 (.idxS 1 (.t 69) (.t 70)),
 .p 72 (.load false 1 (.t 71)),
 .p 73 (.bin .eql (.t 72) (.c (.int .i64 (-2)))),
 .m 68 73]
@[simp] def r187_21 : List AOp :=
 [.m 75 13,
 .p 76 (.bin .eql (.t 75) (.c (.int .i64 (-2)))),
 .m 74 76]
@[simp] def r187_22 : List AOp :=
 [.m 77 15,
 .m 13 77]
@[simp] def r187_19 : List AOp :=
 [.m 63 7,
 .m 64 8,
 .m 65 13,
 .m 66 15,
 .p 67 (.call 211 [.t 63, .t 64, .t 65, .t 66]),
 .m 13 67]
@[simp] def r187_23 : List AOp :=
 [.p 78 (.bin .add (.t 59) (.i 1)),
 .m 59 78]
def l187_2 : AC :=
 .seq (.ops r187_17)
 (.seq (.cond (.t 60) (.skip) (.exit 4))
   (.seq (.block 5 (.seq (.ops r187_18)
   (.block 6 (.seq (.ops r187_20)
    (.cond (.t 68) (.skip) (.seq (.ops r187_21)
     (.cond (.t 74) (.ops r187_22) (.ops r187_19))))))))
  (.ops r187_23)))
@[simp] def r187_24 : List AOp :=
 [.m 79 7,
 .m 80 12,
 .p 81 (.idxS 1 (.t 79) (.t 80)),
 .p 82 (.load false 1 (.t 81)),
 .m 83 13,
 .p 84 (.bin .neq (.t 82) (.t 83))]
@[simp] def r187_25 : List AOp :=
 [.m 85 7,
 .m 86 12,
 .m 87 13,
 .p 88 (.idxS 1 (.t 85) (.t 86)),
 .n (.store 1 (.t 88) (.t 87))]
@[simp] def r187_26 : List AOp :=
 [.p 89 (.bin .add (.t 49) (.i 1)),
 .m 49 89]
def l187_1 : AC :=
 .seq (.ops r187_13)
 (.seq (.cond (.t 50) (.skip) (.exit 2))
   (.seq (.block 3 (.seq (.ops r187_14)
   (.seq (.ops r187_15)
     (.seq (.seq (.ops r187_16)
      (.block 4 (.loop l187_2)))
    (.seq (.ops r187_24)
      (.cond (.t 84) (.seq (.ops r187_25)
       (.goto 0)) (.skip)))))))
  (.ops r187_26)))
@[simp] def r187_27 : List AOp :=
 [.m 90 7,
 .m 91 1,
 .p 92 (.idxS 1 (.t 90) (.t 91)),
 .n (.store 1 (.t 92) (.c (.int .i64 (-1))))]
@[simp] def r187_28 : List AOp :=
 [.m 93 7,
 .p 93 (.freeze (.t 93)),
 .m 4 93]
def c187 : AC :=
 .seq (.ops r187_0)
 (.scope (.seq (.ops r187_1)
  (.seq (.seq (.ops r187_2)
   (.cond (.t 21) (.seq (.ops r187_3)
    (.ret)) (.skip)))
    (.seq (.ops r187_4)
   (.seq (.dops r187_5
     p187_5)
     (.seq (.seq (.ops r187_6)
      (.block 0 (.loop l187_0)))
    (.seq (.ops r187_11)
      (.seq (.label 0)
     (.seq (.seq (.ops r187_12)
      (.block 2 (.loop l187_1)))
       (.seq (.ops r187_27)
      (.seq (.ops r187_28)
        (.ret)))))))))))
   (.seq (.ops r187_1)
  (.seq (.seq (.ops r187_2)
   (.cond (.t 21) (.seq (.ops r187_3)
    (.ret)) (.skip)))
    (.seq (.ops r187_4)
   (.seq (.dops r187_5
     p187_5)
     (.seq (.seq (.ops r187_6)
      (.block 0 (.loop l187_0)))
    (.seq (.ops r187_11)
      (.seq (.label 0)
     (.seq (.seq (.ops r187_12)
      (.block 2 (.loop l187_1)))
       (.seq (.ops r187_27)
      (.seq (.ops r187_28)
        (.ret))))))))))))
def a187 : AFn := { res := [.tmp 4], body := c187, keepA := true, keepR := false, pure := true }
theorem k187 : chkFn Tryz.prog Tryz.f187 a187 = true := by kernel_rfl
@[simp] def r188_0 : List AOp :=
 [.p 6 (.mov (.b false))]
@[simp] def r188_1 : List AOp :=
 [.m 7 0,
 .m 8 1,
 .m 9 2,
 .p 10 (.bslice false 2 1 [.int .i64 0] [(0, .t 8), (1, .t 9)]),
 .p 11 (.call 212 [.t 7, .t 10]),
 .m 12 11,
 .q 13 12 true (.mov (.t 0)),
 .q 14 12 true (.mov (.t 1)),
 .q 15 12 true (.mov (.t 2)),
 .q 16 12 true (.call 213 [.t 13, .t 14, .t 15]),
 .q 17 12 true (.mov (.t 1)),
 .q 18 12 true (.bin .eql (.t 16) (.t 17)),
 .p 19 (.pick (.t 12) (.t 18) (.b false)),
 .m 6 19]
def c188 : AC :=
 .seq (.ops r188_0)
 (.seq (.ops r188_1)
   (.ret))
def a188 : AFn := { res := [.tmp 6], body := c188, keepA := false, keepR := false, pure := true }
theorem k188 : chkFn Tryz.prog Tryz.f188 a188 = true := by kernel_rfl
@[simp] def r189_0 : List AOp :=
 [.p 2 (.mov (.b false))]
@[simp] def r189_1 : List AOp :=
 [.m 3 0,
 .p 4 (.call 127 [.t 3]),
 .p 5 (.un .not (.t 4)),
 .m 2 5]
def c189 : AC :=
 .seq (.ops r189_0)
 (.seq (.ops r189_1)
   (.ret))
def a189 : AFn := { res := [.tmp 2], body := c189, keepA := false, keepR := false, pure := true }
theorem k189 : chkFn Tryz.prog Tryz.f189 a189 = true := by kernel_rfl
@[simp] def r190_0 : List AOp :=
 [.p 4 (.mov (.b false))]
@[simp] def r190_1 : List AOp :=
 [.m 5 0,
 .m 6 1,
 .p 7 (.call 214 [.t 5, .t 6]),
 .p 8 (.bin .geq (.t 7) (.i 0)),
 .m 4 8]
def c190 : AC :=
 .seq (.ops r190_0)
 (.seq (.ops r190_1)
   (.ret))
def a190 : AFn := { res := [.tmp 4], body := c190, keepA := false, keepR := false, pure := true }
theorem k190 : chkFn Tryz.prog Tryz.f190 a190 = true := by kernel_rfl
@[simp] def r191_0 : List AOp :=
 [.p 1 (.box false 4 (.t 0)),
 .p 2 (.mov (.b false))]
@[simp] def r191_1 : List AOp :=
 [.p 3 (.off 0 (.t 1)),
 .p 4 (.load false 1 (.t 3)),
 .p 5 (.call 127 [.t 4]),
 .p 6 (.un .not (.t 5)),
 .m 2 6]
def c191 : AC :=
 .seq (.ops r191_0)
 (.seq (.ops r191_1)
   (.ret))
def a191 : AFn := { res := [.tmp 2], body := c191, keepA := false, keepR := false, pure := true }
theorem k191 : chkFn Tryz.prog Tryz.f191 a191 = true := by kernel_rfl
@[simp] def r192_0 : List AOp :=
 [.p 4 (.mov (.b false))]
@[simp] def r192_1 : List AOp :=
 [.m 5 0,
 .m 6 1,
 .p 7 (.call 215 [.t 5, .t 6]),
 .p 8 (.bin .geq (.t 7) (.i 0)),
 .m 4 8]
def c192 : AC :=
 .seq (.ops r192_0)
 (.seq (.ops r192_1)
   (.ret))
def a192 : AFn := { res := [.tmp 4], body := c192, keepA := false, keepR := false, pure := true }
theorem k192 : chkFn Tryz.prog Tryz.f192 a192 = true := by kernel_rfl
@[simp] def r193_0 : List AOp :=
 [.p 2 (.box false 6 (.t 0)),
 .p 3 (.mov (.b false))]
@[simp] def r193_1 : List AOp :=
 [.p 4 (.load false 1 (.t 1)),
 .p 5 (.load true 6 (.t 2)),
 .p 6 (.call 194 [.t 4, .t 5]),
 .p 7 (.un .not (.t 6)),
 .m 3 7]
def c193 : AC :=
 .seq (.ops r193_0)
 (.seq (.ops r193_1)
   (.ret))
def a193 : AFn := { res := [.tmp 3], body := c193, keepA := false, keepR := false, pure := true }
theorem k193 : chkFn Tryz.prog Tryz.f193 a193 = true := by kernel_rfl
@[simp] def r194_0 : List AOp :=
 [.p 3 (.box false 6 (.t 1)),
 .p 4 (.mov (.b false))]
@[simp] def r194_1 : List AOp :=
 [.m 6 0,
 .p 7 (.nilchk (.t 6)),
 .p 8 (.off 3 (.t 7)),
 .p 9 (.load false 1 (.t 8)),
 .p 10 (.bin .lss (.t 9) (.i 2)),
 .m 11 10,
 .q 12 11 true (.off 2 (.t 3)),
 .q 13 11 true (.load false 1 (.t 12)),
 .q 14 11 true (.bin .gtr (.t 13) (.i 1)),
 .q 15 11 true (.mov (.t 14)),
 .q 16 15 false (.off 0 (.t 3)),
 .q 17 15 false (.load false 1 (.t 16)),
 .q 18 15 false (.bin .gtr (.t 17) (.i 20)),
 .q 19 11 true (.pick (.t 15) (.b true) (.t 18)),
 .p 20 (.pick (.t 11) (.t 19) (.b false)),
 .m 5 20]
@[simp] def r194_2 : List AOp :=
 [.p 4 (.mov (.b false))]
@[simp] def r194_3 : List AOp :=
 [.m 22 0,
 .p 23 (.nilchk (.t 22)),
 .p 24 (.off 3 (.t 23)),
 .p 25 (.load false 1 (.t 24)),
 .p 26 (.bin .lss (.t 25) (.i 1)),
 .m 27 26,
 .q 28 27 true (.off 0 (.t 3)),
 .q 29 27 true (.load false 1 (.t 28)),
 .q 30 27 true (.bin .gtr (.t 29) (.i 17)),
 .p 31 (.pick (.t 27) (.t 30) (.b false)),
 .m 21 31]
@[simp] def r194_4 : List AOp :=
 [.p 4 (.mov (.b false))]
@[simp] def r194_5 : List AOp :=
 [.p 32 (.load true 6 (.t 3)),
 .p 33 (.call 216 [.t 32]),
 .m 4 33]
def c194 : AC :=
 .seq (.ops r194_0)
 (.seq (.block 0 (.seq (.ops r194_1)
    (.cond (.t 5) (.seq (.ops r194_2)
     (.ret)) (.seq (.ops r194_3)
     (.cond (.t 21) (.seq (.ops r194_4)
      (.ret)) (.skip))))))
   (.seq (.ops r194_5)
  (.ret)))
def a194 : AFn := { res := [.tmp 4], body := c194, keepA := false, keepR := false, pure := false }
theorem k194 : chkFn Tryz.prog Tryz.f194 a194 = true := by kernel_rfl
@[simp] def r195_0 : List AOp :=
 [.p 5 (.box false 4 (.t 2)),
 .p 6 (.mov (.b false))]
@[simp] def r195_1 : List AOp :=
 [.m 10 0,
 .p 11 (.nilchk (.t 10)),
 .p 12 (.off 7 (.t 11)),
 .p 13 (.load false 1 (.t 12)),
 .m 14 1,
 .p 15 (.lookup .i64 (.agg [.int .i64 0, .int .i64 0, .int .i64 0, .int .i64 0]) true (.t 13) (.t 14)),
 .m 9 15,
 .p 16 (.ext (.t 9) 0),
 .p 17 (.ext (.t 9) 1),
 .p 7 (.alloc false [.int .i64 0, .int .i64 0, .int .i64 0, .int .i64 0]),
 .n (.store 4 (.t 7) (.t 16)),
 .m 8 17]
@[simp] def r195_2 : List AOp :=
 [.m 18 0,
 .p 19 (.nilchk (.t 18)),
 .p 20 (.off 7 (.t 19)),
 .p 21 (.load false 1 (.t 20)),
 .m 22 1,
 .l 23 (.load true 4 (.t 5)) 5 (.loc 5),
 .n (.mapset .i64 (.t 21) (.t 22) (.t 23))]
def p195_2 : List (List Nat) := [[], [0], [1], [2], [], [], [3, 4, 5, 0, 1, 2, 3, 4, 5]]
@[simp] def r195_3 : List AOp :=
 [.m 24 8,
 .p 25 (.un .not (.t 24)),
 .m 6 25]
def c195 : AC :=
 .seq (.ops r195_0)
 (.seq (.ops r195_1)
   (.seq (.tops r195_2
     p195_2)
  (.seq (.ops r195_3)
    (.ret))))
def a195 : AFn := { res := [.tmp 6], body := c195, keepA := false, keepR := false, pure := false }
theorem k195 : chkFn Tryz.prog Tryz.f195 a195 = true := by kernel_rfl
@[simp] def r196_0 : List AOp :=
 [.p 2 (.alloc false [.int .i64 0, .int .i64 0])]
@[simp] def r196_1 : List AOp :=
 [.m 3 0,
 .p 4 (.build [.int .i64 0, .int .i64 0] [(0, 1, .t 3), (1, 1, .i 1)]),
 .n (.store 2 (.t 2) (.t 4))]
def c196 : AC :=
 .seq (.ops r196_0)
 (.seq (.ops r196_1)
   (.ret))
def a196 : AFn := { res := [.cell 2 2 true], body := c196, keepA := false, keepR := false, pure := true }
theorem k196 : chkFn Tryz.prog Tryz.f196 a196 = true := by kernel_rfl
@[simp] def r197_0 : List AOp :=
 [.p 1 (.box false 6 (.t 0)),
 .p 2 (.mov (.i 0)),
 .p 3 (.mov (.i 0))]
@[simp] def r197_1 : List AOp :=
 [.p 5 (.load true 6 (.t 1)),
 .p 6 (.call 216 [.t 5]),
 .p 7 (.un .not (.t 6)),
 .m 8 7,
 .q 9 8 false (.off 0 (.t 1)),
 .q 10 8 false (.load false 1 (.t 9)),
 .q 11 8 false (.call 217 [.t 10]),
 .p 12 (.pick (.t 8) (.b true) (.t 11)),
 .m 4 12]
@[simp] def r197_2 : List AOp :=
 [.p 2 (.mov (.i 0)),
 .p 3 (.mov (.i 0))]
@[simp] def r197_3 : List AOp :=
 [.p 14 (.off 0 (.t 1)),
 .p 15 (.load false 1 (.t 14)),
 .p 16 (.bin .geq (.t 15) (.i 10)),
 .m 17 16,
 .q 18 17 true (.off 0 (.t 1)),
 .q 19 17 true (.load false 1 (.t 18)),
 .q 20 17 true (.bin .leq (.t 19) (.i 12)),
 .p 21 (.pick (.t 17) (.t 20) (.b false)),
 .m 13 21]
@[simp] def r197_4 : List AOp :=
 [.p 2 (.mov (.i 1)),
 .p 3 (.mov (.i 1))]
@[simp] def r197_5 : List AOp :=
 [.p 23 (.off 0 (.t 1)),
 .p 24 (.load false 1 (.t 23)),
 .p 25 (.bin .eql (.t 24) (.i 22)),
 .m 22 25]
@[simp] def r197_6 : List AOp :=
 [.p 26 (.off 1 (.t 1)),
 .p 27 (.load false 1 (.t 26)),
 .m 2 27,
 .p 3 (.mov (.i 1))]
@[simp] def r197_7 : List AOp :=
 [.l 28 (.off 1 (.t 1)) 1 (.loc 1),
 .l 29 (.load false 1 (.t 28)) 28 (.loc 1),
 .l 30 (.off 2 (.t 1)) 1 (.loc 1),
 .l 31 (.load false 1 (.t 30)) 30 (.loc 1),
 .m 2 29,
 .m 3 31]
def p197_7 : List (List Nat) := [[], [0], [], [2], [1, 0, 1], [3, 4, 0, 1, 2, 3, 4]]
def c197 : AC :=
 .seq (.ops r197_0)
 (.seq (.block 0 (.seq (.ops r197_1)
    (.cond (.t 4) (.seq (.ops r197_2)
     (.ret)) (.seq (.ops r197_3)
     (.cond (.t 13) (.seq (.ops r197_4)
      (.ret)) (.seq (.ops r197_5)
      (.cond (.t 22) (.seq (.ops r197_6)
       (.ret)) (.skip))))))))
   (.seq (.tops r197_7
     p197_7)
  (.ret)))
def a197 : AFn := { res := [.tmp 2, .tmp 3], body := c197, keepA := false, keepR := false, pure := true }
theorem k197 : chkFn Tryz.prog Tryz.f197 a197 = true := by kernel_rfl
@[simp] def r198_0 : List AOp :=
 [.p 4 (.mov (.i 0))]
@[simp] def r198_1 : List AOp :=
 [.p 5 (.mov (.i 0))]
@[simp] def r198_2 : List AOp :=
 [.m 17 0,
 .p 18 (.nilchk (.t 17)),
 .p 19 (.off 0 (.t 18)),
 .p 20 (.off 2 (.t 19)),
 .p 21 (.load false 1 (.t 20)),
 .p 22 (.len (.t 21)),
 .p 23 (.mov (.i 0))]
@[simp] def r198_3 : List AOp :=
 [.p 24 (.bin .lss (.t 23) (.t 22))]
@[simp] def r198_4 : List AOp :=
 [.m 25 23,
 .p 26 (.idxS 5 (.t 21) (.t 23)),
 .p 27 (.load true 5 (.t 26)),
 .p 7 (.alloc false [.lst .nil [], .lst .nil [], .int .i64 0, .int .i64 0, .lst .nil []]),
 .m 6 25,
 .n (.store 5 (.t 7) (.t 27))]
@[simp] def r198_5 : List AOp :=
 [.p 28 (.off 0 (.t 7)),
 .p 29 (.load false 1 (.t 28)),
 .p 30 (.len (.t 29)),
 .p 31 (.mov (.i 0))]
@[simp] def r198_6 : List AOp :=
 [.p 32 (.bin .lss (.t 31) (.t 30))]
@[simp] def r198_7 : List AOp :=
 [.p 33 (.idxS 4 (.t 29) (.t 31)),
 .p 34 (.load true 4 (.t 33)),
 .p 9 (.alloc false [.int .i64 0, .int .i64 0, .lst .nil [], .lst .nil []]),
 .n (.store 4 (.t 9) (.t 34))]
@[simp] def r198_8 : List AOp :=
 [.p 35 (.off 3 (.t 9)),
 .p 36 (.load false 1 (.t 35)),
 .p 37 (.len (.t 36)),
 .p 38 (.mov (.i 0))]
@[simp] def r198_9 : List AOp :=
 [.p 39 (.bin .lss (.t 38) (.t 37))]
@[simp] def r198_10 : List AOp :=
 [.m 40 38,
 .p 41 (.idxS 1 (.t 36) (.t 38)),
 .p 42 (.load false 1 (.t 41)),
 .m 10 40,
 .m 11 42]
@[simp] def r198_11 : List AOp :=
 [.m 43 1,
 .m 44 11,
 .l 45 (.off 0 (.t 9)) 9 (.loc 9),
 .l 46 (.load false 1 (.t 45)) 45 (.loc 9),
 .p 47 (.call 196 [.t 46]),
 .l 48 (.off 2 (.t 9)) 9 (.loc 9),
 .l 49 (.load false 1 (.t 48)) 48 (.loc 9),
 .m 50 10,
 .l 51 (.idxS 1 (.t 49) (.t 50)) 49 .lst,
 .l 52 (.load false 1 (.t 51)) 51 .imm,
 .p 53 (.calld (.t 43) [.t 44, .t 47, .t 52, .i 1048576]),
 .m 5 53]
def p198_11 : List (List Nat) := [[], [], [], [2], [3], [], [5], [], [6, 7], [8], [0, 1, 4, 9, 4], [10, 10, 0, 1, 2, 3, 4, 5, 6, 7, 8, 9, 10]]
@[simp] def r198_12 : List AOp :=
 [.m 54 5,
 .p 55 (.bin .neq (.t 54) (.i 0))]
@[simp] def r198_13 : List AOp :=
 [.p 56 (.bin .add (.t 38) (.i 1)),
 .m 38 56]
def l198_2 : AC :=
 .seq (.ops r198_9)
 (.seq (.cond (.t 39) (.skip) (.exit 4))
   (.seq (.block 5 (.seq (.ops r198_10)
   (.seq (.tops r198_11
     p198_11)
     (.seq (.ops r198_12)
    (.cond (.t 55) (.goto 0) (.skip))))))
  (.ops r198_13)))
@[simp] def r198_14 : List AOp :=
 [.p 57 (.bin .add (.t 31) (.i 1)),
 .m 31 57]
def l198_1 : AC :=
 .seq (.ops r198_6)
 (.seq (.cond (.t 32) (.skip) (.exit 2))
   (.seq (.block 3 (.seq (.ops r198_7)
   (.seq (.ops r198_8)
     (.block 4 (.loop l198_2)))))
  (.ops r198_14)))
@[simp] def r198_15 : List AOp :=
 [.p 58 (.off 1 (.t 7)),
 .p 59 (.load false 1 (.t 58)),
 .p 60 (.len (.t 59)),
 .p 61 (.mov (.i 0))]
@[simp] def r198_16 : List AOp :=
 [.p 62 (.bin .lss (.t 61) (.t 60))]
@[simp] def r198_17 : List AOp :=
 [.m 63 61,
 .p 64 (.idxS 6 (.t 59) (.t 61)),
 .p 65 (.load true 6 (.t 64)),
 .p 13 (.alloc false [.int .i64 0, .int .i64 0, .int .i64 0, .int .i64 0, .lst .nil [], .int .u64 0]),
 .m 12 63,
 .n (.store 6 (.t 13) (.t 65))]
@[simp] def r198_18 : List AOp :=
 [.p 66 (.load true 6 (.t 13)),
 .p 67 (.call 218 [.t 66]),
 .p 68 (.len (.t 67)),
 .p 69 (.mov (.i 0))]
@[simp] def r198_19 : List AOp :=
 [.p 70 (.bin .lss (.t 69) (.t 68))]
@[simp] def r198_20 : List AOp :=
 [.m 71 69,
 .p 72 (.idxS 2 (.t 67) (.t 69)),
 .p 73 (.load true 2 (.t 72)),
 .p 15 (.alloc false [.int .i64 0, .int .i64 0]),
 .m 14 71,
 .n (.store 2 (.t 15) (.t 73))]
@[simp] def r198_21 : List AOp :=
 [.m 74 1,
 .l 75 (.off 4 (.t 13)) 13 (.loc 13),
 .l 76 (.load false 1 (.t 75)) 75 (.loc 13),
 .m 77 14,
 .l 78 (.idxS 1 (.t 76) (.t 77)) 76 .lst,
 .l 79 (.load false 1 (.t 78)) 78 .imm,
 .l 80 (.load true 2 (.t 15)) 15 (.loc 15),
 .m 81 6,
 .m 82 12,
 .p 83 (.calld (.t 74) [.t 79, .t 80, .t 81, .t 82]),
 .m 5 83]
def p198_21 : List (List Nat) := [[], [], [1], [], [2, 3], [4], [], [], [], [0, 5, 6, 7, 8], [9, 9, 0, 1, 2, 3, 4, 5, 6, 7, 8, 9]]
@[simp] def r198_22 : List AOp :=
 [.m 84 5,
 .p 85 (.bin .neq (.t 84) (.i 0))]
@[simp] def r198_23 : List AOp :=
 [.p 86 (.bin .add (.t 69) (.i 1)),
 .m 69 86]
def l198_4 : AC :=
 .seq (.ops r198_19)
 (.seq (.cond (.t 70) (.skip) (.exit 8))
   (.seq (.block 9 (.seq (.ops r198_20)
   (.seq (.tops r198_21
     p198_21)
     (.seq (.ops r198_22)
    (.cond (.t 85) (.goto 0) (.skip))))))
  (.ops r198_23)))
@[simp] def r198_24 : List AOp :=
 [.p 87 (.bin .add (.t 61) (.i 1)),
 .m 61 87]
def l198_3 : AC :=
 .seq (.ops r198_16)
 (.seq (.cond (.t 62) (.skip) (.exit 6))
   (.seq (.block 7 (.seq (.ops r198_17)
   (.seq (.ops r198_18)
     (.block 8 (.loop l198_4)))))
  (.ops r198_24)))
@[simp] def r198_25 : List AOp :=
 [.p 88 (.mkmap .i64),
 .m 89 0,
 .p 90 (.nilchk (.t 89)),
 .p 91 (.off 0 (.t 90)),
 .p 92 (.off 1 (.t 91)),
 .p 93 (.load false 1 (.t 92)),
 .n (.mapset .i64 (.t 88) (.i 0) (.t 93)),
 .n (.mapset .i64 (.t 88) (.i 2) (.i 1)),
 .m 94 88,
 .l 95 (.off 2 (.t 7)) 7 (.loc 7),
 .l 96 (.off 0 (.t 95)) 95 (.loc 7),
 .l 97 (.load false 1 (.t 96)) 96 (.loc 7),
 .p 98 (.lookup .i64 (.int .i64 0) false (.t 94) (.t 97)),
 .m 16 98]
def p198_25 : List (List Nat) := [[], [], [1], [2], [3], [4], [0, 5], [0], [0, 1, 2, 3, 4, 5, 6, 7], [], [9], [10], [8, 11], [12, 0, 1, 2, 3, 4, 5, 6, 7, 8, 9, 10, 11, 12]]
@[simp] def r198_26 : List AOp :=
 [.m 99 16,
 .p 100 (.bin .eql (.t 99) (.i 0))]
@[simp] def r198_27 : List AOp :=
 [.m 101 1,
 .l 102 (.off 2 (.t 7)) 7 (.loc 7),
 .l 103 (.off 1 (.t 102)) 102 (.loc 7),
 .l 104 (.load false 1 (.t 103)) 103 (.loc 7),
 .m 105 16,
 .p 106 (.call 196 [.t 105]),
 .m 107 6,
 .p 108 (.calld (.t 101) [.t 104, .t 106, .t 107, .i 1048576]),
 .m 5 108]
def p198_27 : List (List Nat) := [[], [], [1], [2], [], [4], [], [0, 3, 5, 6, 5], [7, 7, 0, 1, 2, 3, 4, 5, 6, 7]]
@[simp] def r198_28 : List AOp :=
 [.m 109 5,
 .p 110 (.bin .neq (.t 109) (.i 0))]
@[simp] def r198_29 : List AOp :=
 [.p 111 (.bin .add (.t 23) (.i 1)),
 .m 23 111]
def l198_0 : AC :=
 .seq (.ops r198_3)
 (.seq (.cond (.t 24) (.skip) (.exit 0))
   (.seq (.block 1 (.seq (.ops r198_4)
   (.seq (.seq (.ops r198_5)
    (.block 2 (.loop l198_1)))
     (.seq (.seq (.ops r198_15)
      (.block 6 (.loop l198_3)))
    (.seq (.dops r198_25
      p198_25)
      (.seq (.seq (.ops r198_26)
       (.cond (.t 100) (.exit 1) (.skip)))
     (.seq (.tops r198_27
       p198_27)
       (.seq (.ops r198_28)
      (.cond (.t 110) (.goto 0) (.skip))))))))))
  (.ops r198_29)))
@[simp] def r198_30 : List AOp :=
 [.m 112 5,
 .m 4 112]
def c198 : AC :=
 .seq (.ops r198_0)
 (.scope (.seq (.ops r198_1)
  (.seq (.seq (.ops r198_2)
   (.block 0 (.loop l198_0)))
    (.seq (.label 0)
   (.seq (.ops r198_30)
     (.ret)))))
   (.seq (.ops r198_1)
  (.seq (.seq (.ops r198_2)
   (.block 0 (.loop l198_0)))
    (.seq (.label 0)
   (.seq (.ops r198_30)
     (.ret))))))
def a198 : AFn := { res := [.tmp 4], body := c198, keepA := false, keepR := false, pure := false }
theorem k198 : chkFn Tryz.prog Tryz.f198 a198 = true := by kernel_rfl
@[simp] def r199_0 : List AOp :=
 [.p 6 (.box false 2 (.t 1)),
 .p 9 (.mov (.i 0))]
@[simp] def r199_1 : List AOp :=
 [.p 13 (.load false 1 (.t 4)),
 .p 14 (.nilchk (.t 13)),
 .p 15 (.off 7 (.t 14)),
 .p 16 (.load false 1 (.t 15)),
 .m 17 0,
 .p 18 (.lookup .i64 (.agg [.int .i64 0, .int .i64 0, .int .i64 0, .int .i64 0]) true (.t 16) (.t 17)),
 .m 12 18,
 .p 19 (.ext (.t 12) 0),
 .p 20 (.ext (.t 12) 1),
 .p 10 (.alloc false [.int .i64 0, .int .i64 0, .int .i64 0, .int .i64 0]),
 .n (.store 4 (.t 10) (.t 19)),
 .m 11 20]
@[simp] def r199_2 : List AOp :=
 [.m 21 11,
 .p 22 (.un .not (.t 21))]
@[simp] def r199_3 : List AOp :=
 [.p 9 (.mov (.i 7))]
@[simp] def r199_4 : List AOp :=
 [.p 9 (.mov (.i 0))]
def c199 : AC :=
 .seq (.ops r199_0)
 (.seq (.seq (.ops r199_1)
  (.seq (.ops r199_2)
    (.cond (.t 22) (.seq (.ops r199_3)
     (.ret)) (.skip))))
   (.seq (.ops r199_4)
  (.ret)))
def a199 : AFn := { res := [.tmp 9], body := c199, keepA := false, keepR := false, pure := true }
theorem k199 : chkFn Tryz.prog Tryz.f199 a199 = true := by kernel_rfl
@[simp] def r200_0 : List AOp :=
 [.p 6 (.box false 2 (.t 1)),
 .p 9 (.mov (.i 0))]
@[simp] def r200_1 : List AOp :=
 [.p 10 (.load false 1 (.t 4)),
 .p 11 (.nilchk (.t 10)),
 .p 12 (.off 7 (.t 11)),
 .p 13 (.load false 1 (.t 12)),
 .m 14 0,
 .p 15 (.lookup .i64 (.agg [.int .i64 0, .int .i64 0, .int .i64 0, .int .i64 0]) false (.t 13) (.t 14)),
 .p 16 (.fieldV true 2 2 (.t 15)),
 .l 17 (.load true 2 (.t 6)) 6 (.loc 6),
 .p 18 (.eq true (.agg 2) (.t 16) (.t 17))]
def p200_1 : List (List Nat) := [[], [0], [1], [2], [], [3, 4], [5], [], [6, 7]]
@[simp] def r200_2 : List AOp :=
 [.p 9 (.mov (.i 6))]
@[simp] def r200_3 : List AOp :=
 [.p 9 (.mov (.i 0))]
def c200 : AC :=
 .seq (.ops r200_0)
 (.seq (.seq (.tops r200_1
     p200_1)
  (.cond (.t 18) (.seq (.ops r200_2)
   (.ret)) (.skip)))
   (.seq (.ops r200_3)
  (.ret)))
def a200 : AFn := { res := [.tmp 9], body := c200, keepA := false, keepR := false, pure := true }
theorem k200 : chkFn Tryz.prog Tryz.f200 a200 = true := by kernel_rfl
@[simp] def r201_0 : List AOp :=
 [.p 6 (.box false 2 (.t 1)),
 .p 9 (.mov (.i 0))]
@[simp] def r201_1 : List AOp :=
 [.p 11 (.load false 1 (.t 4)),
 .p 12 (.nilchk (.t 11)),
 .p 13 (.off 7 (.t 12)),
 .p 14 (.load false 1 (.t 13)),
 .m 15 0,
 .p 16 (.lookup .i64 (.agg [.int .i64 0, .int .i64 0, .int .i64 0, .int .i64 0]) false (.t 14) (.t 15)),
 .p 10 (.alloc false [.int .i64 0, .int .i64 0, .int .i64 0, .int .i64 0]),
 .n (.store 4 (.t 10) (.t 16))]
@[simp] def r201_2 : List AOp :=
 [.p 18 (.off 0 (.t 10)),
 .p 19 (.load false 1 (.t 18)),
 .p 20 (.bin .lss (.t 19) (.i 0)),
 .m 17 20]
@[simp] def r201_3 : List AOp :=
 [.p 9 (.mov (.i 0))]
@[simp] def r201_4 : List AOp :=
 [.p 22 (.off 0 (.t 10)),
 .p 23 (.load false 1 (.t 22)),
 .m 24 2,
 .p 25 (.bin .eql (.t 23) (.t 24)),
 .m 26 25,
 .q 27 26 true (.off 1 (.t 10)),
 .q 28 26 true (.load false 1 (.t 27)),
 .q 29 26 true (.mov (.t 3)),
 .q 30 26 true (.bin .lss (.t 28) (.t 29)),
 .p 31 (.pick (.t 26) (.t 30) (.b false)),
 .m 21 31]
@[simp] def r201_5 : List AOp :=
 [.l 32 (.off 0 (.t 10)) 10 (.loc 10),
 .l 33 (.load false 1 (.t 32)) 32 (.loc 10),
 .m 34 2,
 .p 35 (.bin .neq (.t 33) (.t 34)),
 .m 36 35,
 .q 37 36 true (.load false 1 (.t 4)),
 .q 38 36 true (.nilchk (.t 37)),
 .q 39 36 true (.off 6 (.t 38)),
 .q 40 36 true (.load false 1 (.t 39)),
 ⟨(some 41), (some (36, true)), .off 0 (.t 10), (some (.t 10, .loc 10))⟩,
 ⟨(some 42), (some (36, true)), .load false 1 (.t 41), (some (.t 41, .loc 10))⟩,
 .q 43 36 true (.mov (.t 2)),
 .q 44 36 true (.call 188 [.t 40, .t 42, .t 43]),
 .p 45 (.pick (.t 36) (.t 44) (.b false)),
 .m 21 45]
def p201_5 : List (List Nat) := [[], [0], [], [1, 2], [3], [4], [5, 4], [6, 4], [7, 4], [4], [9, 4], [4], [8, 10, 11, 4, 4], [4, 12], [13, 12]]
@[simp] def r201_6 : List AOp :=
 [.p 9 (.mov (.i 0))]
@[simp] def r201_7 : List AOp :=
 [.p 9 (.mov (.i 7))]
def c201 : AC :=
 .seq (.ops r201_0)
 (.seq (.ops r201_1)
   (.seq (.block 0 (.seq (.ops r201_2)
   (.cond (.t 17) (.seq (.ops r201_3)
    (.ret)) (.seq (.seq (.ops r201_4)
      (.cond (.t 21) (.skip) (.tops r201_5
        p201_5)))
    (.cond (.t 21) (.seq (.ops r201_6)
     (.ret)) (.skip))))))
  (.seq (.ops r201_7)
    (.ret))))
def a201 : AFn := { res := [.tmp 9], body := c201, keepA := false, keepR := false, pure := true }
theorem k201 : chkFn Tryz.prog Tryz.f201 a201 = true := by kernel_rfl
@[simp] def r202_0 : List AOp :=
 [.p 4 (.mov (.u 0))]
@[simp] def r202_1 : List AOp :=
 [.m 5 1,
 .p 6 (.call 128 [.t 5]),
 .p 7 (.un .not (.t 6))]
@[simp] def r202_2 : List AOp :=
 [.p 4 (.mov (.u 0))]
@[simp] def r202_3 : List AOp :=
 [.m 8 1,
 .p 9 (.bin .eql (.t 8) (.i 64))]
@[simp] def r202_4 : List AOp :=
 [.m 10 0,
 .m 4 10]
@[simp] def r202_5 : List AOp :=
 [.m 11 0,
 .m 12 1,
 .p 13 (.conv .u64 (.t 12)),
 .p 14 (.bin .shl (.u 1) (.t 13)),
 .p 15 (.bin .rem (.t 11) (.t 14)),
 .m 4 15]
def c202 : AC :=
 .seq (.ops r202_0)
 (.seq (.seq (.ops r202_1)
  (.cond (.t 7) (.seq (.ops r202_2)
   (.ret)) (.skip)))
   (.seq (.seq (.ops r202_3)
    (.cond (.t 9) (.seq (.ops r202_4)
     (.ret)) (.skip)))
  (.seq (.ops r202_5)
    (.ret))))
def a202 : AFn := { res := [.tmp 4], body := c202, keepA := false, keepR := false, pure := true }
theorem k202 : chkFn Tryz.prog Tryz.f202 a202 = true := by kernel_rfl
@[simp] def r203_0 : List AOp :=
 [.p 2 (.mov (.i 0))]
@[simp] def r203_1 : List AOp :=
 [.m 3 0]
@[simp] def r203_2 : List AOp :=
 [.p 5 (.bin .eql (.t 3) (.i 0)),
 .m 4 5]
@[simp] def r203_3 : List AOp :=
 [.p 6 (.bin .eql (.t 3) (.i 3)),
 .m 4 6]
@[simp] def r203_4 : List AOp :=
 [.p 2 (.mov (.i 0))]
@[simp] def r203_5 : List AOp :=
 [.p 8 (.bin .eql (.t 3) (.i 1)),
 .m 7 8]
@[simp] def r203_6 : List AOp :=
 [.p 2 (.mov (.i 1))]
@[simp] def r203_7 : List AOp :=
 [.p 10 (.bin .eql (.t 3) (.i 2)),
 .m 9 10]
@[simp] def r203_8 : List AOp :=
 [.p 2 (.mov (.i 2))]
@[simp] def r203_9 : List AOp :=
 [.p 2 (.mov (.c (.int .i64 (-1))))]
def c203 : AC :=
 .seq (.ops r203_0)
 (.seq (.seq (.ops r203_1)
  (.block 0 (.seq (.seq (.ops r203_2)
     (.cond (.t 4) (.skip) (.ops r203_3)))
   (.cond (.t 4) (.seq (.ops r203_4)
    (.ret)) (.seq (.ops r203_5)
    (.cond (.t 7) (.seq (.ops r203_6)
     (.ret)) (.seq (.ops r203_7)
     (.cond (.t 9) (.seq (.ops r203_8)
      (.ret)) (.skip)))))))))
   (.seq (.ops r203_9)
  (.ret)))
def a203 : AFn := { res := [.tmp 2], body := c203, keepA := false, keepR := false, pure := true }
theorem k203 : chkFn Tryz.prog Tryz.f203 a203 = true := by kernel_rfl
@[simp] def r204_0 : List AOp :=
 [.p 3 (.mov (.b false))]
@[simp] def r204_1 : List AOp :=
 [.m 4 0,
 .p 5 (.bin .lss (.t 4) (.i 1)),
 .m 6 5,
 .q 7 6 false (.mov (.t 0)),
 .q 8 6 false (.load false 1 (.t 1)),
 .q 9 6 false (.bin .geq (.t 7) (.t 8)),
 .p 10 (.pick (.t 6) (.b true) (.t 9)),
 .m 3 10]
def c204 : AC :=
 .seq (.ops r204_0)
 (.seq (.ops r204_1)
   (.ret))
def a204 : AFn := { res := [.tmp 3], body := c204, keepA := false, keepR := false, pure := true }
theorem k204 : chkFn Tryz.prog Tryz.f204 a204 = true := by kernel_rfl
@[simp] def r205_0 : List AOp :=
 [.p 2 (.mov (.c (.lst .nil [])))]
@[simp] def r205_1 : List AOp :=
 [.m 6 0,
 .p 7 (.len (.t 6)),
 .p 8 (.bin .lss (.t 7) (.i 2))]
@[simp] def r205_2 : List AOp :=
 [.m 9 0,
 .m 2 9]
@[simp] def r205_3 : List AOp :=
 [.p 3 (.mov (.i 1))]
@[simp] def r205_4 : List AOp :=
 [.m 10 3,
 .m 11 0,
 .p 12 (.len (.t 11)),
 .p 13 (.bin .lss (.t 10) (.t 12))]
@[simp] def r205_6 : List AOp :=
 [.m 16 0,
 .m 17 3,
 .l 18 (.idxS 1 (.t 16) (.t 17)) 16 .lst,
 .l 19 (.load false 1 (.t 18)) 18 .imm,
 .m 20 0,
 .m 21 3,
 .p 22 (.bin .sub (.t 21) (.i 1)),
 .l 23 (.idxS 1 (.t 20) (.t 22)) 20 .lst,
 .l 24 (.load false 1 (.t 23)) 23 .imm,
 .p 25 (.bin .eql (.t 19) (.t 24))]
def p205_6 : List (List Nat) := [[], [], [0, 1], [2], [], [], [5], [4, 6], [7], [3, 8]]
@[simp] def r205_7 : List AOp :=
 [.m 26 0,
 .m 27 3,
 .p 28 (.slice 1 (.t 26) (some (.t 27)) none none),
 .m 4 28]
@[simp] def r205_8 : List AOp :=
 [.p 5 (.mov (.i 1))]
@[simp] def r205_9 : List AOp :=
 [.m 29 5,
 .m 30 4,
 .p 31 (.len (.t 30)),
 .p 32 (.bin .lss (.t 29) (.t 31))]
@[simp] def r205_11 : List AOp :=
 [.m 35 4,
 .m 36 5,
 .l 37 (.idxS 1 (.t 35) (.t 36)) 35 .lst,
 .l 38 (.load false 1 (.t 37)) 37 .imm,
 .m 39 4,
 .m 40 5,
 .p 41 (.bin .sub (.t 40) (.i 1)),
 .l 42 (.idxS 1 (.t 39) (.t 41)) 39 .lst,
 .l 43 (.load false 1 (.t 42)) 42 .imm,
 .p 44 (.bin .neq (.t 38) (.t 43))]
def p205_11 : List (List Nat) := [[], [], [0, 1], [2], [], [], [5], [4, 6], [7], [3, 8]]
@[simp] def r205_12 : List AOp :=
 [.m 45 0,
 .m 46 3,
 .m 47 4,
 .m 48 5,
 .p 49 (.idxS 1 (.t 47) (.t 48)),
 .p 50 (.load false 1 (.t 49)),
 .p 51 (.idxS 1 (.t 45) (.t 46)),
 .n (.store 1 (.t 51) (.t 50))]
@[simp] def r205_13 : List AOp :=
 [.m 52 3,
 .p 53 (.bin .add (.t 52) (.i 1)),
 .m 3 53]
@[simp] def r205_10 : List AOp :=
 [.m 33 5,
 .p 34 (.bin .add (.t 33) (.i 1)),
 .m 5 34]
def l205_1 : AC :=
 .seq (.seq (.ops r205_9)
   (.cond (.t 32) (.skip) (.exit 2)))
 (.seq (.block 3 (.seq (.tops r205_11
    p205_11)
    (.cond (.t 44) (.seq (.ops r205_12)
     (.ops r205_13)) (.skip))))
   (.ops r205_10))
@[simp] def r205_14 : List AOp :=
 [.m 54 0,
 .m 55 3,
 .p 56 (.slice 1 (.t 54) (some (.t 55)) none none),
 .n (.clear 1 [.int .i64 0] (.t 56))]
@[simp] def r205_15 : List AOp :=
 [.m 57 0,
 .m 58 3,
 .p 59 (.slice 1 (.t 57) none (some (.t 58)) none),
 .m 2 59]
@[simp] def r205_5 : List AOp :=
 [.m 14 3,
 .p 15 (.bin .add (.t 14) (.i 1)),
 .m 3 15]
def l205_0 : AC :=
 .seq (.seq (.ops r205_4)
   (.cond (.t 13) (.skip) (.exit 0)))
 (.seq (.block 1 (.seq (.tops r205_6
    p205_6)
    (.cond (.t 25) (.seq (.ops r205_7)
     (.seq (.seq (.ops r205_8)
      (.block 2 (.loop l205_1)))
    (.seq (.ops r205_14)
      (.seq (.ops r205_15)
     (.ret))))) (.skip))))
   (.ops r205_5))
@[simp] def r205_16 : List AOp :=
 [.m 60 0,
 .m 2 60]
def c205 : AC :=
 .seq (.ops r205_0)
 (.seq (.seq (.ops r205_1)
  (.cond (.t 8) (.seq (.ops r205_2)
   (.ret)) (.skip)))
   (.seq (.seq (.ops r205_3)
    (.block 0 (.loop l205_0)))
  (.seq (.ops r205_16)
    (.ret))))
def a205 : AFn := { res := [.tmp 2], body := c205, keepA := true, keepR := true, pure := false }
theorem k205 : chkFn Tryz.prog Tryz.f205 a205 = true := by kernel_rfl
@[simp] def r206_0 : List AOp :=
 [.p 2 (.mov (.c (.lst .nil [])))]
@[simp] def r206_1 : List AOp :=
 [.m 4 0,
 .p 5 (.call 219 [.t 4]),
 .m 3 5]
@[simp] def r206_2 : List AOp :=
 [.m 6 3,
 .p 7 (.call 220 [.t 6])]
@[simp] def r206_3 : List AOp :=
 [.m 8 3,
 .m 2 8]
def c206 : AC :=
 .seq (.ops r206_0)
 (.seq (.ops r206_1)
   (.seq (.ops r206_2)
  (.seq (.ops r206_3)
    (.ret))))
def a206 : AFn := { res := [.tmp 2], body := c206, keepA := false, keepR := true, pure := false }
theorem k206 : chkFn Tryz.prog Tryz.f206 a206 = true := by kernel_rfl
@[simp] def r207_0 : List AOp :=
 [.p 1 (.box true 1 (.t 0)),
 .p 2 (.mov (.c (.nilFn)))]
@[simp] def r207_1 : List AOp :=
 [.p 3 (.mkfn 221 [] [.t 1]),
 .m 2 3]
def c207 : AC :=
 .seq (.ops r207_0)
 (.seq (.ops r207_1)
   (.ret))
def a207 : AFn := { res := [.tmp 2], body := c207, keepA := false, keepR := false, pure := false }
theorem k207 : chkFn Tryz.prog Tryz.f207 a207 = true := by kernel_rfl
@[simp] def r208_0 : List AOp :=
 [.p 2 (.alloc false [.lst .nil [], .lst .nil []]),
 .p 3 (.mov (.i 0))]
@[simp] def r208_1 : List AOp :=
 [.m 8 0,
 .p 9 (.len (.t 8)),
 .p 4 (.alloc true [.int .i64 0]),
 .n (.store 1 (.t 4) (.t 9))]
@[simp] def r208_2 : List AOp :=
 [.p 10 (.load false 1 (.t 4)),
 .p 11 (.bin .lss (.t 10) (.i 1)),
 .m 12 11,
 .q 13 12 false (.load false 1 (.t 4)),
 .q 14 12 false (.bin .gtr (.t 13) (.i 64)),
 .p 15 (.pick (.t 12) (.b true) (.t 14)),
 .m 16 15,
 .q 17 16 false (.mov (.t 0)),
 .q 18 16 false (.mkfn 222 [] [.t 4]),
 .q 19 16 false (.call 149 [.t 17, .t 18]),
 .p 20 (.pick (.t 16) (.b true) (.t 19))]
@[simp] def r208_3 : List AOp :=
 [.p 21 (.build [.lst .nil [], .lst .nil []] []),
 .n (.store 2 (.t 2) (.t 21)),
 .p 3 (.mov (.i 5))]
@[simp] def r208_4 : List AOp :=
 [.p 22 (.load false 1 (.t 4)),
 .p 23 (.mkslice false 1 24 [.lst .nil []] (.i 0) (.t 22)),
 .m 5 23]
@[simp] def r208_5 : List AOp :=
 [.m 24 0,
 .p 25 (.len (.t 24)),
 .p 26 (.mov (.i 0))]
@[simp] def r208_6 : List AOp :=
 [.p 27 (.bin .lss (.t 26) (.t 25))]
@[simp] def r208_7 : List AOp :=
 [.p 28 (.idxS 1 (.t 24) (.t 26)),
 .p 29 (.load false 1 (.t 28)),
 .m 7 29]
@[simp] def r208_8 : List AOp :=
 [.m 30 5,
 .m 31 7,
 .p 32 (.call 85 [.t 31]),
 .p 33 (.bslice false 1 1 [.lst .nil []] [(0, .t 32)]),
 .p 34 (.append false 1 24 (.t 30) (.t 33)),
 .m 5 34]
@[simp] def r208_9 : List AOp :=
 [.p 35 (.bin .add (.t 26) (.i 1)),
 .m 26 35]
def l208_0 : AC :=
 .seq (.ops r208_6)
 (.seq (.cond (.t 27) (.skip) (.exit 0))
   (.seq (.block 1 (.seq (.ops r208_7)
   (.ops r208_8)))
  (.ops r208_9)))
@[simp] def r208_10 : List AOp :=
 [.m 36 5,
 .p 36 (.freeze (.t 36)),
 .m 37 5,
 .p 38 (.call 224 [.t 37]),
 .p 39 (.build [.lst .nil [], .lst .nil []] [(0, 1, .t 36), (1, 1, .t 38)]),
 .n (.store 2 (.t 2) (.t 39)),
 .p 3 (.mov (.i 0))]
def c208 : AC :=
 .seq (.ops r208_0)
 (.seq (.ops r208_1)
   (.seq (.seq (.ops r208_2)
    (.cond (.t 20) (.seq (.ops r208_3)
     (.ret)) (.skip)))
  (.seq (.ops r208_4)
    (.seq (.seq (.ops r208_5)
     (.block 0 (.loop l208_0)))
   (.seq (.ops r208_10)
     (.ret))))))
def a208 : AFn := { res := [.cell 2 2 true, .tmp 3], body := c208, keepA := true, keepR := true, pure := true }
theorem k208 : chkFn Tryz.prog Tryz.f208 a208 = true := by kernel_rfl
@[simp] def r209_0 : List AOp :=
 [.p 2 (.box false 2 (.t 0)),
 .p 4 (.mov (.c (.lst .nil [])))]
@[simp] def r209_1 : List AOp :=
 [.p 11 (.load true 2 (.t 2)),
 .p 12 (.call 225 [.t 11]),
 .p 13 (.un .not (.t 12)),
 .m 14 13,
 .q 15 14 false (.mov (.t 1)),
 .q 16 14 false (.bin .lss (.t 15) (.i 0)),
 .p 17 (.pick (.t 14) (.b true) (.t 16)),
 .m 18 17,
 .q 19 18 false (.mov (.t 1)),
 .q 20 18 false (.off 0 (.t 2)),
 .q 21 18 false (.load false 1 (.t 20)),
 .q 22 18 false (.len (.t 21)),
 .q 23 18 false (.bin .geq (.t 19) (.t 22)),
 .p 24 (.pick (.t 18) (.b true) (.t 23))]
@[simp] def r209_2 : List AOp :=
 [.p 4 (.mov (.c (.lst .nil [])))]
@[simp] def r209_3 : List AOp :=
 [.p 5 (.alloc false (List.replicate 64 (.bool false)))]
@[simp] def r209_4 : List AOp :=
 [.p 6 (.alloc false (List.replicate 64 (.int .i64 0)))]
@[simp] def r209_5 : List AOp :=
 [.p 7 (.mov (.c (.lst .nil [])))]
@[simp] def r209_6 : List AOp :=
 [.m 25 1,
 .p 26 (.bslice false 1 1 [.int .i64 0] [(0, .t 25)]),
 .m 8 26]
@[simp] def r209_7 : List AOp :=
 [.m 27 1,
 .p 28 (.idxA 64 1 (.t 5) (.t 27)),
 .n (.store 1 (.t 28) (.b true))]
@[simp] def r209_8 : List AOp :=
 [.m 29 8,
 .m 30 8,
 .p 31 (.len (.t 30)),
 .p 32 (.bin .sub (.t 31) (.i 1)),
 .p 33 (.idxS 1 (.t 29) (.t 32)),
 .p 34 (.load false 1 (.t 33)),
 .m 9 34]
@[simp] def r209_9 : List AOp :=
 [.m 35 9,
 .l 36 (.idxA 64 1 (.t 6) (.t 35)) 6 (.loc 6),
 .l 37 (.load false 1 (.t 36)) 36 (.loc 6),
 .l 38 (.off 0 (.t 2)) 2 (.loc 2),
 .l 39 (.load false 1 (.t 38)) 38 (.loc 2),
 .m 40 9,
 .l 41 (.idxS 1 (.t 39) (.t 40)) 39 .lst,
 .l 42 (.load false 1 (.t 41)) 41 .imm,
 .p 43 (.len (.t 42)),
 .p 44 (.bin .lss (.t 37) (.t 43))]
def p209_9 : List (List Nat) := [[], [0], [1], [], [3], [], [4, 5], [6], [7], [2, 8]]
@[simp] def r209_10 : List AOp :=
 [.l 45 (.off 0 (.t 2)) 2 (.loc 2),
 .l 46 (.load false 1 (.t 45)) 45 (.loc 2),
 .m 47 9,
 .l 48 (.idxS 1 (.t 46) (.t 47)) 46 .lst,
 .l 49 (.load false 1 (.t 48)) 48 .imm,
 .m 50 9,
 .l 51 (.idxA 64 1 (.t 6) (.t 50)) 6 (.loc 6),
 .l 52 (.load false 1 (.t 51)) 51 (.loc 6),
 .l 53 (.idxS 1 (.t 49) (.t 52)) 49 .lst,
 .l 54 (.load false 1 (.t 53)) 53 .imm,
 .m 10 54]
def p209_10 : List (List Nat) := [[], [0], [], [1, 2], [3], [], [5], [6], [4, 7], [8], [9, 0, 1, 2, 3, 4, 5, 6, 7, 8, 9]]
@[simp] def r209_11 : List AOp :=
 [.m 55 9,
 .p 56 (.idxA 64 1 (.t 6) (.t 55)),
 .p 57 (.load false 1 (.t 56)),
 .p 58 (.bin .add (.t 57) (.i 1)),
 .p 59 (.idxA 64 1 (.t 6) (.t 55)),
 .n (.store 1 (.t 59) (.t 58))]
@[simp] def r209_12 : List AOp :=
 [.m 60 10,
 .p 61 (.idxA 64 1 (.t 5) (.t 60)),
 .p 62 (.load false 1 (.t 61)),
 .p 63 (.un .not (.t 62))]
@[simp] def r209_13 : List AOp :=
 [.m 64 10,
 .p 65 (.idxA 64 1 (.t 5) (.t 64)),
 .n (.store 1 (.t 65) (.b true))]
@[simp] def r209_14 : List AOp :=
 [.m 66 8,
 .m 67 10,
 .p 68 (.bslice false 1 1 [.int .i64 0] [(0, .t 67)]),
 .p 69 (.append false 1 8 (.t 66) (.t 68)),
 .m 8 69]
def l209_0 : AC :=
 .seq (.seq (.tops r209_9
   p209_9)
   (.cond (.t 44) (.skip) (.exit 0)))
 (.block 1 (.seq (.tops r209_10
     p209_10)
  (.seq (.ops r209_11)
    (.seq (.ops r209_12)
   (.cond (.t 63) (.seq (.ops r209_13)
    (.seq (.ops r209_14)
      (.goto 0))) (.skip))))))
@[simp] def r209_15 : List AOp :=
 [.m 70 7,
 .m 71 9,
 .p 72 (.bslice false 1 1 [.int .i64 0] [(0, .t 71)]),
 .p 73 (.append false 1 8 (.t 70) (.t 72)),
 .m 7 73]
@[simp] def r209_16 : List AOp :=
 [.m 74 8,
 .m 75 8,
 .p 76 (.len (.t 75)),
 .p 77 (.bin .sub (.t 76) (.i 1)),
 .p 78 (.slice 1 (.t 74) none (some (.t 77)) none),
 .m 8 78]
@[simp] def r209_17 : List AOp :=
 [.m 79 8,
 .p 80 (.len (.t 79)),
 .p 81 (.bin .gtr (.t 80) (.i 0))]
@[simp] def r209_18 : List AOp :=
 [.m 82 7,
 .p 83 (.call 226 [.t 82])]
@[simp] def r209_19 : List AOp :=
 [.m 84 7,
 .m 4 84]
def c209 : AC :=
 .seq (.ops r209_0)
 (.scope (.seq (.seq (.ops r209_1)
    (.cond (.t 24) (.seq (.ops r209_2)
     (.ret)) (.skip)))
  (.seq (.ops r209_3)
    (.seq (.ops r209_4)
   (.seq (.ops r209_5)
     (.seq (.ops r209_6)
    (.seq (.ops r209_7)
      (.seq (.label 0)
     (.seq (.ops r209_8)
       (.seq (.block 0 (.loop l209_0))
      (.seq (.ops r209_15)
        (.seq (.ops r209_16)
       (.seq (.seq (.ops r209_17)
        (.cond (.t 81) (.goto 0) (.skip)))
         (.seq (.ops r209_18)
        (.seq (.ops r209_19)
          (.ret)))))))))))))))
   (.seq (.seq (.ops r209_1)
    (.cond (.t 24) (.seq (.ops r209_2)
     (.ret)) (.skip)))
  (.seq (.ops r209_3)
    (.seq (.ops r209_4)
   (.seq (.ops r209_5)
     (.seq (.ops r209_6)
    (.seq (.ops r209_7)
      (.seq (.label 0)
     (.seq (.ops r209_8)
       (.seq (.block 0 (.loop l209_0))
      (.seq (.ops r209_15)
        (.seq (.ops r209_16)
       (.seq (.seq (.ops r209_17)
        (.cond (.t 81) (.goto 0) (.skip)))
         (.seq (.ops r209_18)
        (.seq (.ops r209_19)
          (.ret))))))))))))))))
def a209 : AFn := { res := [.tmp 4], body := c209, keepA := true, keepR := false, pure := true }
theorem k209 : chkFn Tryz.prog Tryz.f209 a209 = true := by kernel_rfl
@[simp] def r210_0 : List AOp :=
 [.p 4 (.mov (.c (.lst .nil [])))]
@[simp] def r210_1 : List AOp :=
 [.m 9 1,
 .p 10 (.bin .lss (.t 9) (.i 0))]
@[simp] def r210_2 : List AOp :=
 [.p 11 (.bad),
 .n (.bad)]
@[simp] def r210_3 : List AOp :=
 [.m 13 0,
 .p 14 (.len (.t 13)),
 .p 15 (.conv .u64 (.t 14)),
 .m 16 1,
 .p 17 (.conv .u64 (.t 16)),
 .p 18 (.call 227 [.t 15, .t 17]),
 .m 12 18,
 .p 19 (.ext (.t 12) 0),
 .p 20 (.ext (.t 12) 1),
 .m 5 19,
 .m 6 20]
@[simp] def r210_4 : List AOp :=
 [.m 21 5,
 .p 22 (.bin .gtr (.t 21) (.u 0)),
 .m 23 22,
 .q 24 23 false (.mov (.t 6)),
 .q 25 23 false (.bin .gtr (.t 24) (.u 9223372036854775807)),
 .p 26 (.pick (.t 23) (.b true) (.t 25))]
@[simp] def r210_5 : List AOp :=
 [.p 27 (.bad),
 .n (.bad)]
@[simp] def r210_6 : List AOp :=
 [.m 28 6,
 .p 29 (.conv .i64 (.t 28)),
 .p 30 (.mkslice true 1 8 [.int .i64 0] (.t 29) (.t 29)),
 .m 7 30]
@[simp] def r210_7 : List AOp :=
 [.m 31 7,
 .m 32 0,
 .p 33 (.copy 1 (.t 31) (.t 32)),
 .m 8 33]
@[simp] def r210_8 : List AOp :=
 [.m 34 8,
 .m 35 7,
 .p 36 (.len (.t 35)),
 .p 37 (.bin .lss (.t 34) (.t 36))]
@[simp] def r210_9 : List AOp :=
 [.m 38 8,
 .m 39 7,
 .m 40 8,
 .l 41 (.slice 1 (.t 39) (some (.t 40)) none none) 39 .lst,
 .m 42 7,
 .m 43 8,
 .l 44 (.slice 1 (.t 42) none (some (.t 43)) none) 42 .lst,
 .p 45 (.copy 1 (.t 41) (.t 44)),
 .p 46 (.bin .add (.t 38) (.t 45)),
 .m 8 46]
def p210_9 : List (List Nat) := [[], [], [], [1, 2], [], [], [4, 5], [3, 6], [0, 7], [8, 7, 0, 1, 2, 3, 4, 5, 6, 7, 8]]
def l210_0 : AC :=
 .seq (.seq (.ops r210_8)
   (.cond (.t 37) (.skip) (.exit 0)))
 (.block 1 (.tops r210_9
   p210_9))
@[simp] def r210_10 : List AOp :=
 [.m 47 7,
 .m 4 47]
def c210 : AC :=
 .seq (.ops r210_0)
 (.seq (.seq (.ops r210_1)
  (.cond (.t 10) (.ops r210_2) (.skip)))
   (.seq (.ops r210_3)
  (.seq (.seq (.ops r210_4)
   (.cond (.t 26) (.ops r210_5) (.skip)))
    (.seq (.ops r210_6)
   (.seq (.ops r210_7)
     (.seq (.block 0 (.loop l210_0))
    (.seq (.ops r210_10)
      (.ret))))))))
def a210 : AFn := { res := [.tmp 4], body := c210, keepA := false, keepR := false, pure := false }
theorem k210 : chkFn Tryz.prog Tryz.f210 a210 = true := by kernel_rfl
@[simp] def r211_0 : List AOp :=
 [.p 8 (.mov (.i 0))]
@[simp] def r211_1 : List AOp :=
 [.m 9 2,
 .m 10 3,
 .p 11 (.bin .neq (.t 9) (.t 10))]
@[simp] def r211_2 : List AOp :=
 [.m 12 1,
 .m 13 2,
 .l 14 (.idxS 1 (.t 12) (.t 13)) 12 .lst,
 .l 15 (.load false 1 (.t 14)) 14 .imm,
 .m 16 1,
 .m 17 3,
 .l 18 (.idxS 1 (.t 16) (.t 17)) 16 .lst,
 .l 19 (.load false 1 (.t 18)) 18 .imm,
 .p 20 (.bin .gtr (.t 15) (.t 19))]
def p211_2 : List (List Nat) := [[], [], [0, 1], [2], [], [], [4, 5], [6], [3, 7]]
@[simp] def r211_3 : List AOp :=
 [.m 21 0,
 .m 22 2,
 .p 23 (.idxS 1 (.t 21) (.t 22)),
 .p 24 (.load false 1 (.t 23)),
 .m 2 24]
def l211_1 : AC :=
 .seq (.seq (.tops r211_2
   p211_2)
   (.cond (.t 20) (.skip) (.exit 2)))
 (.block 3 (.ops r211_3))
@[simp] def r211_4 : List AOp :=
 [.m 25 1,
 .m 26 3,
 .l 27 (.idxS 1 (.t 25) (.t 26)) 25 .lst,
 .l 28 (.load false 1 (.t 27)) 27 .imm,
 .m 29 1,
 .m 30 2,
 .l 31 (.idxS 1 (.t 29) (.t 30)) 29 .lst,
 .l 32 (.load false 1 (.t 31)) 31 .imm,
 .p 33 (.bin .gtr (.t 28) (.t 32))]
def p211_4 : List (List Nat) := [[], [], [0, 1], [2], [], [], [4, 5], [6], [3, 7]]
@[simp] def r211_5 : List AOp :=
 [.m 34 0,
 .m 35 3,
 .p 36 (.idxS 1 (.t 34) (.t 35)),
 .p 37 (.load false 1 (.t 36)),
 .m 3 37]
def l211_2 : AC :=
 .seq (.seq (.tops r211_4
   p211_4)
   (.cond (.t 33) (.skip) (.exit 4)))
 (.block 5 (.ops r211_5))
def l211_0 : AC :=
 .seq (.seq (.ops r211_1)
   (.cond (.t 11) (.skip) (.exit 0)))
 (.block 1 (.seq (.block 2 (.loop l211_1))
  (.block 4 (.loop l211_2))))
@[simp] def r211_6 : List AOp :=
 [.m 38 2,
 .m 8 38]
def c211 : AC :=
 .seq (.ops r211_0)
 (.seq (.block 0 (.loop l211_0))
   (.seq (.ops r211_6)
  (.ret)))
def a211 : AFn := { res := [.tmp 8], body := c211, keepA := false, keepR := false, pure := true }
theorem k211 : chkFn Tryz.prog Tryz.f211 a211 = true := by kernel_rfl
@[simp] def r212_0 : List AOp :=
 [.p 2 (.box true 1 (.t 0)),
 .p 4 (.mov (.b false))]
@[simp] def r212_1 : List AOp :=
 [.p 5 (.load false 1 (.t 2)),
 .p 6 (.call 228 [.t 5]),
 .m 7 6,
 .q 8 7 true (.mov (.t 1)),
 .q 9 7 true (.mkfn 229 [] [.t 2]),
 .q 10 7 true (.call 82 [.t 8, .t 9]),
 .q 11 7 true (.un .not (.t 10)),
 .p 12 (.pick (.t 7) (.t 11) (.b false)),
 .m 4 12]
def c212 : AC :=
 .seq (.ops r212_0)
 (.seq (.ops r212_1)
   (.ret))
def a212 : AFn := { res := [.tmp 4], body := c212, keepA := false, keepR := false, pure := true }
theorem k212 : chkFn Tryz.prog Tryz.f212 a212 = true := by kernel_rfl
@[simp] def r213_0 : List AOp :=
 [.p 6 (.mov (.i 0))]
@[simp] def r213_1 : List AOp :=
 [.m 7 0,
 .m 8 1,
 .m 9 2,
 .p 10 (.bslice false 2 1 [.int .i64 0] [(0, .t 8), (1, .t 9)]),
 .p 11 (.call 212 [.t 7, .t 10]),
 .p 12 (.un .not (.t 11))]
@[simp] def r213_2 : List AOp :=
 [.p 6 (.mov (.c (.int .i64 (-2))))]
@[simp] def r213_3 : List AOp :=
 [.m 13 1,
 .m 14 2,
 .p 15 (.bin .neq (.t 13) (.t 14))]
@[simp] def r213_4 : List AOp :=
 [.m 16 0,
 .m 17 1,
 .p 18 (.call 230 [.t 16, .t 17]),
 .m 19 0,
 .m 20 2,
 .p 21 (.call 230 [.t 19, .t 20]),
 .p 22 (.bin .geq (.t 18) (.t 21))]
@[simp] def r213_5 : List AOp :=
 [.m 23 0,
 .m 24 1,
 .p 25 (.idxS 1 (.t 23) (.t 24)),
 .p 26 (.load false 1 (.t 25)),
 .m 1 26]
@[simp] def r213_6 : List AOp :=
 [.m 27 0,
 .m 28 2,
 .p 29 (.idxS 1 (.t 27) (.t 28)),
 .p 30 (.load false 1 (.t 29)),
 .m 2 30]
def l213_0 : AC :=
 .seq (.seq (.ops r213_3)
   (.cond (.t 15) (.skip) (.exit 0)))
 (.block 1 (.seq (.ops r213_4)
  (.cond (.t 22) (.ops r213_5) (.ops r213_6))))
@[simp] def r213_7 : List AOp :=
 [.m 31 1,
 .m 6 31]
def c213 : AC :=
 .seq (.ops r213_0)
 (.seq (.seq (.ops r213_1)
  (.cond (.t 12) (.seq (.ops r213_2)
   (.ret)) (.skip)))
   (.seq (.block 0 (.loop l213_0))
  (.seq (.ops r213_7)
    (.ret))))
def a213 : AFn := { res := [.tmp 6], body := c213, keepA := false, keepR := false, pure := true }
theorem k213 : chkFn Tryz.prog Tryz.f213 a213 = true := by kernel_rfl
@[simp] def r214_0 : List AOp :=
 [.p 4 (.mov (.i 0))]
@[simp] def r214_1 : List AOp :=
 [.m 6 0,
 .p 7 (.len (.t 6)),
 .p 8 (.mov (.i 0))]
@[simp] def r214_2 : List AOp :=
 [.p 9 (.bin .lss (.t 8) (.t 7))]
@[simp] def r214_3 : List AOp :=
 [.m 10 8,
 .m 5 10]
@[simp] def r214_4 : List AOp :=
 [.m 11 1,
 .m 12 0,
 .m 13 5,
 .p 14 (.idxS 4 (.t 12) (.t 13)),
 .p 15 (.load true 4 (.t 14)),
 .p 16 (.calld (.t 11) [.t 15])]
@[simp] def r214_5 : List AOp :=
 [.m 17 5,
 .m 4 17]
@[simp] def r214_6 : List AOp :=
 [.p 18 (.bin .add (.t 8) (.i 1)),
 .m 8 18]
def l214_0 : AC :=
 .seq (.ops r214_2)
 (.seq (.cond (.t 9) (.skip) (.exit 0))
   (.seq (.block 1 (.seq (.ops r214_3)
   (.seq (.ops r214_4)
     (.cond (.t 16) (.seq (.ops r214_5)
      (.ret)) (.skip)))))
  (.ops r214_6)))
@[simp] def r214_7 : List AOp :=
 [.p 4 (.mov (.c (.int .i64 (-1))))]
def c214 : AC :=
 .seq (.ops r214_0)
 (.seq (.seq (.ops r214_1)
  (.block 0 (.loop l214_0)))
   (.seq (.ops r214_7)
  (.ret)))
def a214 : AFn := { res := [.tmp 4], body := c214, keepA := false, keepR := false, pure := true }
theorem k214 : chkFn Tryz.prog Tryz.f214 a214 = true := by kernel_rfl
@[simp] def r215_0 : List AOp :=
 [.p 4 (.mov (.i 0))]
@[simp] def r215_1 : List AOp :=
 [.m 6 0,
 .p 7 (.len (.t 6)),
 .p 8 (.mov (.i 0))]
@[simp] def r215_2 : List AOp :=
 [.p 9 (.bin .lss (.t 8) (.t 7))]
@[simp] def r215_3 : List AOp :=
 [.m 10 8,
 .m 5 10]
@[simp] def r215_4 : List AOp :=
 [.m 11 1,
 .m 12 0,
 .m 13 5,
 .p 14 (.idxS 6 (.t 12) (.t 13)),
 .p 15 (.load true 6 (.t 14)),
 .p 16 (.calld (.t 11) [.t 15])]
@[simp] def r215_5 : List AOp :=
 [.m 17 5,
 .m 4 17]
@[simp] def r215_6 : List AOp :=
 [.p 18 (.bin .add (.t 8) (.i 1)),
 .m 8 18]
def l215_0 : AC :=
 .seq (.ops r215_2)
 (.seq (.cond (.t 9) (.skip) (.exit 0))
   (.seq (.block 1 (.seq (.ops r215_3)
   (.seq (.ops r215_4)
     (.cond (.t 16) (.seq (.ops r215_5)
      (.ret)) (.skip)))))
  (.ops r215_6)))
@[simp] def r215_7 : List AOp :=
 [.p 4 (.mov (.c (.int .i64 (-1))))]
def c215 : AC :=
 .seq (.ops r215_0)
 (.seq (.seq (.ops r215_1)
  (.block 0 (.loop l215_0)))
   (.seq (.ops r215_7)
  (.ret)))
def a215 : AFn := { res := [.tmp 4], body := c215, keepA := false, keepR := false, pure := true }
theorem k215 : chkFn Tryz.prog Tryz.f215 a215 = true := by kernel_rfl
@[simp] def r216_0 : List AOp :=
 [.p 1 (.box false 6 (.t 0)),
 .p 2 (.mov (.b false))]
@[simp] def r216_1 : List AOp :=
 [.p 6 (.off 1 (.t 1)),
 .p 7 (.load false 1 (.t 6)),
 .p 8 (.off 2 (.t 1)),
 .p 9 (.load false 1 (.t 8)),
 .p 10 (.call 80 [.t 7, .t 9]),
 .p 11 (.un .not (.t 10))]
@[simp] def r216_2 : List AOp :=
 [.p 2 (.mov (.b false))]
@[simp] def r216_3 : List AOp :=
 [.p 13 (.load true 6 (.t 1)),
 .p 14 (.call 231 [.t 13]),
 .m 12 14,
 .p 15 (.ext (.t 12) 0),
 .p 16 (.ext (.t 12) 1),
 .m 3 15,
 .m 4 16]
@[simp] def r216_4 : List AOp :=
 [.p 17 (.off 3 (.t 1)),
 .p 18 (.load false 1 (.t 17)),
 .p 19 (.call 232 [.t 18]),
 .m 5 19]
@[simp] def r216_5 : List AOp :=
 [.p 20 (.off 0 (.t 1)),
 .p 21 (.load false 1 (.t 20)),
 .p 22 (.call 217 [.t 21])]
@[simp] def r216_6 : List AOp :=
 [.p 23 (.off 3 (.t 1)),
 .p 24 (.load false 1 (.t 23)),
 .p 25 (.bin .eql (.t 24) (.i 0)),
 .m 5 25]
@[simp] def r216_7 : List AOp :=
 [.m 26 4,
 .m 27 26,
 .q 28 27 true (.mov (.t 5)),
 .p 29 (.pick (.t 27) (.t 28) (.b false)),
 .m 30 29,
 .q 31 30 true (.mov (.t 3)),
 .q 32 30 true (.len (.t 31)),
 .q 33 30 true (.off 4 (.t 1)),
 .q 34 30 true (.load false 1 (.t 33)),
 .q 35 30 true (.len (.t 34)),
 .q 36 30 true (.bin .eql (.t 32) (.t 35)),
 .p 37 (.pick (.t 30) (.t 36) (.b false)),
 .m 38 37,
 .q 39 38 true (.off 4 (.t 1)),
 .q 40 38 true (.load false 1 (.t 39)),
 .q 41 38 true (.call 82 [.t 40, .c (.fn 233 [] [])]),
 .q 42 38 true (.un .not (.t 41)),
 .p 43 (.pick (.t 38) (.t 42) (.b false)),
 .m 2 43]
def c216 : AC :=
 .seq (.ops r216_0)
 (.seq (.seq (.ops r216_1)
  (.cond (.t 11) (.seq (.ops r216_2)
   (.ret)) (.skip)))
   (.seq (.ops r216_3)
  (.seq (.ops r216_4)
    (.seq (.seq (.ops r216_5)
     (.cond (.t 22) (.ops r216_6) (.skip)))
   (.seq (.ops r216_7)
     (.ret))))))
def a216 : AFn := { res := [.tmp 2], body := c216, keepA := false, keepR := false, pure := true }
theorem k216 : chkFn Tryz.prog Tryz.f216 a216 = true := by kernel_rfl
@[simp] def r217_0 : List AOp :=
 [.p 2 (.mov (.b false))]
@[simp] def r217_1 : List AOp :=
 [.m 3 0,
 .p 4 (.bin .eql (.t 3) (.i 17)),
 .m 5 4,
 .q 6 5 false (.mov (.t 0)),
 .q 7 5 false (.bin .eql (.t 6) (.i 19)),
 .p 8 (.pick (.t 5) (.b true) (.t 7)),
 .m 2 8]
def c217 : AC :=
 .seq (.ops r217_0)
 (.seq (.ops r217_1)
   (.ret))
def a217 : AFn := { res := [.tmp 2], body := c217, keepA := false, keepR := false, pure := true }
theorem k217 : chkFn Tryz.prog Tryz.f217 a217 = true := by kernel_rfl
@[simp] def r218_0 : List AOp :=
 [.p 1 (.box false 6 (.t 0)),
 .p 2 (.mov (.c (.lst .nil [])))]
@[simp] def r218_1 : List AOp :=
 [.p 5 (.load true 6 (.t 1)),
 .p 6 (.call 216 [.t 5]),
 .p 7 (.un .not (.t 6))]
@[simp] def r218_2 : List AOp :=
 [.p 2 (.mov (.c (.lst .nil [])))]
@[simp] def r218_3 : List AOp :=
 [.p 9 (.load true 6 (.t 1)),
 .p 10 (.call 231 [.t 9]),
 .m 8 10,
 .p 11 (.ext (.t 8) 0),
 .p 12 (.ext (.t 8) 1),
 .m 3 11,
 .m 4 12]
@[simp] def r218_4 : List AOp :=
 [.m 13 3,
 .m 2 13]
def c218 : AC :=
 .seq (.ops r218_0)
 (.seq (.seq (.ops r218_1)
  (.cond (.t 7) (.seq (.ops r218_2)
   (.ret)) (.skip)))
   (.seq (.ops r218_3)
  (.seq (.ops r218_4)
    (.ret))))
def a218 : AFn := { res := [.tmp 2], body := c218, keepA := false, keepR := false, pure := true }
theorem k218 : chkFn Tryz.prog Tryz.f218 a218 = true := by kernel_rfl
@[simp] def r219_0 : List AOp :=
 [.p 2 (.mov (.c (.lst .nil [])))]
@[simp] def r219_1 : List AOp :=
 [.m 3 0,
 .p 4 (.call 234 [.c (.lst .nil []), .t 3]),
 .m 2 4]
def c219 : AC :=
 .seq (.ops r219_0)
 (.seq (.ops r219_1)
   (.ret))
def a219 : AFn := { res := [.tmp 2], body := c219, keepA := false, keepR := true, pure := false }
theorem k219 : chkFn Tryz.prog Tryz.f219 a219 = true := by kernel_rfl
@[simp] def r220_0 : List AOp :=
 [.m 3 0,
 .p 4 (.len (.t 3)),
 .m 2 4]
@[simp] def r220_1 : List AOp :=
 [.m 5 0,
 .m 6 2,
 .m 7 2,
 .p 8 (.conv .u64 (.t 7)),
 .p 9 (.call 236 [.t 8]),
 .p 10 (.call 235 [.t 5, .i 0, .t 6, .t 9])]
def c220 : AC :=
 .seq (.ops r220_0)
 (.ops r220_1)
def a220 : AFn := { res := [], body := c220, keepA := false, keepR := false, pure := false }
theorem k220 : chkFn Tryz.prog Tryz.f220 a220 = true := by kernel_rfl
@[simp] def r221_0 : List AOp :=
 [.p 5 (.load false 1 (.t 1)),
 .p 6 (.len (.t 5)),
 .p 7 (.mov (.i 0))]
@[simp] def r221_1 : List AOp :=
 [.p 8 (.bin .lss (.t 7) (.t 6))]
@[simp] def r221_2 : List AOp :=
 [.p 9 (.idxS 1 (.t 5) (.t 7)),
 .p 10 (.load false 1 (.t 9)),
 .m 4 10]
@[simp] def r221_3 : List AOp :=
 [.m 11 0,
 .m 12 4,
 .p 13 (.calld (.t 11) [.t 12]),
 .p 14 (.un .not (.t 13))]
@[simp] def r221_4 : List AOp :=
 [.p 15 (.bin .add (.t 7) (.i 1)),
 .m 7 15]
def l221_0 : AC :=
 .seq (.ops r221_1)
 (.seq (.cond (.t 8) (.skip) (.exit 0))
   (.seq (.block 1 (.seq (.ops r221_2)
   (.seq (.ops r221_3)
     (.cond (.t 14) (.ret) (.skip)))))
  (.ops r221_4)))
def c221 : AC :=
 .seq (.ops r221_0)
 (.block 0 (.loop l221_0))
def a221 : AFn := { res := [], body := c221, keepA := false, keepR := false, pure := true }
theorem k221 : chkFn Tryz.prog Tryz.f221 a221 = true := by kernel_rfl
@[simp] def r222_0 : List AOp :=
 [.p 3 (.mov (.b false))]
@[simp] def r222_1 : List AOp :=
 [.m 4 0,
 .p 5 (.load false 1 (.t 1)),
 .p 6 (.call 223 [.t 4, .t 5]),
 .p 7 (.un .not (.t 6)),
 .m 3 7]
def c222 : AC :=
 .seq (.ops r222_0)
 (.seq (.ops r222_1)
   (.ret))
def a222 : AFn := { res := [.tmp 3], body := c222, keepA := false, keepR := false, pure := true }
theorem k222 : chkFn Tryz.prog Tryz.f222 a222 = true := by kernel_rfl
@[simp] def r223_0 : List AOp :=
 [.p 4 (.mov (.b false))]
@[simp] def r223_1 : List AOp :=
 [.p 5 (.mov (.c (.int .i64 (-1))))]
@[simp] def r223_2 : List AOp :=
 [.m 8 0,
 .p 9 (.len (.t 8)),
 .p 10 (.mov (.i 0))]
@[simp] def r223_3 : List AOp :=
 [.p 11 (.bin .lss (.t 10) (.t 9))]
@[simp] def r223_4 : List AOp :=
 [.p 12 (.idxS 1 (.t 8) (.t 10)),
 .p 13 (.load false 1 (.t 12)),
 .m 7 13]
@[simp] def r223_5 : List AOp :=
 [.m 14 7,
 .m 15 5,
 .p 16 (.bin .leq (.t 14) (.t 15)),
 .m 17 16,
 .q 18 17 false (.mov (.t 7)),
 .q 19 17 false (.mov (.t 1)),
 .q 20 17 false (.bin .geq (.t 18) (.t 19)),
 .p 21 (.pick (.t 17) (.b true) (.t 20))]
@[simp] def r223_6 : List AOp :=
 [.p 4 (.mov (.b false))]
@[simp] def r223_7 : List AOp :=
 [.m 22 7,
 .m 5 22]
@[simp] def r223_8 : List AOp :=
 [.p 23 (.bin .add (.t 10) (.i 1)),
 .m 10 23]
def l223_0 : AC :=
 .seq (.ops r223_3)
 (.seq (.cond (.t 11) (.skip) (.exit 0))
   (.seq (.block 1 (.seq (.ops r223_4)
   (.seq (.seq (.ops r223_5)
    (.cond (.t 21) (.seq (.ops r223_6)
     (.ret)) (.skip)))
     (.ops r223_7))))
  (.ops r223_8)))
@[simp] def r223_9 : List AOp :=
 [.p 4 (.mov (.b true))]
def c223 : AC :=
 .seq (.ops r223_0)
 (.seq (.ops r223_1)
   (.seq (.seq (.ops r223_2)
    (.block 0 (.loop l223_0)))
  (.seq (.ops r223_9)
    (.ret))))
def a223 : AFn := { res := [.tmp 4], body := c223, keepA := false, keepR := false, pure := true }
theorem k223 : chkFn Tryz.prog Tryz.f223 a223 = true := by kernel_rfl
@[simp] def r224_0 : List AOp :=
 [.p 2 (.mov (.c (.lst .nil [])))]
@[simp] def r224_1 : List AOp :=
 [.m 8 0,
 .p 9 (.len (.t 8)),
 .p 10 (.mkslice true 1 24 [.lst .nil []] (.t 9) (.t 9)),
 .m 3 10]
@[simp] def r224_2 : List AOp :=
 [.m 11 0,
 .p 12 (.len (.t 11)),
 .p 13 (.mov (.i 0))]
@[simp] def r224_3 : List AOp :=
 [.p 14 (.bin .lss (.t 13) (.t 12))]
@[simp] def r224_4 : List AOp :=
 [.m 15 13,
 .p 16 (.idxS 1 (.t 11) (.t 13)),
 .p 17 (.load false 1 (.t 16)),
 .m 4 15,
 .m 5 17]
@[simp] def r224_5 : List AOp :=
 [.m 18 5,
 .p 19 (.len (.t 18)),
 .p 20 (.mov (.i 0))]
@[simp] def r224_6 : List AOp :=
 [.p 21 (.bin .lss (.t 20) (.t 19))]
@[simp] def r224_7 : List AOp :=
 [.p 22 (.idxS 1 (.t 18) (.t 20)),
 .p 23 (.load false 1 (.t 22)),
 .m 7 23]
@[simp] def r224_8 : List AOp :=
 [.m 24 3,
 .m 25 7,
 .m 26 3,
 .m 27 7,
 .p 28 (.idxS 1 (.t 26) (.t 27)),
 .p 29 (.load false 1 (.t 28)),
 .m 30 4,
 .p 31 (.bslice false 1 1 [.int .i64 0] [(0, .t 30)]),
 .p 32 (.append false 1 8 (.t 29) (.t 31)),
 .p 33 (.idxS 1 (.t 24) (.t 25)),
 .n (.store 1 (.t 33) (.t 32))]
@[simp] def r224_9 : List AOp :=
 [.p 34 (.bin .add (.t 20) (.i 1)),
 .m 20 34]
def l224_1 : AC :=
 .seq (.ops r224_6)
 (.seq (.cond (.t 21) (.skip) (.exit 2))
   (.seq (.block 3 (.seq (.ops r224_7)
   (.ops r224_8)))
  (.ops r224_9)))
@[simp] def r224_10 : List AOp :=
 [.p 35 (.bin .add (.t 13) (.i 1)),
 .m 13 35]
def l224_0 : AC :=
 .seq (.ops r224_3)
 (.seq (.cond (.t 14) (.skip) (.exit 0))
   (.seq (.block 1 (.seq (.ops r224_4)
   (.seq (.ops r224_5)
     (.block 2 (.loop l224_1)))))
  (.ops r224_10)))
@[simp] def r224_11 : List AOp :=
 [.m 36 3,
 .p 36 (.freeze (.t 36)),
 .m 2 36]
def c224 : AC :=
 .seq (.ops r224_0)
 (.seq (.ops r224_1)
   (.seq (.seq (.ops r224_2)
    (.block 0 (.loop l224_0)))
  (.seq (.ops r224_11)
    (.ret))))
def a224 : AFn := { res := [.tmp 2], body := c224, keepA := false, keepR := false, pure := true }
theorem k224 : chkFn Tryz.prog Tryz.f224 a224 = true := by kernel_rfl
@[simp] def r225_0 : List AOp :=
 [.p 1 (.box false 2 (.t 0)),
 .p 2 (.mov (.b false))]
@[simp] def r225_1 : List AOp :=
 [.p 6 (.off 0 (.t 1)),
 .p 7 (.load false 1 (.t 6)),
 .p 8 (.call 208 [.t 7]),
 .m 5 8,
 .p 9 (.ext (.t 5) 0),
 .p 10 (.ext (.t 5) 1),
 .p 3 (.alloc false [.lst .nil [], .lst .nil []]),
 .n (.store 2 (.t 3) (.t 9)),
 .m 4 10]
@[simp] def r225_2 : List AOp :=
 [.m 11 4,
 .p 12 (.bin .eql (.t 11) (.i 0)),
 .m 13 12,
 .q 14 13 true (.off 1 (.t 3)),
 .q 15 13 true (.load false 1 (.t 14)),
 .q 16 13 true (.off 1 (.t 1)),
 .q 17 13 true (.load false 1 (.t 16)),
 .q 18 13 true (.call 237 [.t 15, .t 17, .c (.fn 130 [] [])]),
 .p 19 (.pick (.t 13) (.t 18) (.b false)),
 .m 2 19]
def c225 : AC :=
 .seq (.ops r225_0)
 (.seq (.ops r225_1)
   (.seq (.ops r225_2)
  (.ret)))
def a225 : AFn := { res := [.tmp 2], body := c225, keepA := true, keepR := false, pure := true }
theorem k225 : chkFn Tryz.prog Tryz.f225 a225 = true := by kernel_rfl
@[simp] def r226_0 : List AOp :=
 [.m 4 0,
 .p 5 (.len (.t 4)),
 .p 6 (.bin .sub (.t 5) (.i 1)),
 .p 2 (.mov (.i 0)),
 .m 3 6]
@[simp] def r226_1 : List AOp :=
 [.m 7 2,
 .m 8 3,
 .p 9 (.bin .lss (.t 7) (.t 8))]
@[simp] def r226_3 : List AOp :=
 [.m 14 0,
 .m 15 2,
 .m 16 0,
 .m 17 3,
 .m 18 0,
 .m 19 3,
 .l 20 (.idxS 1 (.t 18) (.t 19)) 18 .lst,
 .l 21 (.load false 1 (.t 20)) 20 .imm,
 .m 22 0,
 .m 23 2,
 .l 24 (.idxS 1 (.t 22) (.t 23)) 22 .lst,
 .l 25 (.load false 1 (.t 24)) 24 .imm,
 .l 26 (.idxS 1 (.t 14) (.t 15)) 14 .lst,
 .n (.store 1 (.t 26) (.t 21)),
 .l 27 (.idxS 1 (.t 16) (.t 17)) 16 .lst,
 .n (.store 1 (.t 27) (.t 25))]
def p226_3 : List (List Nat) := [[], [], [], [], [], [], [4, 5], [6], [], [], [8, 9], [10], [0, 1, 0, 1, 4, 5, 6, 7, 11], [12, 7, 0, 1, 4, 5, 6, 7, 11], [2, 3, 0, 1, 2, 3, 4, 5, 6, 7, 8, 9, 10, 11, 12, 13], [14, 11, 13, 0, 1, 2, 3, 4, 5, 6, 7, 8, 9, 10, 11, 12, 13]]
@[simp] def r226_2 : List AOp :=
 [.m 10 2,
 .p 11 (.bin .add (.t 10) (.i 1)),
 .m 12 3,
 .p 13 (.bin .sub (.t 12) (.i 1)),
 .m 2 11,
 .m 3 13]
def l226_0 : AC :=
 .seq (.seq (.ops r226_1)
   (.cond (.t 9) (.skip) (.exit 0)))
 (.seq (.block 1 (.tops r226_3
     p226_3))
   (.ops r226_2))
def c226 : AC :=
 .seq (.ops r226_0)
 (.block 0 (.loop l226_0))
def a226 : AFn := { res := [], body := c226, keepA := false, keepR := false, pure := false }
theorem k226 : chkFn Tryz.prog Tryz.f226 a226 = true := by kernel_rfl
@[simp] def r227_0 : List AOp :=
 [.p 4 (.mov (.u 0)),
 .p 5 (.mov (.u 0))]
@[simp] def r227_1 : List AOp :=
 [.m 11 0,
 .p 12 (.conv .u32 (.t 11)),
 .m 13 1,
 .p 14 (.conv .u32 (.t 13)),
 .p 15 (.call 238 [.t 12, .t 14]),
 .m 10 15,
 .p 16 (.ext (.t 10) 0),
 .p 17 (.ext (.t 10) 1),
 .m 6 16,
 .m 7 17]
@[simp] def r227_2 : List AOp :=
 [.m 18 6,
 .p 19 (.conv .u64 (.t 18)),
 .m 20 7,
 .p 21 (.conv .u64 (.t 20)),
 .m 4 19,
 .m 5 21]
@[simp] def r227_3 : List AOp :=
 [.m 23 0,
 .m 24 1,
 .p 25 (.call 239 [.t 23, .t 24]),
 .m 22 25,
 .p 26 (.ext (.t 22) 0),
 .p 27 (.ext (.t 22) 1),
 .m 8 26,
 .m 9 27]
@[simp] def r227_4 : List AOp :=
 [.m 28 8,
 .m 29 9,
 .m 4 28,
 .m 5 29]
def c227 : AC :=
 .seq (.ops r227_0)
 (.seq (.cond (.c (.bool false)) (.seq (.ops r227_1)
    (.seq (.ops r227_2)
   (.ret))) (.skip))
   (.seq (.ops r227_3)
  (.seq (.ops r227_4)
    (.ret))))
def a227 : AFn := { res := [.tmp 4, .tmp 5], body := c227, keepA := false, keepR := false, pure := true }
theorem k227 : chkFn Tryz.prog Tryz.f227 a227 = true := by kernel_rfl
@[simp] def r228_0 : List AOp :=
 [.p 2 (.mov (.b false))]
@[simp] def r228_1 : List AOp :=
 [.p 3 (.mov (.i 0))]
@[simp] def r228_2 : List AOp :=
 [.m 6 0,
 .p 7 (.len (.t 6)),
 .p 8 (.mov (.i 0))]
@[simp] def r228_3 : List AOp :=
 [.p 9 (.bin .lss (.t 8) (.t 7))]
@[simp] def r228_4 : List AOp :=
 [.m 10 8,
 .p 11 (.idxS 1 (.t 6) (.t 8)),
 .p 12 (.load false 1 (.t 11)),
 .m 4 10,
 .m 5 12]
@[simp] def r228_5 : List AOp :=
 [.m 13 5,
 .p 14 (.bin .eql (.t 13) (.c (.int .i64 (-1))))]
@[simp] def r228_6 : List AOp :=
 [.m 15 3,
 .p 16 (.bin .add (.t 15) (.i 1)),
 .m 3 16]
@[simp] def r228_7 : List AOp :=
 [.m 17 5,
 .p 18 (.bin .neq (.t 17) (.c (.int .i64 (-2)))),
 .m 19 18,
 .q 20 19 true (.mov (.t 0)),
 .q 21 19 true (.mov (.t 4)),
 .q 22 19 true (.call 230 [.t 20, .t 21]),
 .q 23 19 true (.bin .lss (.t 22) (.i 0)),
 .p 24 (.pick (.t 19) (.t 23) (.b false))]
@[simp] def r228_8 : List AOp :=
 [.p 2 (.mov (.b false))]
@[simp] def r228_9 : List AOp :=
 [.p 25 (.bin .add (.t 8) (.i 1)),
 .m 8 25]
def l228_0 : AC :=
 .seq (.ops r228_3)
 (.seq (.cond (.t 9) (.skip) (.exit 0))
   (.seq (.block 1 (.seq (.ops r228_4)
   (.seq (.seq (.ops r228_5)
    (.cond (.t 14) (.ops r228_6) (.skip)))
     (.seq (.ops r228_7)
    (.cond (.t 24) (.seq (.ops r228_8)
     (.ret)) (.skip))))))
  (.ops r228_9)))
@[simp] def r228_10 : List AOp :=
 [.m 26 3,
 .p 27 (.bin .eql (.t 26) (.i 1)),
 .m 2 27]
def c228 : AC :=
 .seq (.ops r228_0)
 (.seq (.ops r228_1)
   (.seq (.seq (.ops r228_2)
    (.block 0 (.loop l228_0)))
  (.seq (.ops r228_10)
    (.ret))))
def a228 : AFn := { res := [.tmp 2], body := c228, keepA := false, keepR := false, pure := true }
theorem k228 : chkFn Tryz.prog Tryz.f228 a228 = true := by kernel_rfl
@[simp] def r229_0 : List AOp :=
 [.p 3 (.mov (.b false))]
@[simp] def r229_1 : List AOp :=
 [.p 4 (.load false 1 (.t 1)),
 .m 5 0,
 .p 6 (.call 230 [.t 4, .t 5]),
 .p 7 (.bin .lss (.t 6) (.i 0)),
 .m 3 7]
def c229 : AC :=
 .seq (.ops r229_0)
 (.seq (.ops r229_1)
   (.ret))
def a229 : AFn := { res := [.tmp 3], body := c229, keepA := false, keepR := false, pure := true }
theorem k229 : chkFn Tryz.prog Tryz.f229 a229 = true := by kernel_rfl
@[simp] def r230_0 : List AOp :=
 [.p 4 (.mov (.i 0))]
@[simp] def r230_1 : List AOp :=
 [.m 6 0,
 .p 7 (.len (.t 6)),
 .p 8 (.mov (.i 0))]
@[simp] def r230_2 : List AOp :=
 [.p 9 (.bin .lss (.t 8) (.t 7))]
@[simp] def r230_3 : List AOp :=
 [.m 10 8,
 .m 5 10]
@[simp] def r230_4 : List AOp :=
 [.m 11 1,
 .p 12 (.bin .lss (.t 11) (.i 0)),
 .m 13 12,
 .q 14 13 false (.mov (.t 1)),
 .q 15 13 false (.mov (.t 0)),
 .q 16 13 false (.len (.t 15)),
 .q 17 13 false (.bin .geq (.t 14) (.t 16)),
 .p 18 (.pick (.t 13) (.b true) (.t 17))]
@[simp] def r230_5 : List AOp :=
 [.p 4 (.mov (.c (.int .i64 (-1))))]
@[simp] def r230_6 : List AOp :=
 [.m 19 0,
 .m 20 1,
 .p 21 (.idxS 1 (.t 19) (.t 20)),
 .p 22 (.load false 1 (.t 21)),
 .p 23 (.bin .eql (.t 22) (.c (.int .i64 (-1))))]
@[simp] def r230_7 : List AOp :=
 [.m 24 5,
 .m 4 24]
@[simp] def r230_8 : List AOp :=
 [.m 25 0,
 .m 26 1,
 .p 27 (.idxS 1 (.t 25) (.t 26)),
 .p 28 (.load false 1 (.t 27)),
 .m 1 28]
@[simp] def r230_9 : List AOp :=
 [.p 29 (.bin .add (.t 8) (.i 1)),
 .m 8 29]
def l230_0 : AC :=
 .seq (.ops r230_2)
 (.seq (.cond (.t 9) (.skip) (.exit 0))
   (.seq (.block 1 (.seq (.ops r230_3)
   (.seq (.seq (.ops r230_4)
    (.cond (.t 18) (.seq (.ops r230_5)
     (.ret)) (.skip)))
     (.seq (.seq (.ops r230_6)
      (.cond (.t 23) (.seq (.ops r230_7)
       (.ret)) (.skip)))
    (.ops r230_8)))))
  (.ops r230_9)))
@[simp] def r230_10 : List AOp :=
 [.p 4 (.mov (.c (.int .i64 (-1))))]
def c230 : AC :=
 .seq (.ops r230_0)
 (.seq (.seq (.ops r230_1)
  (.block 0 (.loop l230_0)))
   (.seq (.ops r230_10)
  (.ret)))
def a230 : AFn := { res := [.tmp 4], body := c230, keepA := false, keepR := false, pure := true }
theorem k230 : chkFn Tryz.prog Tryz.f230 a230 = true := by kernel_rfl
@[simp] def r231_0 : List AOp :=
 [.p 1 (.box false 6 (.t 0)),
 .p 2 (.mov (.c (.lst .nil []))),
 .p 3 (.mov (.b false))]
@[simp] def r231_1 : List AOp :=
 [.l 10 (.off 1 (.t 1)) 1 (.loc 1),
 .l 11 (.load false 1 (.t 10)) 10 (.loc 1),
 .l 12 (.off 2 (.t 1)) 1 (.loc 1),
 .l 13 (.load false 1 (.t 12)) 12 (.loc 1),
 .p 14 (.build [.int .i64 0, .int .i64 0] [(0, 1, .t 11), (1, 1, .t 13)]),
 .l 15 (.off 1 (.t 1)) 1 (.loc 1),
 .l 16 (.load false 1 (.t 15)) 15 (.loc 1),
 .p 17 (.build [.int .i64 0, .int .i64 0] [(0, 1, .t 16), (1, 1, .i 1)]),
 .p 18 (.build [.int .i64 0, .int .i64 0] [(0, 1, .i 1), (1, 1, .i 1)]),
 .p 19 (.build [.int .i64 0, .int .i64 0] [(0, 1, .i 64), (1, 1, .i 1)]),
 .p 4 (.alloc false [.int .i64 0, .int .i64 0]),
 .p 5 (.alloc false [.int .i64 0, .int .i64 0]),
 .p 6 (.alloc false [.int .i64 0, .int .i64 0]),
 .p 7 (.alloc false [.int .i64 0, .int .i64 0]),
 ⟨none, none, .store 2 (.t 4) (.t 14), (some (.t 4, .loc 4))⟩,
 ⟨none, none, .store 2 (.t 5) (.t 17), (some (.t 5, .loc 5))⟩,
 ⟨none, none, .store 2 (.t 6) (.t 18), (some (.t 6, .loc 6))⟩,
 ⟨none, none, .store 2 (.t 7) (.t 19), (some (.t 7, .loc 7))⟩]
def p231_1 : List (List Nat) := [[], [0], [], [2], [1, 3], [], [5], [6], [], [], [], [], [], [], [10, 4, 0, 1, 2, 3, 4, 10, 11, 12, 13], [11, 7, 14, 0, 1, 2, 3, 4, 5, 6, 7, 10, 11, 12, 13, 14], [12, 8, 15, 0, 1, 2, 3, 4, 5, 6, 7, 8, 10, 11, 12, 13, 14, 15], [13, 9, 16, 0, 1, 2, 3, 4, 5, 6, 7, 8, 9, 10, 11, 12, 13, 14, 15, 16]]
@[simp] def r231_2 : List AOp :=
 [.l 20 (.off 2 (.t 1)) 1 (.loc 1),
 .l 21 (.load false 1 (.t 20)) 20 (.loc 1),
 .p 22 (.bin .eql (.t 21) (.i 1)),
 .l 23 (.off 1 (.t 1)) 1 (.loc 1),
 .l 24 (.load false 1 (.t 23)) 23 (.loc 1),
 .p 25 (.bin .geq (.t 24) (.i 8)),
 .m 8 22,
 .m 9 25]
def p231_2 : List (List Nat) := [[], [0], [1], [], [3], [4], [2, 0, 1, 2], [5, 6, 0, 1, 2, 3, 4, 5, 6]]
@[simp] def r231_3 : List AOp :=
 [.p 26 (.off 0 (.t 1)),
 .p 27 (.load false 1 (.t 26))]
@[simp] def r231_4 : List AOp :=
 [.p 29 (.bin .eql (.t 27) (.i 0)),
 .m 28 29]
@[simp] def r231_5 : List AOp :=
 [.l 30 (.off 5 (.t 1)) 1 (.loc 1),
 .l 31 (.load false 1 (.t 30)) 30 (.loc 1),
 .l 32 (.off 1 (.t 1)) 1 (.loc 1),
 .l 33 (.load false 1 (.t 32)) 32 (.loc 1),
 .p 34 (.call 240 [.t 31, .t 33]),
 .l 35 (.off 5 (.t 1)) 1 (.loc 1),
 .l 36 (.load false 1 (.t 35)) 35 (.loc 1),
 .p 37 (.bin .eql (.t 34) (.t 36)),
 .p 2 (.mov (.c (.lst .nil []))),
 .m 3 37]
def p231_5 : List (List Nat) := [[], [0], [], [2], [1, 3], [], [5], [4, 6], [4], [7, 8, 0, 1, 2, 3, 4, 5, 6, 7, 8]]
@[simp] def r231_6 : List AOp :=
 [.p 39 (.bin .eql (.t 27) (.i 1)),
 .m 38 39]
@[simp] def r231_7 : List AOp :=
 [.p 40 (.bin .eql (.t 27) (.i 2)),
 .m 38 40]
@[simp] def r231_8 : List AOp :=
 [.p 41 (.bin .eql (.t 27) (.i 3)),
 .m 38 41]
@[simp] def r231_9 : List AOp :=
 [.p 42 (.bin .eql (.t 27) (.i 5)),
 .m 38 42]
@[simp] def r231_10 : List AOp :=
 [.p 43 (.bin .eql (.t 27) (.i 6)),
 .m 38 43]
@[simp] def r231_11 : List AOp :=
 [.p 44 (.bin .eql (.t 27) (.i 7)),
 .m 38 44]
@[simp] def r231_12 : List AOp :=
 [.p 45 (.bin .eql (.t 27) (.i 8)),
 .m 38 45]
@[simp] def r231_13 : List AOp :=
 [.p 46 (.bin .eql (.t 27) (.i 9)),
 .m 38 46]
@[simp] def r231_14 : List AOp :=
 [.l 47 (.load true 2 (.t 4)) 4 (.loc 4),
 .l 48 (.load true 2 (.t 4)) 4 (.loc 4),
 .p 49 (.bslice false 2 2 [.int .i64 0, .int .i64 0] [(0, .t 47), (1, .t 48)]),
 .p 50 (.call 241 [.t 49]),
 .l 51 (.off 5 (.t 1)) 1 (.loc 1),
 .l 52 (.load false 1 (.t 51)) 51 (.loc 1),
 .p 53 (.bin .eql (.t 52) (.u 0)),
 .m 2 50,
 .m 3 53]
def p231_14 : List (List Nat) := [[], [], [0, 1], [2], [], [4], [5], [3, 3, 0, 1, 2, 3], [6, 7, 0, 1, 2, 3, 4, 5, 6, 7]]
@[simp] def r231_15 : List AOp :=
 [.p 55 (.bin .eql (.t 27) (.i 4)),
 .m 54 55]
@[simp] def r231_16 : List AOp :=
 [.p 56 (.bin .eql (.t 27) (.i 10)),
 .m 54 56]
@[simp] def r231_17 : List AOp :=
 [.p 57 (.bin .eql (.t 27) (.i 11)),
 .m 54 57]
@[simp] def r231_18 : List AOp :=
 [.p 58 (.bin .eql (.t 27) (.i 12)),
 .m 54 58]
@[simp] def r231_19 : List AOp :=
 [.l 59 (.load true 2 (.t 4)) 4 (.loc 4),
 .l 60 (.load true 2 (.t 4)) 4 (.loc 4),
 .p 61 (.bslice false 2 2 [.int .i64 0, .int .i64 0] [(0, .t 59), (1, .t 60)]),
 .p 62 (.call 241 [.t 61]),
 .l 63 (.off 5 (.t 1)) 1 (.loc 1),
 .l 64 (.load false 1 (.t 63)) 63 (.loc 1),
 .p 65 (.bin .eql (.t 64) (.u 0)),
 .m 66 65,
 .q 67 66 true (.mov (.t 8)),
 .p 68 (.pick (.t 66) (.t 67) (.b false)),
 .m 2 62,
 .m 3 68]
def p231_19 : List (List Nat) := [[], [], [0, 1], [2], [], [4], [5], [6, 3], [7], [7, 8], [3, 7, 0, 1, 2, 3], [9, 10, 0, 1, 2, 3, 4, 5, 6, 7, 8, 9, 10]]
@[simp] def r231_20 : List AOp :=
 [.p 70 (.bin .eql (.t 27) (.i 13)),
 .m 69 70]
@[simp] def r231_21 : List AOp :=
 [.l 71 (.load true 2 (.t 6)) 6 (.loc 6),
 .l 72 (.load true 2 (.t 4)) 4 (.loc 4),
 .l 73 (.load true 2 (.t 4)) 4 (.loc 4),
 .p 74 (.bslice false 3 2 [.int .i64 0, .int .i64 0] [(0, .t 71), (1, .t 72), (2, .t 73)]),
 .p 75 (.call 241 [.t 74]),
 .l 76 (.off 5 (.t 1)) 1 (.loc 1),
 .l 77 (.load false 1 (.t 76)) 76 (.loc 1),
 .p 78 (.bin .eql (.t 77) (.u 0)),
 .m 2 75,
 .m 3 78]
def p231_21 : List (List Nat) := [[], [], [], [0, 1, 2], [3], [], [5], [6], [4, 4, 0, 1, 2, 3, 4], [7, 8, 0, 1, 2, 3, 4, 5, 6, 7, 8]]
@[simp] def r231_22 : List AOp :=
 [.p 80 (.bin .eql (.t 27) (.i 14)),
 .m 79 80]
@[simp] def r231_23 : List AOp :=
 [.p 81 (.off 5 (.t 1)),
 .p 82 (.load false 1 (.t 81)),
 .p 83 (.minmax false (.t 82) [.u 128]),
 .p 84 (.conv .i64 (.t 83)),
 .p 85 (.build [.int .i64 0, .int .i64 0] [(0, 1, .t 84), (1, 1, .i 1)]),
 .p 86 (.bslice false 1 2 [.int .i64 0, .int .i64 0] [(0, .t 85)]),
 .p 87 (.call 241 [.t 86]),
 .m 88 8,
 .m 89 88,
 .q 90 89 true (.off 5 (.t 1)),
 .q 91 89 true (.load false 1 (.t 90)),
 .q 92 89 true (.off 1 (.t 1)),
 .q 93 89 true (.load false 1 (.t 92)),
 .q 94 89 true (.conv .u64 (.t 93)),
 .q 95 89 true (.bin .lss (.t 91) (.t 94)),
 .p 96 (.pick (.t 89) (.t 95) (.b false)),
 .m 97 96,
 .q 98 97 true (.off 5 (.t 1)),
 .q 99 97 true (.load false 1 (.t 98)),
 .q 100 97 true (.conv .i64 (.t 99)),
 .q 101 97 true (.call 127 [.t 100]),
 .p 102 (.pick (.t 97) (.t 101) (.b false)),
 .m 2 87,
 .m 3 102]
@[simp] def r231_24 : List AOp :=
 [.p 104 (.bin .eql (.t 27) (.i 15)),
 .m 103 104]
@[simp] def r231_25 : List AOp :=
 [.p 105 (.off 5 (.t 1)),
 .p 106 (.load false 1 (.t 105)),
 .p 107 (.minmax false (.t 106) [.u 128]),
 .p 108 (.conv .i64 (.t 107)),
 .p 109 (.build [.int .i64 0, .int .i64 0] [(0, 1, .t 108), (1, 1, .i 1)]),
 .p 110 (.bslice false 1 2 [.int .i64 0, .int .i64 0] [(0, .t 109)]),
 .p 111 (.call 241 [.t 110]),
 .m 112 8,
 .m 113 112,
 .q 114 113 true (.off 5 (.t 1)),
 .q 115 113 true (.load false 1 (.t 114)),
 .q 116 113 true (.off 1 (.t 1)),
 .q 117 113 true (.load false 1 (.t 116)),
 .q 118 113 true (.conv .u64 (.t 117)),
 .q 119 113 true (.bin .gtr (.t 115) (.t 118)),
 .p 120 (.pick (.t 113) (.t 119) (.b false)),
 .m 121 120,
 .q 122 121 true (.off 5 (.t 1)),
 .q 123 121 true (.load false 1 (.t 122)),
 .q 124 121 true (.bin .leq (.t 123) (.u 64)),
 .p 125 (.pick (.t 121) (.t 124) (.b false)),
 .m 126 125,
 .q 127 126 true (.off 5 (.t 1)),
 .q 128 126 true (.load false 1 (.t 127)),
 .q 129 126 true (.conv .i64 (.t 128)),
 .q 130 126 true (.call 127 [.t 129]),
 .p 131 (.pick (.t 126) (.t 130) (.b false)),
 .m 2 111,
 .m 3 131]
@[simp] def r231_26 : List AOp :=
 [.p 133 (.bin .eql (.t 27) (.i 16)),
 .m 132 133]
@[simp] def r231_27 : List AOp :=
 [.l 134 (.load true 2 (.t 7)) 7 (.loc 7),
 .p 135 (.bslice false 1 2 [.int .i64 0, .int .i64 0] [(0, .t 134)]),
 .p 136 (.call 241 [.t 135]),
 .l 137 (.off 5 (.t 1)) 1 (.loc 1),
 .l 138 (.load false 1 (.t 137)) 137 (.loc 1),
 .p 139 (.bin .eql (.t 138) (.u 0)),
 .m 140 139,
 .q 141 140 true (.mov (.t 9)),
 .p 142 (.pick (.t 140) (.t 141) (.b false)),
 .m 2 136,
 .m 3 142]
def p231_27 : List (List Nat) := [[], [0], [1], [], [3], [4], [5, 2], [6], [6, 7], [2, 6, 0, 1, 2], [8, 9, 0, 1, 2, 3, 4, 5, 6, 7, 8, 9]]
@[simp] def r231_28 : List AOp :=
 [.p 144 (.bin .eql (.t 27) (.i 17)),
 .m 143 144]
@[simp] def r231_29 : List AOp :=
 [.l 145 (.load true 2 (.t 7)) 7 (.loc 7),
 .l 146 (.load true 2 (.t 4)) 4 (.loc 4),
 .p 147 (.bslice false 2 2 [.int .i64 0, .int .i64 0] [(0, .t 145), (1, .t 146)]),
 .p 148 (.call 241 [.t 147]),
 .l 149 (.off 5 (.t 1)) 1 (.loc 1),
 .l 150 (.load false 1 (.t 149)) 149 (.loc 1),
 .p 151 (.bin .eql (.t 150) (.u 0)),
 .m 152 151,
 .q 153 152 true (.mov (.t 9)),
 .p 154 (.pick (.t 152) (.t 153) (.b false)),
 .m 2 148,
 .m 3 154]
def p231_29 : List (List Nat) := [[], [], [0, 1], [2], [], [4], [5], [6, 3], [7], [7, 8], [3, 7, 0, 1, 2, 3], [9, 10, 0, 1, 2, 3, 4, 5, 6, 7, 8, 9, 10]]
@[simp] def r231_30 : List AOp :=
 [.p 156 (.bin .eql (.t 27) (.i 18)),
 .m 155 156]
@[simp] def r231_31 : List AOp :=
 [.p 157 (.bin .eql (.t 27) (.i 19)),
 .m 155 157]
@[simp] def r231_32 : List AOp :=
 [.l 158 (.load true 2 (.t 6)) 6 (.loc 6),
 .l 159 (.load true 2 (.t 7)) 7 (.loc 7),
 .l 160 (.load true 2 (.t 4)) 4 (.loc 4),
 .p 161 (.bslice false 3 2 [.int .i64 0, .int .i64 0] [(0, .t 158), (1, .t 159), (2, .t 160)]),
 .p 162 (.call 241 [.t 161]),
 .l 163 (.off 5 (.t 1)) 1 (.loc 1),
 .l 164 (.load false 1 (.t 163)) 163 (.loc 1),
 .p 165 (.bin .eql (.t 164) (.u 0)),
 .m 166 165,
 .q 167 166 true (.mov (.t 8)),
 .p 168 (.pick (.t 166) (.t 167) (.b false)),
 .m 169 168,
 .q 170 169 true (.mov (.t 9)),
 .p 171 (.pick (.t 169) (.t 170) (.b false)),
 .m 2 162,
 .m 3 171]
def p231_32 : List (List Nat) := [[], [], [], [0, 1, 2], [3], [], [5], [6], [7, 4], [8], [8, 9], [10, 8], [11], [11, 12], [4, 11, 0, 1, 2, 3, 4], [13, 14, 0, 1, 2, 3, 4, 5, 6, 7, 8, 9, 10, 11, 12, 13, 14]]
@[simp] def r231_33 : List AOp :=
 [.p 173 (.bin .eql (.t 27) (.i 20)),
 .m 172 173]
@[simp] def r231_34 : List AOp :=
 [.l 174 (.load true 2 (.t 6)) 6 (.loc 6),
 .l 175 (.load true 2 (.t 4)) 4 (.loc 4),
 .l 176 (.load true 2 (.t 4)) 4 (.loc 4),
 .l 177 (.load true 2 (.t 4)) 4 (.loc 4),
 .p 178 (.bslice false 4 2 [.int .i64 0, .int .i64 0] [(0, .t 174), (1, .t 175), (2, .t 176), (3, .t 177)]),
 .p 179 (.call 241 [.t 178]),
 .l 180 (.off 5 (.t 1)) 1 (.loc 1),
 .l 181 (.load false 1 (.t 180)) 180 (.loc 1),
 .p 182 (.bin .eql (.t 181) (.u 0)),
 .m 183 182,
 .q 184 183 true (.mov (.t 8)),
 .p 185 (.pick (.t 183) (.t 184) (.b false)),
 .m 2 179,
 .m 3 185]
def p231_34 : List (List Nat) := [[], [], [], [], [0, 1, 2, 3], [4], [], [6], [7], [8, 5], [9], [9, 10], [5, 9, 0, 1, 2, 3, 4, 5], [11, 12, 0, 1, 2, 3, 4, 5, 6, 7, 8, 9, 10, 11, 12]]
@[simp] def r231_35 : List AOp :=
 [.p 187 (.bin .eql (.t 27) (.i 21)),
 .m 186 187]
@[simp] def r231_36 : List AOp :=
 [.l 188 (.load true 2 (.t 5)) 5 (.loc 5),
 .p 189 (.bslice false 1 2 [.int .i64 0, .int .i64 0] [(0, .t 188)]),
 .p 190 (.call 241 [.t 189]),
 .l 191 (.off 2 (.t 1)) 1 (.loc 1),
 .l 192 (.load false 1 (.t 191)) 191 (.loc 1),
 .p 193 (.call 242 [.t 190, .t 192]),
 .l 194 (.off 5 (.t 1)) 1 (.loc 1),
 .l 195 (.load false 1 (.t 194)) 194 (.loc 1),
 .p 196 (.bin .eql (.t 195) (.u 0)),
 .m 197 196,
 .q 198 197 true (.mov (.t 8)),
 .q 199 197 true (.un .not (.t 198)),
 .p 200 (.pick (.t 197) (.t 199) (.b false)),
 .m 2 193,
 .m 3 200]
def p231_36 : List (List Nat) := [[], [0], [1], [], [3], [2, 4, 2], [], [6], [7], [8, 5], [9], [10, 9], [9, 11], [5, 9, 0, 1, 2, 3, 4, 5], [12, 13, 0, 1, 2, 3, 4, 5, 6, 7, 8, 9, 10, 11, 12, 13]]
@[simp] def r231_37 : List AOp :=
 [.p 202 (.bin .eql (.t 27) (.i 22)),
 .m 201 202]
@[simp] def r231_38 : List AOp :=
 [.l 203 (.load true 2 (.t 4)) 4 (.loc 4),
 .p 204 (.bslice false 1 2 [.int .i64 0, .int .i64 0] [(0, .t 203)]),
 .p 205 (.call 241 [.t 204]),
 .m 206 8,
 .p 207 (.un .not (.t 206)),
 .m 208 207,
 ⟨(some 209), (some (208, true)), .off 5 (.t 1), (some (.t 1, .loc 1))⟩,
 ⟨(some 210), (some (208, true)), .load false 1 (.t 209), (some (.t 209, .loc 1))⟩,
 ⟨(some 211), (some (208, true)), .off 2 (.t 1), (some (.t 1, .loc 1))⟩,
 ⟨(some 212), (some (208, true)), .load false 1 (.t 211), (some (.t 211, .loc 1))⟩,
 .q 213 208 true (.conv .u64 (.t 212)),
 .q 214 208 true (.bin .lss (.t 210) (.t 213)),
 .p 215 (.pick (.t 208) (.t 214) (.b false)),
 .m 2 205,
 .m 3 215]
def p231_38 : List (List Nat) := [[], [0], [1], [], [3], [4, 2], [5], [6, 5], [5], [8, 5], [9, 5], [7, 10, 5], [5, 11], [2, 5, 0, 1, 2], [12, 13, 0, 1, 2, 3, 4, 5, 6, 7, 8, 9, 10, 11, 12, 13]]
@[simp] def r231_39 : List AOp :=
 [.p 2 (.mov (.c (.lst .nil []))),
 .p 3 (.mov (.b false))]
def c231 : AC :=
 .seq (.ops r231_0)
 (.seq (.tops r231_1
   p231_1)
   (.seq (.tops r231_2
     p231_2)
  (.seq (.seq (.ops r231_3)
   (.block 0 (.seq (.ops r231_4)
    (.cond (.t 28) (.seq (.tops r231_5
        p231_5)
     (.ret)) (.seq (.seq (.ops r231_6)
       (.cond (.t 38) (.skip) (.seq (.ops r231_7)
        (.cond (.t 38) (.skip) (.seq (.ops r231_8)
         (.cond (.t 38) (.skip) (.seq (.ops r231_9)
          (.cond (.t 38) (.skip) (.seq (.ops r231_10)
           (.cond (.t 38) (.skip) (.seq (.ops r231_11)
            (.cond (.t 38) (.skip) (.seq (.ops r231_12)
             (.cond (.t 38) (.skip) (.ops r231_13)))))))))))))))
     (.cond (.t 38) (.seq (.tops r231_14
         p231_14)
      (.ret)) (.seq (.seq (.ops r231_15)
        (.cond (.t 54) (.skip) (.seq (.ops r231_16)
         (.cond (.t 54) (.skip) (.seq (.ops r231_17)
          (.cond (.t 54) (.skip) (.ops r231_18)))))))
      (.cond (.t 54) (.seq (.tops r231_19
          p231_19)
       (.ret)) (.seq (.ops r231_20)
       (.cond (.t 69) (.seq (.tops r231_21
           p231_21)
        (.ret)) (.seq (.ops r231_22)
        (.cond (.t 79) (.seq (.ops r231_23)
         (.ret)) (.seq (.ops r231_24)
         (.cond (.t 103) (.seq (.ops r231_25)
          (.ret)) (.seq (.ops r231_26)
          (.cond (.t 132) (.seq (.tops r231_27
              p231_27)
           (.ret)) (.seq (.ops r231_28)
           (.cond (.t 143) (.seq (.tops r231_29
               p231_29)
            (.ret)) (.seq (.seq (.ops r231_30)
              (.cond (.t 155) (.skip) (.ops r231_31)))
            (.cond (.t 155) (.seq (.tops r231_32
                p231_32)
             (.ret)) (.seq (.ops r231_33)
             (.cond (.t 172) (.seq (.tops r231_34
                 p231_34)
              (.ret)) (.seq (.ops r231_35)
              (.cond (.t 186) (.seq (.tops r231_36
                  p231_36)
               (.ret)) (.seq (.ops r231_37)
               (.cond (.t 201) (.seq (.tops r231_38
                   p231_38)
                (.ret)) (.skip)))))))))))))))))))))))))))
    (.seq (.ops r231_39)
   (.ret)))))
def a231 : AFn := { res := [.tmp 2, .tmp 3], body := c231, keepA := false, keepR := false, pure := true }
theorem k231 : chkFn Tryz.prog Tryz.f231 a231 = true := by kernel_rfl
@[simp] def r232_0 : List AOp :=
 [.p 2 (.mov (.b false))]
@[simp] def r232_1 : List AOp :=
 [.m 3 0,
 .p 4 (.bin .geq (.t 3) (.i 1)),
 .m 5 4,
 .q 6 5 true (.mov (.t 0)),
 .q 7 5 true (.bin .leq (.t 6) (.i 1023)),
 .p 8 (.pick (.t 5) (.t 7) (.b false)),
 .m 2 8]
def c232 : AC :=
 .seq (.ops r232_0)
 (.seq (.ops r232_1)
   (.ret))
def a232 : AFn := { res := [.tmp 2], body := c232, keepA := false, keepR := false, pure := true }
theorem k232 : chkFn Tryz.prog Tryz.f232 a232 = true := by kernel_rfl
@[simp] def r233_0 : List AOp :=
 [.p 2 (.mov (.b false))]
@[simp] def r233_1 : List AOp :=
 [.m 3 0,
 .p 4 (.call 232 [.t 3]),
 .p 5 (.un .not (.t 4)),
 .m 2 5]
def c233 : AC :=
 .seq (.ops r233_0)
 (.seq (.ops r233_1)
   (.ret))
def a233 : AFn := { res := [.tmp 2], body := c233, keepA := false, keepR := false, pure := true }
theorem k233 : chkFn Tryz.prog Tryz.f233 a233 = true := by kernel_rfl
@[simp] def r234_0 : List AOp :=
 [.p 2 (.box false 1 (.t 0)),
 .p 4 (.mov (.c (.lst .nil [])))]
@[simp] def r234_1 : List AOp :=
 [.m 6 1]
@[simp] def r234_4 : List AOp :=
 [.p 12 (.load false 1 (.t 2)),
 .m 4 12]
def c234 : AC :=
 .seq (.ops r234_0)
 (.seq (.seq (.ops r234_1)
  (.block 0 (.bad)))
   (.seq (.ops r234_4)
  (.ret)))
def a234 : AFn := { res := [.tmp 4], body := c234, keepA := false, keepR := false, pure := false }
theorem k234 : chkFn Tryz.prog Tryz.f234 a234 = true := by kernel_rfl
@[simp] def r235_0 : List AOp :=
 [.p 8 (.mov (.b true))]
@[simp] def r235_1 : List AOp :=
 [.p 9 (.mov (.b true))]
@[simp] def r235_2 : List AOp :=
 [.m 19 2,
 .m 20 1,
 .p 21 (.bin .sub (.t 19) (.t 20)),
 .m 10 21]
@[simp] def r235_3 : List AOp :=
 [.m 22 10,
 .p 23 (.bin .leq (.t 22) (.i 12))]
@[simp] def r235_4 : List AOp :=
 [.m 24 0,
 .m 25 1,
 .m 26 2,
 .p 27 (.call 243 [.t 24, .t 25, .t 26])]
@[simp] def r235_5 : List AOp :=
 [.m 28 3,
 .p 29 (.bin .eql (.t 28) (.i 0))]
@[simp] def r235_6 : List AOp :=
 [.m 30 0,
 .m 31 1,
 .m 32 2,
 .p 33 (.call 244 [.t 30, .t 31, .t 32])]
@[simp] def r235_7 : List AOp :=
 [.m 34 8,
 .p 35 (.un .not (.t 34))]
@[simp] def r235_8 : List AOp :=
 [.m 36 0,
 .m 37 1,
 .m 38 2,
 .p 39 (.call 245 [.t 36, .t 37, .t 38])]
@[simp] def r235_9 : List AOp :=
 [.m 40 3,
 .p 41 (.bin .sub (.t 40) (.i 1)),
 .m 3 41]
@[simp] def r235_10 : List AOp :=
 [.m 43 0,
 .m 44 1,
 .m 45 2,
 .p 46 (.call 246 [.t 43, .t 44, .t 45]),
 .m 42 46,
 .p 47 (.ext (.t 42) 0),
 .p 48 (.ext (.t 42) 1),
 .m 11 47,
 .m 12 48]
@[simp] def r235_11 : List AOp :=
 [.m 49 12,
 .p 50 (.bin .eql (.t 49) (.i 2))]
@[simp] def r235_12 : List AOp :=
 [.m 51 0,
 .m 52 1,
 .m 53 2,
 .p 54 (.call 247 [.t 51, .t 52, .t 53])]
@[simp] def r235_13 : List AOp :=
 [.m 55 2,
 .p 56 (.bin .sub (.t 55) (.i 1)),
 .m 57 11,
 .m 58 1,
 .p 59 (.bin .sub (.t 57) (.t 58)),
 .p 60 (.bin .sub (.t 56) (.t 59)),
 .m 11 60]
@[simp] def r235_14 : List AOp :=
 [.p 12 (.mov (.i 1))]
@[simp] def r235_15 : List AOp :=
 [.m 61 8,
 .m 62 61,
 .q 63 62 true (.mov (.t 9)),
 .p 64 (.pick (.t 62) (.t 63) (.b false)),
 .m 65 64,
 .q 66 65 true (.mov (.t 12)),
 .q 67 65 true (.bin .eql (.t 66) (.i 1)),
 .p 68 (.pick (.t 65) (.t 67) (.b false))]
@[simp] def r235_16 : List AOp :=
 [.m 69 0,
 .m 70 1,
 .m 71 2,
 .p 72 (.call 248 [.t 69, .t 70, .t 71])]
@[simp] def r235_17 : List AOp :=
 [.m 73 1,
 .p 74 (.bin .gtr (.t 73) (.i 0)),
 .m 75 74,
 .q 76 75 true (.mov (.t 0)),
 .q 77 75 true (.mov (.t 1)),
 .q 78 75 true (.bin .sub (.t 77) (.i 1)),
 ⟨(some 79), (some (75, true)), .idxS 1 (.t 76) (.t 78), (some (.t 76, .lst))⟩,
 ⟨(some 80), (some (75, true)), .load false 1 (.t 79), (some (.t 79, .imm))⟩,
 .q 81 75 true (.mov (.t 0)),
 .q 82 75 true (.mov (.t 11)),
 ⟨(some 83), (some (75, true)), .idxS 1 (.t 81) (.t 82), (some (.t 81, .lst))⟩,
 ⟨(some 84), (some (75, true)), .load false 1 (.t 83), (some (.t 83, .imm))⟩,
 .q 85 75 true (.call 249 [.t 80, .t 84]),
 .q 86 75 true (.un .not (.t 85)),
 .p 87 (.pick (.t 75) (.t 86) (.b false))]
def p235_17 : List (List Nat) := [[], [0], [1], [2], [2], [4, 2], [3, 5, 2], [6, 2], [2], [2], [8, 9, 2], [10, 2], [7, 11, 2, 2], [12, 2], [2, 13]]
@[simp] def r235_18 : List AOp :=
 [.m 88 0,
 .m 89 1,
 .m 90 2,
 .m 91 11,
 .p 92 (.call 250 [.t 88, .t 89, .t 90, .t 91]),
 .m 13 92]
@[simp] def r235_19 : List AOp :=
 [.m 93 13,
 .m 1 93]
@[simp] def r235_20 : List AOp :=
 [.m 95 0,
 .m 96 1,
 .m 97 2,
 .m 98 11,
 .p 99 (.call 251 [.t 95, .t 96, .t 97, .t 98]),
 .m 94 99,
 .p 100 (.ext (.t 94) 0),
 .p 101 (.ext (.t 94) 1),
 .m 14 100,
 .m 15 101]
@[simp] def r235_21 : List AOp :=
 [.m 102 15,
 .m 9 102]
@[simp] def r235_22 : List AOp :=
 [.m 103 14,
 .m 104 1,
 .p 105 (.bin .sub (.t 103) (.t 104)),
 .m 106 2,
 .m 107 14,
 .p 108 (.bin .sub (.t 106) (.t 107)),
 .m 16 105,
 .m 17 108]
@[simp] def r235_23 : List AOp :=
 [.m 109 10,
 .p 110 (.bin .quo (.t 109) (.i 8)),
 .m 18 110]
@[simp] def r235_24 : List AOp :=
 [.m 111 16,
 .m 112 17,
 .p 113 (.bin .lss (.t 111) (.t 112))]
@[simp] def r235_25 : List AOp :=
 [.m 114 16,
 .m 115 18,
 .p 116 (.bin .geq (.t 114) (.t 115)),
 .m 8 116]
@[simp] def r235_26 : List AOp :=
 [.m 117 0,
 .m 118 1,
 .m 119 14,
 .m 120 3,
 .p 121 (.call 235 [.t 117, .t 118, .t 119, .t 120])]
@[simp] def r235_27 : List AOp :=
 [.m 122 14,
 .p 123 (.bin .add (.t 122) (.i 1)),
 .m 1 123]
@[simp] def r235_28 : List AOp :=
 [.m 124 17,
 .m 125 18,
 .p 126 (.bin .geq (.t 124) (.t 125)),
 .m 8 126]
@[simp] def r235_29 : List AOp :=
 [.m 127 0,
 .m 128 14,
 .p 129 (.bin .add (.t 128) (.i 1)),
 .m 130 2,
 .m 131 3,
 .p 132 (.call 235 [.t 127, .t 129, .t 130, .t 131])]
@[simp] def r235_30 : List AOp :=
 [.m 133 14,
 .m 2 133]
def l235_0 : AC :=
 .block 1 (.seq (.ops r235_2)
   (.seq (.seq (.ops r235_3)
    (.cond (.t 23) (.seq (.ops r235_4)
     (.ret)) (.skip)))
  (.seq (.seq (.ops r235_5)
   (.cond (.t 29) (.seq (.ops r235_6)
    (.ret)) (.skip)))
    (.seq (.seq (.ops r235_7)
     (.cond (.t 35) (.seq (.ops r235_8)
      (.ops r235_9)) (.skip)))
   (.seq (.ops r235_10)
     (.seq (.seq (.ops r235_11)
      (.cond (.t 50) (.seq (.ops r235_12)
       (.seq (.ops r235_13)
      (.ops r235_14))) (.skip)))
    (.seq (.seq (.ops r235_15)
     (.cond (.t 68) (.seq (.ops r235_16)
      (.cond (.t 72) (.ret) (.skip))) (.skip)))
      (.seq (.seq (.tops r235_17
       p235_17)
       (.cond (.t 87) (.seq (.ops r235_18)
        (.seq (.ops r235_19)
       (.exit 1))) (.skip)))
     (.seq (.ops r235_20)
       (.seq (.ops r235_21)
      (.seq (.ops r235_22)
        (.seq (.ops r235_23)
       (.seq (.ops r235_24)
         (.cond (.t 113) (.seq (.ops r235_25)
          (.seq (.ops r235_26)
         (.ops r235_27))) (.seq (.ops r235_28)
          (.seq (.ops r235_29)
         (.ops r235_30)))))))))))))))))
def c235 : AC :=
 .seq (.ops r235_0)
 (.seq (.ops r235_1)
   (.block 0 (.loop l235_0)))
def a235 : AFn := { res := [], body := c235, keepA := false, keepR := false, pure := false }
theorem k235 : chkFn Tryz.prog Tryz.f235 a235 = true := by kernel_rfl
@[simp] def r236_0 : List AOp :=
 [.p 2 (.mov (.i 0))]
@[simp] def r236_1 : List AOp :=
 [.m 3 0,
 .p 4 (.conv .u32 (.t 3)),
 .p 5 (.call 252 [.t 4]),
 .m 2 5]
@[simp] def r236_2 : List AOp :=
 [.m 6 0,
 .p 7 (.call 253 [.t 6]),
 .m 2 7]
def c236 : AC :=
 .seq (.ops r236_0)
 (.seq (.cond (.c (.bool false)) (.seq (.ops r236_1)
    (.ret)) (.skip))
   (.seq (.ops r236_2)
  (.ret)))
def a236 : AFn := { res := [.tmp 2], body := c236, keepA := false, keepR := false, pure := true }
theorem k236 : chkFn Tryz.prog Tryz.f236 a236 = true := by kernel_rfl
@[simp] def r237_0 : List AOp :=
 [.p 6 (.mov (.b false))]
@[simp] def r237_1 : List AOp :=
 [.m 10 0,
 .p 11 (.len (.t 10)),
 .m 12 1,
 .p 13 (.len (.t 12)),
 .p 14 (.bin .neq (.t 11) (.t 13))]
@[simp] def r237_2 : List AOp :=
 [.p 6 (.mov (.b false))]
@[simp] def r237_3 : List AOp :=
 [.m 15 0,
 .p 16 (.len (.t 15)),
 .p 17 (.mov (.i 0))]
@[simp] def r237_4 : List AOp :=
 [.p 18 (.bin .lss (.t 17) (.t 16))]
@[simp] def r237_5 : List AOp :=
 [.m 19 17,
 .p 20 (.idxS 1 (.t 15) (.t 17)),
 .p 21 (.load false 1 (.t 20)),
 .m 7 19,
 .m 8 21]
@[simp] def r237_6 : List AOp :=
 [.m 22 1,
 .m 23 7,
 .p 24 (.idxS 1 (.t 22) (.t 23)),
 .p 25 (.load false 1 (.t 24)),
 .m 9 25]
@[simp] def r237_7 : List AOp :=
 [.m 26 2,
 .m 27 8,
 .m 28 9,
 .p 29 (.calld (.t 26) [.t 27, .t 28]),
 .p 30 (.un .not (.t 29))]
@[simp] def r237_8 : List AOp :=
 [.p 6 (.mov (.b false))]
@[simp] def r237_9 : List AOp :=
 [.p 31 (.bin .add (.t 17) (.i 1)),
 .m 17 31]
def l237_0 : AC :=
 .seq (.ops r237_4)
 (.seq (.cond (.t 18) (.skip) (.exit 0))
   (.seq (.block 1 (.seq (.ops r237_5)
   (.seq (.ops r237_6)
     (.seq (.ops r237_7)
    (.cond (.t 30) (.seq (.ops r237_8)
     (.ret)) (.skip))))))
  (.ops r237_9)))
@[simp] def r237_10 : List AOp :=
 [.p 6 (.mov (.b true))]
def c237 : AC :=
 .seq (.ops r237_0)
 (.seq (.seq (.ops r237_1)
  (.cond (.t 14) (.seq (.ops r237_2)
   (.ret)) (.skip)))
   (.seq (.seq (.ops r237_3)
    (.block 0 (.loop l237_0)))
  (.seq (.ops r237_10)
    (.ret))))
def a237 : AFn := { res := [.tmp 6], body := c237, keepA := false, keepR := false, pure := true }
theorem k237 : chkFn Tryz.prog Tryz.f237 a237 = true := by kernel_rfl
@[simp] def r238_0 : List AOp :=
 [.p 4 (.mov (.c (.int .u32 0))),
 .p 5 (.mov (.c (.int .u32 0)))]
@[simp] def r238_1 : List AOp :=
 [.m 7 0,
 .p 8 (.conv .u64 (.t 7)),
 .m 9 1,
 .p 10 (.conv .u64 (.t 9)),
 .p 11 (.bin .mul (.t 8) (.t 10)),
 .m 6 11]
@[simp] def r238_2 : List AOp :=
 [.m 12 6,
 .p 13 (.bin .shr (.t 12) (.u 32)),
 .p 14 (.conv .u32 (.t 13)),
 .m 15 6,
 .p 16 (.conv .u32 (.t 15)),
 .m 4 14,
 .m 5 16]
def c238 : AC :=
 .seq (.ops r238_0)
 (.seq (.ops r238_1)
   (.seq (.ops r238_2)
  (.ret)))
def a238 : AFn := { res := [.tmp 4, .tmp 5], body := c238, keepA := false, keepR := false, pure := true }
theorem k238 : chkFn Tryz.prog Tryz.f238 a238 = true := by kernel_rfl
@[simp] def r239_0 : List AOp :=
 [.p 4 (.mov (.u 0)),
 .p 5 (.mov (.u 0))]
@[simp] def r239_1 : List AOp :=
 [.m 14 0,
 .p 15 (.bin .and (.t 14) (.u 4294967295)),
 .m 6 15]
@[simp] def r239_2 : List AOp :=
 [.m 16 0,
 .p 17 (.bin .shr (.t 16) (.u 32)),
 .m 7 17]
@[simp] def r239_3 : List AOp :=
 [.m 18 1,
 .p 19 (.bin .and (.t 18) (.u 4294967295)),
 .m 8 19]
@[simp] def r239_4 : List AOp :=
 [.m 20 1,
 .p 21 (.bin .shr (.t 20) (.u 32)),
 .m 9 21]
@[simp] def r239_5 : List AOp :=
 [.m 22 6,
 .m 23 8,
 .p 24 (.bin .mul (.t 22) (.t 23)),
 .m 10 24]
@[simp] def r239_6 : List AOp :=
 [.m 25 7,
 .m 26 8,
 .p 27 (.bin .mul (.t 25) (.t 26)),
 .m 28 10,
 .p 29 (.bin .shr (.t 28) (.u 32)),
 .p 30 (.bin .add (.t 27) (.t 29)),
 .m 11 30]
@[simp] def r239_7 : List AOp :=
 [.m 31 11,
 .p 32 (.bin .and (.t 31) (.u 4294967295)),
 .m 12 32]
@[simp] def r239_8 : List AOp :=
 [.m 33 11,
 .p 34 (.bin .shr (.t 33) (.u 32)),
 .m 13 34]
@[simp] def r239_9 : List AOp :=
 [.m 35 12,
 .m 36 6,
 .m 37 9,
 .p 38 (.bin .mul (.t 36) (.t 37)),
 .p 39 (.bin .add (.t 35) (.t 38)),
 .m 12 39]
@[simp] def r239_10 : List AOp :=
 [.m 40 7,
 .m 41 9,
 .p 42 (.bin .mul (.t 40) (.t 41)),
 .m 43 13,
 .p 44 (.bin .add (.t 42) (.t 43)),
 .m 45 12,
 .p 46 (.bin .shr (.t 45) (.u 32)),
 .p 47 (.bin .add (.t 44) (.t 46)),
 .m 4 47]
@[simp] def r239_11 : List AOp :=
 [.m 48 0,
 .m 49 1,
 .p 50 (.bin .mul (.t 48) (.t 49)),
 .m 5 50]
def c239 : AC :=
 .seq (.ops r239_0)
 (.seq (.ops r239_1)
   (.seq (.ops r239_2)
  (.seq (.ops r239_3)
    (.seq (.ops r239_4)
   (.seq (.ops r239_5)
     (.seq (.ops r239_6)
    (.seq (.ops r239_7)
      (.seq (.ops r239_8)
     (.seq (.ops r239_9)
       (.seq (.ops r239_10)
      (.seq (.ops r239_11)
        (.ret))))))))))))
def a239 : AFn := { res := [.tmp 4, .tmp 5], body := c239, keepA := false, keepR := false, pure := true }
theorem k239 : chkFn Tryz.prog Tryz.f239 a239 = true := by kernel_rfl
@[simp] def r240_0 : List AOp :=
 [.p 4 (.mov (.u 0))]
@[simp] def r240_1 : List AOp :=
 [.m 5 1,
 .p 6 (.call 127 [.t 5]),
 .p 7 (.un .not (.t 6))]
@[simp] def r240_2 : List AOp :=
 [.p 4 (.mov (.u 0))]
@[simp] def r240_3 : List AOp :=
 [.m 8 0,
 .m 9 1,
 .p 10 (.bin .sub (.i 64) (.t 9)),
 .p 11 (.bin .shl (.t 8) (.t 10)),
 .m 12 1,
 .p 13 (.bin .sub (.i 64) (.t 12)),
 .p 14 (.bin .shr (.t 11) (.t 13)),
 .m 4 14]
def c240 : AC :=
 .seq (.ops r240_0)
 (.seq (.seq (.ops r240_1)
  (.cond (.t 7) (.seq (.ops r240_2)
   (.ret)) (.skip)))
   (.seq (.ops r240_3)
  (.ret)))
def a240 : AFn := { res := [.tmp 4], body := c240, keepA := false, keepR := false, pure := true }
theorem k240 : chkFn Tryz.prog Tryz.f240 a240 = true := by kernel_rfl
@[simp] def r241_0 : List AOp :=
 [.p 2 (.mov (.c (.lst .nil [])))]
@[simp] def r241_1 : List AOp :=
 [.m 3 0,
 .m 2 3]
def c241 : AC :=
 .seq (.ops r241_0)
 (.seq (.ops r241_1)
   (.ret))
def a241 : AFn := { res := [.tmp 2], body := c241, keepA := false, keepR := false, pure := true }
theorem k241 : chkFn Tryz.prog Tryz.f241 a241 = true := by kernel_rfl
@[simp] def r242_0 : List AOp :=
 [.p 4 (.mov (.c (.lst .nil [])))]
@[simp] def r242_1 : List AOp :=
 [.m 9 1,
 .p 10 (.bin .lss (.t 9) (.i 0))]
@[simp] def r242_2 : List AOp :=
 [.p 11 (.bad),
 .n (.bad)]
@[simp] def r242_3 : List AOp :=
 [.m 13 0,
 .p 14 (.len (.t 13)),
 .p 15 (.conv .u64 (.t 14)),
 .m 16 1,
 .p 17 (.conv .u64 (.t 16)),
 .p 18 (.call 227 [.t 15, .t 17]),
 .m 12 18,
 .p 19 (.ext (.t 12) 0),
 .p 20 (.ext (.t 12) 1),
 .m 5 19,
 .m 6 20]
@[simp] def r242_4 : List AOp :=
 [.m 21 5,
 .p 22 (.bin .gtr (.t 21) (.u 0)),
 .m 23 22,
 .q 24 23 false (.mov (.t 6)),
 .q 25 23 false (.bin .gtr (.t 24) (.u 9223372036854775807)),
 .p 26 (.pick (.t 23) (.b true) (.t 25))]
@[simp] def r242_5 : List AOp :=
 [.p 27 (.bad),
 .n (.bad)]
@[simp] def r242_6 : List AOp :=
 [.m 28 6,
 .p 29 (.conv .i64 (.t 28)),
 .p 30 (.mkslice true 2 16 [.int .i64 0, .int .i64 0] (.t 29) (.t 29)),
 .m 7 30]
@[simp] def r242_7 : List AOp :=
 [.m 31 7,
 .m 32 0,
 .p 33 (.copy 2 (.t 31) (.t 32)),
 .m 8 33]
@[simp] def r242_8 : List AOp :=
 [.m 34 8,
 .m 35 7,
 .p 36 (.len (.t 35)),
 .p 37 (.bin .lss (.t 34) (.t 36))]
@[simp] def r242_9 : List AOp :=
 [.m 38 8,
 .m 39 7,
 .m 40 8,
 .l 41 (.slice 2 (.t 39) (some (.t 40)) none none) 39 .lst,
 .m 42 7,
 .m 43 8,
 .l 44 (.slice 2 (.t 42) none (some (.t 43)) none) 42 .lst,
 .p 45 (.copy 2 (.t 41) (.t 44)),
 .p 46 (.bin .add (.t 38) (.t 45)),
 .m 8 46]
def p242_9 : List (List Nat) := [[], [], [], [1, 2], [], [], [4, 5], [3, 6], [0, 7], [8, 7, 0, 1, 2, 3, 4, 5, 6, 7, 8]]
def l242_0 : AC :=
 .seq (.seq (.ops r242_8)
   (.cond (.t 37) (.skip) (.exit 0)))
 (.block 1 (.tops r242_9
   p242_9))
@[simp] def r242_10 : List AOp :=
 [.m 47 7,
 .m 4 47]
def c242 : AC :=
 .seq (.ops r242_0)
 (.seq (.seq (.ops r242_1)
  (.cond (.t 10) (.ops r242_2) (.skip)))
   (.seq (.ops r242_3)
  (.seq (.seq (.ops r242_4)
   (.cond (.t 26) (.ops r242_5) (.skip)))
    (.seq (.ops r242_6)
   (.seq (.ops r242_7)
     (.seq (.block 0 (.loop l242_0))
    (.seq (.ops r242_10)
      (.ret))))))))
def a242 : AFn := { res := [.tmp 4], body := c242, keepA := false, keepR := false, pure := true }
theorem k242 : chkFn Tryz.prog Tryz.f242 a242 = true := by kernel_rfl
@[simp] def r243_0 : List AOp :=
 [.m 8 1,
 .p 9 (.bin .add (.t 8) (.i 1)),
 .m 6 9]
@[simp] def r243_1 : List AOp :=
 [.m 10 6,
 .m 11 2,
 .p 12 (.bin .lss (.t 10) (.t 11))]
@[simp] def r243_3 : List AOp :=
 [.m 15 6,
 .m 7 15]
@[simp] def r243_4 : List AOp :=
 [.m 16 7,
 .m 17 1,
 .p 18 (.bin .gtr (.t 16) (.t 17)),
 .m 19 18,
 .q 20 19 true (.mov (.t 0)),
 .q 21 19 true (.mov (.t 7)),
 ⟨(some 22), (some (19, true)), .idxS 1 (.t 20) (.t 21), (some (.t 20, .lst))⟩,
 ⟨(some 23), (some (19, true)), .load false 1 (.t 22), (some (.t 22, .imm))⟩,
 .q 24 19 true (.mov (.t 0)),
 .q 25 19 true (.mov (.t 7)),
 .q 26 19 true (.bin .sub (.t 25) (.i 1)),
 ⟨(some 27), (some (19, true)), .idxS 1 (.t 24) (.t 26), (some (.t 24, .lst))⟩,
 ⟨(some 28), (some (19, true)), .load false 1 (.t 27), (some (.t 27, .imm))⟩,
 .q 29 19 true (.call 249 [.t 23, .t 28]),
 .p 30 (.pick (.t 19) (.t 29) (.b false))]
def p243_4 : List (List Nat) := [[], [], [0, 1], [2], [3], [3], [4, 5, 3], [6, 3], [3], [3], [9, 3], [8, 10, 3], [11, 3], [7, 12, 3, 3], [3, 13]]
@[simp] def r243_6 : List AOp :=
 [.m 33 0,
 .m 34 7,
 .m 35 0,
 .m 36 7,
 .p 37 (.bin .sub (.t 36) (.i 1)),
 .m 38 0,
 .m 39 7,
 .p 40 (.bin .sub (.t 39) (.i 1)),
 .l 41 (.idxS 1 (.t 38) (.t 40)) 38 .lst,
 .l 42 (.load false 1 (.t 41)) 41 .imm,
 .m 43 0,
 .m 44 7,
 .l 45 (.idxS 1 (.t 43) (.t 44)) 43 .lst,
 .l 46 (.load false 1 (.t 45)) 45 .imm,
 .l 47 (.idxS 1 (.t 33) (.t 34)) 33 .lst,
 .n (.store 1 (.t 47) (.t 42)),
 .l 48 (.idxS 1 (.t 35) (.t 37)) 35 .lst,
 .n (.store 1 (.t 48) (.t 46))]
def p243_6 : List (List Nat) := [[], [], [], [], [3], [], [], [6], [5, 7], [8], [], [], [10, 11], [12], [0, 1, 0, 1, 5, 6, 7, 8, 9, 13], [14, 9, 0, 1, 5, 6, 7, 8, 9, 13], [2, 4, 0, 1, 2, 3, 4, 5, 6, 7, 8, 9, 10, 11, 12, 13, 14, 15], [16, 13, 15, 0, 1, 2, 3, 4, 5, 6, 7, 8, 9, 10, 11, 12, 13, 14, 15]]
@[simp] def r243_5 : List AOp :=
 [.m 31 7,
 .p 32 (.bin .sub (.t 31) (.i 1)),
 .m 7 32]
def l243_1 : AC :=
 .seq (.seq (.tops r243_4
   p243_4)
   (.cond (.t 30) (.skip) (.exit 2)))
 (.seq (.block 3 (.tops r243_6
     p243_6))
   (.ops r243_5))
@[simp] def r243_2 : List AOp :=
 [.m 13 6,
 .p 14 (.bin .add (.t 13) (.i 1)),
 .m 6 14]
def l243_0 : AC :=
 .seq (.seq (.ops r243_1)
   (.cond (.t 12) (.skip) (.exit 0)))
 (.seq (.block 1 (.seq (.ops r243_3)
    (.block 2 (.loop l243_1))))
   (.ops r243_2))
def c243 : AC :=
 .seq (.ops r243_0)
 (.block 0 (.loop l243_0))
def a243 : AFn := { res := [], body := c243, keepA := false, keepR := false, pure := false }
theorem k243 : chkFn Tryz.prog Tryz.f243 a243 = true := by kernel_rfl
@[simp] def r244_0 : List AOp :=
 [.m 11 1,
 .m 6 11]
@[simp] def r244_1 : List AOp :=
 [.p 7 (.mov (.i 0))]
@[simp] def r244_2 : List AOp :=
 [.m 12 2,
 .m 13 1,
 .p 14 (.bin .sub (.t 12) (.t 13)),
 .m 8 14]
@[simp] def r244_3 : List AOp :=
 [.m 15 8,
 .p 16 (.bin .sub (.t 15) (.i 1)),
 .p 17 (.bin .quo (.t 16) (.i 2)),
 .m 9 17]
@[simp] def r244_4 : List AOp :=
 [.m 18 9,
 .p 19 (.bin .geq (.t 18) (.i 0))]
@[simp] def r244_6 : List AOp :=
 [.m 22 0,
 .m 23 9,
 .m 24 8,
 .m 25 6,
 .p 26 (.call 254 [.t 22, .t 23, .t 24, .t 25])]
@[simp] def r244_5 : List AOp :=
 [.m 20 9,
 .p 21 (.bin .sub (.t 20) (.i 1)),
 .m 9 21]
def l244_0 : AC :=
 .seq (.seq (.ops r244_4)
   (.cond (.t 19) (.skip) (.exit 0)))
 (.seq (.block 1 (.ops r244_6))
   (.ops r244_5))
@[simp] def r244_7 : List AOp :=
 [.m 27 8,
 .p 28 (.bin .sub (.t 27) (.i 1)),
 .m 10 28]
@[simp] def r244_8 : List AOp :=
 [.m 29 10,
 .p 30 (.bin .geq (.t 29) (.i 0))]
@[simp] def r244_10 : List AOp :=
 [.m 33 0,
 .m 34 6,
 .m 35 0,
 .m 36 6,
 .m 37 10,
 .p 38 (.bin .add (.t 36) (.t 37)),
 .m 39 0,
 .m 40 6,
 .m 41 10,
 .p 42 (.bin .add (.t 40) (.t 41)),
 .l 43 (.idxS 1 (.t 39) (.t 42)) 39 .lst,
 .l 44 (.load false 1 (.t 43)) 43 .imm,
 .m 45 0,
 .m 46 6,
 .l 47 (.idxS 1 (.t 45) (.t 46)) 45 .lst,
 .l 48 (.load false 1 (.t 47)) 47 .imm,
 .l 49 (.idxS 1 (.t 33) (.t 34)) 33 .lst,
 .n (.store 1 (.t 49) (.t 44)),
 .l 50 (.idxS 1 (.t 35) (.t 38)) 35 .lst,
 .n (.store 1 (.t 50) (.t 48))]
def p244_10 : List (List Nat) := [[], [], [], [], [], [3, 4], [], [], [], [7, 8], [6, 9], [10], [], [], [12, 13], [14], [0, 1, 0, 1, 6, 7, 8, 9, 10, 11, 15], [16, 11, 0, 1, 6, 7, 8, 9, 10, 11, 15], [2, 5, 0, 1, 2, 3, 4, 5, 6, 7, 8, 9, 10, 11, 12, 13, 14, 15, 16, 17], [18, 15, 17, 0, 1, 2, 3, 4, 5, 6, 7, 8, 9, 10, 11, 12, 13, 14, 15, 16, 17]]
@[simp] def r244_11 : List AOp :=
 [.m 51 0,
 .m 52 7,
 .m 53 10,
 .m 54 6,
 .p 55 (.call 254 [.t 51, .t 52, .t 53, .t 54])]
@[simp] def r244_9 : List AOp :=
 [.m 31 10,
 .p 32 (.bin .sub (.t 31) (.i 1)),
 .m 10 32]
def l244_1 : AC :=
 .seq (.seq (.ops r244_8)
   (.cond (.t 30) (.skip) (.exit 2)))
 (.seq (.block 3 (.seq (.tops r244_10
    p244_10)
    (.ops r244_11)))
   (.ops r244_9))
def c244 : AC :=
 .seq (.ops r244_0)
 (.seq (.ops r244_1)
   (.seq (.ops r244_2)
  (.seq (.seq (.ops r244_3)
   (.block 0 (.loop l244_0)))
    (.seq (.ops r244_7)
   (.block 2 (.loop l244_1))))))
def a244 : AFn := { res := [], body := c244, keepA := false, keepR := false, pure := false }
theorem k244 : chkFn Tryz.prog Tryz.f244 a244 = true := by kernel_rfl

end Go.Proofs.YtpbngohpklpalaaGreat
