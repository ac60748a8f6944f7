/- A part of the proof: an abstract machine for the program's code and what each of its functions comes to there. No conditions. -/
import Derived.Test.YtcngflmnbdcppaaGreatP04
import Derived.Test.YtcngflmnbdcppaaGreatChecked
import Derived.KernelRfl

set_option linter.unusedSimpArgs false
set_option linter.unusedVariables false

/- Compact code of the program's functions, each checked against the program's form: printed by mkcode.py. -/
namespace Go.Proofs.YtcngflmnbdcppaaGreat
open Go.LS

/-! lockstep/locksteplaw17.AffineSums -/
def r3_0 : List AOp :=
  [⟨(some 3), none, .box false 2 (.t 0), none⟩,
  ⟨(some 4), none, .box false 2 (.t 1), none⟩,
  ⟨(some 6), none, .mov (.c (.bool false)), none⟩]
def r3_1 : List AOp :=
  [⟨(some 10), none, .call 8 [], none⟩,
  ⟨(some 11), none, .un .not (.t 10), none⟩]
def r3_2 : List AOp :=
  [⟨(some 6), none, .mov (.c (.bool false)), none⟩]
def r3_3 : List AOp :=
  [⟨(some 12), none, .off 0 (.t 3), none⟩,
  ⟨(some 13), none, .load false 1 (.t 12), none⟩,
  ⟨(some 14), none, .len (.t 13), none⟩,
  ⟨(some 15), none, .bin .gtr (.t 14) (.c (.int .i64 200)), none⟩,
  ⟨(some 16), none, .mov (.t 15), none⟩,
  ⟨(some 17), (some (16, false)), .off 0 (.t 4), none⟩,
  ⟨(some 18), (some (16, false)), .load false 1 (.t 17), none⟩,
  ⟨(some 19), (some (16, false)), .len (.t 18), none⟩,
  ⟨(some 20), (some (16, false)), .bin .gtr (.t 19) (.c (.int .i64 200)), none⟩,
  ⟨(some 21), none, .pick (.t 16) (.c (.bool true)) (.t 20), none⟩]
def r3_4 : List AOp :=
  [⟨(some 6), none, .mov (.c (.bool true)), none⟩]
def r3_5 : List AOp :=
  [⟨(some 22), none, .load true 2 (.t 3), none⟩,
  ⟨(some 23), none, .load true 2 (.t 4), none⟩,
  ⟨(some 24), none, .call 9 [.t 22, .t 23], none⟩,
  ⟨(some 7), none, .alloc false [.lst .nil [], .int .u64 0], none⟩,
  ⟨none, none, .store 2 (.t 7) (.t 24), none⟩]
def r3_6 : List AOp :=
  [⟨(some 25), none, .load true 2 (.t 3), none⟩,
  ⟨(some 26), none, .load true 2 (.t 4), none⟩,
  ⟨(some 27), none, .call 10 [.t 25, .t 26], none⟩,
  ⟨(some 8), none, .alloc false [.lst .nil [], .int .u64 0], none⟩,
  ⟨none, none, .store 2 (.t 8) (.t 27), none⟩]
def r3_7 : List AOp :=
  [⟨(some 28), none, .load true 2 (.t 3), none⟩,
  ⟨(some 29), none, .mov (.t 2), none⟩,
  ⟨(some 30), none, .call 11 [.t 28, .t 29], none⟩,
  ⟨(some 9), none, .alloc false [.lst .nil [], .int .u64 0], none⟩,
  ⟨none, none, .store 2 (.t 9) (.t 30), none⟩]
def r3_8 : List AOp :=
  [⟨(some 31), none, .load true 2 (.t 3), (some (.t 3, .loc 3))⟩,
  ⟨(some 32), none, .call 12 [.t 31], none⟩,
  ⟨(some 33), none, .load true 2 (.t 3), (some (.t 3, .loc 3))⟩,
  ⟨(some 34), none, .call 13 [.t 33], none⟩,
  ⟨(some 35), none, .eq true .bool (.t 32) (.t 34), none⟩,
  ⟨(some 36), none, .mov (.t 35), none⟩,
  ⟨(some 37), (some (36, false)), .load true 2 (.t 3), (some (.t 3, .loc 3))⟩,
  ⟨(some 38), (some (36, false)), .load true 2 (.t 4), (some (.t 4, .loc 4))⟩,
  ⟨(some 39), (some (36, false)), .call 14 [.t 37, .t 38], none⟩,
  ⟨(some 40), (some (36, false)), .load true 2 (.t 3), (some (.t 3, .loc 3))⟩,
  ⟨(some 41), (some (36, false)), .load true 2 (.t 4), (some (.t 4, .loc 4))⟩,
  ⟨(some 42), (some (36, false)), .call 15 [.t 40, .t 41], none⟩,
  ⟨(some 43), (some (36, false)), .eq true .bool (.t 39) (.t 42), none⟩,
  ⟨(some 44), none, .pick (.t 36) (.c (.bool true)) (.t 43), none⟩]
def p3_8 : List (List Nat) := [[], [0], [], [2, 1], [1, 3], [4, 3], [5], [5], [6, 7, 5, 5], [5], [5], [9, 10, 8, 5], [8, 11, 5], [5, 12]]
def r3_9 : List AOp :=
  [⟨(some 6), none, .mov (.c (.bool false)), none⟩]
def r3_10 : List AOp :=
  [⟨(some 45), none, .load true 2 (.t 3), none⟩,
  ⟨(some 46), none, .call 13 [.t 45], none⟩,
  ⟨(some 47), none, .un .not (.t 46), none⟩]
def r3_11 : List AOp :=
  [⟨(some 48), none, .load true 2 (.t 7), none⟩,
  ⟨(some 49), none, .build [.lst .nil [], .int .u64 0] [], none⟩,
  ⟨(some 50), none, .call 15 [.t 48, .t 49], none⟩,
  ⟨(some 51), none, .mov (.t 50), none⟩,
  ⟨(some 52), (some (51, true)), .load true 2 (.t 8), none⟩,
  ⟨(some 53), (some (51, true)), .build [.lst .nil [], .int .u64 0] [], none⟩,
  ⟨(some 54), (some (51, true)), .call 15 [.t 52, .t 53], none⟩,
  ⟨(some 55), none, .pick (.t 51) (.t 54) (.c (.bool false)), none⟩,
  ⟨(some 56), none, .mov (.t 55), none⟩,
  ⟨(some 57), (some (56, true)), .load true 2 (.t 9), none⟩,
  ⟨(some 58), (some (56, true)), .build [.lst .nil [], .int .u64 0] [], none⟩,
  ⟨(some 59), (some (56, true)), .call 15 [.t 57, .t 58], none⟩,
  ⟨(some 60), none, .pick (.t 56) (.t 59) (.c (.bool false)), none⟩,
  ⟨(some 6), none, .mov (.t 60), none⟩]
def r3_12 : List AOp :=
  [⟨(some 61), none, .load true 2 (.t 9), (some (.t 9, .loc 9))⟩,
  ⟨(some 62), none, .load true 2 (.t 3), (some (.t 3, .loc 3))⟩,
  ⟨(some 63), none, .mov (.t 2), none⟩,
  ⟨(some 64), none, .build [.lst .nil [], .int .u64 0] [], none⟩,
  ⟨(some 65), none, .call 16 [.t 62, .t 63, .t 64, .c (.int .u64 0)], none⟩,
  ⟨(some 66), none, .call 15 [.t 61, .t 65], none⟩,
  ⟨(some 67), none, .un .not (.t 66), none⟩]
def p3_12 : List (List Nat) := [[], [], [], [], [1, 2, 3], [0, 4, 4], [5]]
def r3_13 : List AOp :=
  [⟨(some 6), none, .mov (.c (.bool false)), none⟩]
def r3_14 : List AOp :=
  [⟨(some 68), none, .load true 2 (.t 4), none⟩,
  ⟨(some 69), none, .call 13 [.t 68], none⟩,
  ⟨(some 70), none, .un .not (.t 69), none⟩]
def r3_15 : List AOp :=
  [⟨(some 71), none, .load true 2 (.t 7), none⟩,
  ⟨(some 72), none, .build [.lst .nil [], .int .u64 0] [], none⟩,
  ⟨(some 73), none, .call 15 [.t 71, .t 72], none⟩,
  ⟨(some 74), none, .mov (.t 73), none⟩,
  ⟨(some 75), (some (74, true)), .load true 2 (.t 8), none⟩,
  ⟨(some 76), (some (74, true)), .build [.lst .nil [], .int .u64 0] [], none⟩,
  ⟨(some 77), (some (74, true)), .call 15 [.t 75, .t 76], none⟩,
  ⟨(some 78), none, .pick (.t 74) (.t 77) (.c (.bool false)), none⟩,
  ⟨(some 6), none, .mov (.t 78), none⟩]
def r3_16 : List AOp :=
  [⟨(some 79), none, .load true 2 (.t 7), (some (.t 7, .loc 7))⟩,
  ⟨(some 80), none, .load true 2 (.t 3), (some (.t 3, .loc 3))⟩,
  ⟨(some 81), none, .load true 2 (.t 4), (some (.t 4, .loc 4))⟩,
  ⟨(some 82), none, .call 16 [.t 80, .c (.int .u64 1), .t 81, .c (.int .u64 1)], none⟩,
  ⟨(some 83), none, .call 15 [.t 79, .t 82], none⟩,
  ⟨(some 84), none, .mov (.t 83), none⟩,
  ⟨(some 85), (some (84, true)), .load true 2 (.t 8), (some (.t 8, .loc 8))⟩,
  ⟨(some 86), (some (84, true)), .load true 2 (.t 3), (some (.t 3, .loc 3))⟩,
  ⟨(some 87), (some (84, true)), .load true 2 (.t 4), (some (.t 4, .loc 4))⟩,
  ⟨(some 88), (some (84, true)), .call 16 [.t 86, .c (.int .u64 1), .t 87, .c (.int .u64 18446744073709551615)], none⟩,
  ⟨(some 89), (some (84, true)), .call 15 [.t 85, .t 88], none⟩,
  ⟨(some 90), none, .pick (.t 84) (.t 89) (.c (.bool false)), none⟩,
  ⟨(some 6), none, .mov (.t 90), none⟩]
def p3_16 : List (List Nat) := [[], [], [], [1, 2], [0, 3, 3], [4, 4], [5], [5], [5], [7, 8, 5, 5], [6, 9, 9, 5], [5, 10], [11, 10, 0, 1, 2, 3, 4, 5, 6, 7, 8, 9, 10, 11]]
/-- lockstep/locksteplaw17.AffineSums -/
def c3 : AC :=
  .seq (.ops r3_0)
  (.seq (.seq (.ops r3_1)
    (.cond (.t 11) (.seq (.ops r3_2)
      (.ret)) (.skip)))
   (.seq (.seq (.ops r3_3)
     (.cond (.t 21) (.seq (.ops r3_4)
       (.ret)) (.skip)))
    (.seq (.ops r3_5)
     (.seq (.ops r3_6)
      (.seq (.ops r3_7)
       (.seq (.seq (.tops r3_8
            p3_8)
         (.cond (.t 44) (.seq (.ops r3_9)
           (.ret)) (.skip)))
        (.seq (.seq (.ops r3_10)
          (.cond (.t 47) (.seq (.ops r3_11)
            (.ret)) (.skip)))
         (.seq (.seq (.tops r3_12
              p3_12)
           (.cond (.t 67) (.seq (.ops r3_13)
             (.ret)) (.skip)))
          (.seq (.seq (.ops r3_14)
            (.cond (.t 70) (.seq (.ops r3_15)
              (.ret)) (.skip)))
           (.seq (.tops r3_16
               p3_16)
            (.ret)))))))))))
def a3 : AFn := { res := [.tmp 6], body := c3, keepA := false, keepR := false, pure := true }
theorem k3 : chkFn Tryz.prog Tryz.f3 a3 = true := by kernel_rfl

/-! lockstep/locksteplaw17.AffineSteps -/
def r6_0 : List AOp :=
  [⟨(some 6), none, .mov (.c (.bool false)), none⟩]
def r6_1 : List AOp :=
  [⟨(some 16), none, .call 8 [], none⟩,
  ⟨(some 17), none, .un .not (.t 16), none⟩]
def r6_2 : List AOp :=
  [⟨(some 6), none, .mov (.c (.bool false)), none⟩]
def r6_3 : List AOp :=
  [⟨(some 18), none, .mov (.t 0), none⟩,
  ⟨(some 19), none, .conv .i64 (.t 18), none⟩,
  ⟨(some 20), none, .bin .rem (.t 19) (.c (.int .i64 60)), none⟩,
  ⟨(some 7), none, .mov (.t 20), none⟩]
def r6_4 : List AOp :=
  [⟨(some 8), none, .mov (.c (.int .i64 1)), none⟩]
def r6_5 : List AOp :=
  [⟨(some 21), none, .mov (.t 2), none⟩]
def r6_6 : List AOp :=
  [⟨(some 8), none, .mov (.c (.int .i64 2)), none⟩]
def r6_7 : List AOp :=
  [⟨(some 22), none, .mov (.t 1), none⟩,
  ⟨(some 23), none, .build [.int .i64 0, .int .i64 0, .int .i64 0, .int .i64 0, .lst .nil [], .int .u64 0] [(0, 1, .c (.int .i64 0)), (1, 1, .c (.int .i64 64)), (2, 1, .c (.int .i64 1)), (3, 1, .c (.int .i64 2)), (5, 1, .t 22)], none⟩,
  ⟨(some 24), none, .bslice false 1 6 [.int .i64 0, .int .i64 0, .int .i64 0, .int .i64 0, .lst .nil [], .int .u64 0] [(0, .t 23)], none⟩,
  ⟨(some 9), none, .mov (.t 24), none⟩]
def r6_8 : List AOp :=
  [⟨(some 10), none, .mov (.c (.int .i64 1)), none⟩]
def r6_9 : List AOp :=
  [⟨(some 11), none, .mov (.c (.int .i64 0)), none⟩]
def r6_10 : List AOp :=
  [⟨(some 25), none, .mov (.t 11), none⟩,
  ⟨(some 26), none, .mov (.t 7), none⟩,
  ⟨(some 27), none, .bin .lss (.t 25) (.t 26), none⟩]
def r6_12 : List AOp :=
  [⟨(some 30), none, .mov (.t 9), none⟩,
  ⟨(some 31), none, .mov (.t 8), none⟩,
  ⟨(some 32), none, .mov (.t 11), none⟩,
  ⟨(some 33), none, .bin .add (.c (.int .i64 3)) (.t 32), none⟩,
  ⟨(some 34), none, .mov (.t 10), none⟩,
  ⟨(some 35), none, .bslice false 2 1 [.int .i64 0] [(0, .t 34), (1, .c (.int .i64 2))], none⟩,
  ⟨(some 36), none, .build [.int .i64 0, .int .i64 0, .int .i64 0, .int .i64 0, .lst .nil [], .int .u64 0] [(0, 1, .t 31), (1, 1, .c (.int .i64 64)), (2, 1, .c (.int .i64 1)), (3, 1, .t 33), (4, 1, .t 35)], none⟩,
  ⟨(some 37), none, .bslice false 1 6 [.int .i64 0, .int .i64 0, .int .i64 0, .int .i64 0, .lst .nil [], .int .u64 0] [(0, .t 36)], none⟩,
  ⟨(some 38), none, .append false 6 64 (.t 30) (.t 37), none⟩,
  ⟨(some 9), none, .mov (.t 38), none⟩]
def r6_13 : List AOp :=
  [⟨(some 39), none, .mov (.t 11), none⟩,
  ⟨(some 40), none, .bin .add (.c (.int .i64 3)) (.t 39), none⟩,
  ⟨(some 10), none, .mov (.t 40), none⟩]
def r6_11 : List AOp :=
  [⟨(some 28), none, .mov (.t 11), none⟩,
  ⟨(some 29), none, .bin .add (.t 28) (.c (.int .i64 1)), none⟩,
  ⟨(some 11), none, .mov (.t 29), none⟩]
def l6_0 : AC :=
  .seq (.seq (.ops r6_10)
   (.cond (.t 27) (.skip) (.exit 0)))
  (.seq (.block 1 (.seq (.ops r6_12)
     (.ops r6_13)))
   (.ops r6_11))
def r6_14 : List AOp :=
  [⟨(some 41), none, .bslice false 1 1 [.int .i64 0] [(0, .c (.int .i64 64))], none⟩,
  ⟨(some 42), none, .mov (.t 9), none⟩,
  ⟨(some 43), none, .mov (.t 10), none⟩,
  ⟨(some 44), none, .build [.int .i64 0, .int .i64 0, .lst .nil []] [(0, 1, .c (.int .i64 0)), (1, 1, .t 43)], none⟩,
  ⟨(some 45), none, .build [.lst .nil [], .lst .nil [], .int .i64 0, .int .i64 0, .lst .nil []] [(1, 1, .t 42), (2, 3, .t 44)], none⟩,
  ⟨(some 46), none, .bslice false 1 5 [.lst .nil [], .lst .nil [], .int .i64 0, .int .i64 0, .lst .nil []] [(0, .t 45)], none⟩,
  ⟨(some 47), none, .build [.lst .nil [], .int .i64 0, .lst .nil []] [(0, 1, .t 41), (1, 1, .c (.int .i64 64)), (2, 1, .t 46)], none⟩,
  ⟨(some 12), none, .alloc false [.lst .nil [], .int .i64 0, .lst .nil []], none⟩,
  ⟨none, none, .store 3 (.t 12) (.t 47), none⟩]
def r6_15 : List AOp :=
  [⟨(some 49), none, .load true 3 (.t 12), none⟩,
  ⟨(some 50), none, .mov (.t 10), none⟩,
  ⟨(some 51), none, .call 18 [.t 49, .t 50], none⟩,
  ⟨(some 48), none, .mov (.t 51), none⟩,
  ⟨(some 52), none, .ext (.t 48) 0, none⟩,
  ⟨(some 53), none, .ext (.t 48) 1, none⟩,
  ⟨(some 13), none, .alloc false [.lst .nil [], .int .u64 0], none⟩,
  ⟨none, none, .store 2 (.t 13) (.t 52), none⟩,
  ⟨(some 14), none, .mov (.t 53), none⟩]
def r6_16 : List AOp :=
  [⟨(some 54), none, .mov (.t 1), none⟩,
  ⟨(some 55), none, .mov (.t 7), none⟩,
  ⟨(some 56), none, .conv .u64 (.t 55), none⟩,
  ⟨(some 57), none, .bin .mul (.t 54) (.t 56), none⟩,
  ⟨(some 15), none, .mov (.t 57), none⟩]
def r6_17 : List AOp :=
  [⟨(some 58), none, .mov (.t 2), none⟩]
def r6_18 : List AOp :=
  [⟨(some 59), none, .mov (.t 15), none⟩,
  ⟨(some 60), none, .bin .sub (.c (.int .u64 0)) (.t 59), none⟩,
  ⟨(some 15), none, .mov (.t 60), none⟩]
def r6_19 : List AOp :=
  [⟨(some 61), none, .mov (.t 14), none⟩,
  ⟨(some 62), none, .bin .eql (.t 61) (.c (.int .i64 0)), none⟩,
  ⟨(some 63), none, .mov (.t 62), none⟩,
  ⟨(some 64), (some (63, true)), .load true 2 (.t 13), none⟩,
  ⟨(some 65), (some (63, true)), .build [.int .i64 0, .int .u64 0] [(0, 1, .c (.int .i64 1)), (1, 1, .c (.int .u64 1))], none⟩,
  ⟨(some 66), (some (63, true)), .bslice false 1 2 [.int .i64 0, .int .u64 0] [(0, .t 65)], none⟩,
  ⟨(some 67), (some (63, true)), .mov (.t 15), none⟩,
  ⟨(some 68), (some (63, true)), .build [.lst .nil [], .int .u64 0] [(0, 1, .t 66), (1, 1, .t 67)], none⟩,
  ⟨(some 69), (some (63, true)), .call 14 [.t 64, .t 68], none⟩,
  ⟨(some 70), none, .pick (.t 63) (.t 69) (.c (.bool false)), none⟩,
  ⟨(some 6), none, .mov (.t 70), none⟩]
/-- lockstep/locksteplaw17.AffineSteps -/
def c6 : AC :=
  .seq (.ops r6_0)
  (.seq (.seq (.ops r6_1)
    (.cond (.t 17) (.seq (.ops r6_2)
      (.ret)) (.skip)))
   (.seq (.ops r6_3)
    (.seq (.ops r6_4)
     (.seq (.seq (.ops r6_5)
       (.cond (.t 21) (.ops r6_6) (.skip)))
      (.seq (.ops r6_7)
       (.seq (.ops r6_8)
        (.seq (.seq (.ops r6_9)
          (.block 0 (.loop l6_0)))
         (.seq (.ops r6_14)
          (.seq (.ops r6_15)
           (.seq (.ops r6_16)
            (.seq (.seq (.ops r6_17)
              (.cond (.t 58) (.ops r6_18) (.skip)))
             (.seq (.ops r6_19)
              (.ret)))))))))))))
def a6 : AFn := { res := [.tmp 6], body := c6, keepA := false, keepR := false, pure := true }
theorem k6 : chkFn Tryz.prog Tryz.f6 a6 = true := by kernel_rfl

/-! lockstep/locksteplaw17.awake -/
def r8_0 : List AOp :=
  [⟨(some 0), none, .mov (.c (.bool false)), none⟩]
def r8_1 : List AOp :=
  [⟨(some 7), none, .bslice false 1 1 [.int .i64 0] [(0, .c (.int .i64 64))], none⟩,
  ⟨(some 8), none, .build [.int .i64 0, .int .i64 0, .int .i64 0, .int .i64 0, .lst .nil [], .int .u64 0] [(0, 1, .c (.int .i64 0)), (1, 1, .c (.int .i64 64)), (2, 1, .c (.int .i64 1)), (3, 1, .c (.int .i64 2)), (5, 1, .c (.int .u64 8))], none⟩,
  ⟨(some 9), none, .bslice false 2 1 [.int .i64 0] [(0, .c (.int .i64 1)), (1, .c (.int .i64 2))], none⟩,
  ⟨(some 10), none, .build [.int .i64 0, .int .i64 0, .int .i64 0, .int .i64 0, .lst .nil [], .int .u64 0] [(0, 1, .c (.int .i64 1)), (1, 1, .c (.int .i64 64)), (2, 1, .c (.int .i64 1)), (3, 1, .c (.int .i64 3)), (4, 1, .t 9)], none⟩,
  ⟨(some 11), none, .bslice false 2 1 [.int .i64 0] [(0, .c (.int .i64 2)), (1, .c (.int .i64 3))], none⟩,
  ⟨(some 12), none, .build [.int .i64 0, .int .i64 0, .int .i64 0, .int .i64 0, .lst .nil [], .int .u64 0] [(0, 1, .c (.int .i64 3)), (1, 1, .c (.int .i64 64)), (2, 1, .c (.int .i64 1)), (3, 1, .c (.int .i64 4)), (4, 1, .t 11)], none⟩,
  ⟨(some 13), none, .bslice false 3 6 [.int .i64 0, .int .i64 0, .int .i64 0, .int .i64 0, .lst .nil [], .int .u64 0] [(0, .t 8), (1, .t 10), (2, .t 12)], none⟩,
  ⟨(some 14), none, .build [.int .i64 0, .int .i64 0, .lst .nil []] [(0, 1, .c (.int .i64 0)), (1, 1, .c (.int .i64 4))], none⟩,
  ⟨(some 15), none, .build [.lst .nil [], .lst .nil [], .int .i64 0, .int .i64 0, .lst .nil []] [(1, 1, .t 13), (2, 3, .t 14)], none⟩,
  ⟨(some 16), none, .bslice false 1 5 [.lst .nil [], .lst .nil [], .int .i64 0, .int .i64 0, .lst .nil []] [(0, .t 15)], none⟩,
  ⟨(some 17), none, .build [.lst .nil [], .int .i64 0, .lst .nil []] [(0, 1, .t 7), (1, 1, .c (.int .i64 64)), (2, 1, .t 16)], none⟩,
  ⟨(some 1), none, .alloc false [.lst .nil [], .int .i64 0, .lst .nil []], none⟩,
  ⟨none, none, .store 3 (.t 1) (.t 17), none⟩]
def r8_2 : List AOp :=
  [⟨(some 19), none, .load true 3 (.t 1), none⟩,
  ⟨(some 20), none, .call 18 [.t 19, .c (.int .i64 4)], none⟩,
  ⟨(some 18), none, .mov (.t 20), none⟩,
  ⟨(some 21), none, .ext (.t 18) 0, none⟩,
  ⟨(some 22), none, .ext (.t 18) 1, none⟩,
  ⟨(some 2), none, .alloc false [.lst .nil [], .int .u64 0], none⟩,
  ⟨none, none, .store 2 (.t 2) (.t 21), none⟩,
  ⟨(some 3), none, .mov (.t 22), none⟩]
def r8_3 : List AOp :=
  [⟨(some 24), none, .load true 3 (.t 1), none⟩,
  ⟨(some 25), none, .call 18 [.t 24, .c (.int .i64 5)], none⟩,
  ⟨(some 23), none, .mov (.t 25), none⟩,
  ⟨(some 26), none, .ext (.t 23) 0, none⟩,
  ⟨(some 27), none, .ext (.t 23) 1, none⟩,
  ⟨(some 4), none, .alloc false [.lst .nil [], .int .u64 0], none⟩,
  ⟨none, none, .store 2 (.t 4) (.t 26), none⟩,
  ⟨(some 5), none, .mov (.t 27), none⟩]
def r8_4 : List AOp :=
  [⟨(some 28), none, .build [.int .i64 0, .int .u64 0] [(0, 1, .c (.int .i64 1)), (1, 1, .c (.int .u64 8))], none⟩,
  ⟨(some 29), none, .bslice false 1 2 [.int .i64 0, .int .u64 0] [(0, .t 28)], none⟩,
  ⟨(some 30), none, .build [.lst .nil [], .int .u64 0] [(0, 1, .t 29), (1, 1, .c (.int .u64 64))], none⟩,
  ⟨(some 6), none, .alloc false [.lst .nil [], .int .u64 0], none⟩,
  ⟨none, none, .store 2 (.t 6) (.t 30), none⟩]
def r8_5 : List AOp :=
  [⟨(some 31), none, .mov (.t 3), none⟩,
  ⟨(some 32), none, .bin .eql (.t 31) (.c (.int .i64 0)), none⟩,
  ⟨(some 33), none, .mov (.t 32), none⟩,
  ⟨(some 34), (some (33, true)), .load true 2 (.t 2), none⟩,
  ⟨(some 35), (some (33, true)), .load true 2 (.t 6), none⟩,
  ⟨(some 36), (some (33, true)), .call 14 [.t 34, .t 35], none⟩,
  ⟨(some 37), none, .pick (.t 33) (.t 36) (.c (.bool false)), none⟩,
  ⟨(some 38), none, .mov (.t 37), none⟩,
  ⟨(some 39), (some (38, true)), .mov (.t 5), none⟩,
  ⟨(some 40), (some (38, true)), .bin .eql (.t 39) (.c (.int .i64 10)), none⟩,
  ⟨(some 41), none, .pick (.t 38) (.t 40) (.c (.bool false)), none⟩,
  ⟨(some 42), none, .mov (.t 41), none⟩,
  ⟨(some 43), (some (42, true)), .load true 2 (.t 6), none⟩,
  ⟨(some 44), (some (42, true)), .call 12 [.t 43], none⟩,
  ⟨(some 45), none, .pick (.t 42) (.t 44) (.c (.bool false)), none⟩,
  ⟨(some 46), none, .mov (.t 45), none⟩,
  ⟨(some 47), (some (46, true)), .load true 2 (.t 6), none⟩,
  ⟨(some 48), (some (46, true)), .load true 2 (.t 6), none⟩,
  ⟨(some 49), (some (46, true)), .call 10 [.t 47, .t 48], none⟩,
  ⟨(some 50), (some (46, true)), .build [.lst .nil [], .int .u64 0] [], none⟩,
  ⟨(some 51), (some (46, true)), .call 14 [.t 49, .t 50], none⟩,
  ⟨(some 52), none, .pick (.t 46) (.t 51) (.c (.bool false)), none⟩,
  ⟨(some 53), none, .mov (.t 52), none⟩,
  ⟨(some 54), (some (53, true)), .load true 2 (.t 6), none⟩,
  ⟨(some 55), (some (53, true)), .load true 2 (.t 6), none⟩,
  ⟨(some 56), (some (53, true)), .call 9 [.t 54, .t 55], none⟩,
  ⟨(some 57), (some (53, true)), .fieldV false 1 1 (.t 56), none⟩,
  ⟨(some 58), (some (53, true)), .bin .eql (.t 57) (.c (.int .u64 128)), none⟩,
  ⟨(some 59), none, .pick (.t 53) (.t 58) (.c (.bool false)), none⟩,
  ⟨(some 60), none, .mov (.t 59), none⟩,
  ⟨(some 61), (some (60, true)), .load true 2 (.t 6), none⟩,
  ⟨(some 62), (some (60, true)), .call 11 [.t 61, .c (.int .u64 2)], none⟩,
  ⟨(some 63), (some (60, true)), .fieldV false 0 1 (.t 62), none⟩,
  ⟨(some 64), (some (60, true)), .len (.t 63), none⟩,
  ⟨(some 65), (some (60, true)), .bin .eql (.t 64) (.c (.int .i64 1)), none⟩,
  ⟨(some 66), none, .pick (.t 60) (.t 65) (.c (.bool false)), none⟩,
  ⟨(some 67), none, .mov (.t 66), none⟩,
  ⟨(some 68), (some (67, true)), .load true 2 (.t 6), none⟩,
  ⟨(some 69), (some (67, true)), .call 11 [.t 68, .c (.int .u64 2)], none⟩,
  ⟨(some 70), (some (67, true)), .fieldV false 0 1 (.t 69), none⟩,
  ⟨(some 71), (some (67, true)), .idxS 2 (.t 70) (.c (.int .i64 0)), none⟩,
  ⟨(some 72), (some (67, true)), .off 1 (.t 71), none⟩,
  ⟨(some 73), (some (67, true)), .load false 1 (.t 72), none⟩,
  ⟨(some 74), (some (67, true)), .bin .eql (.t 73) (.c (.int .u64 16)), none⟩,
  ⟨(some 75), none, .pick (.t 67) (.t 74) (.c (.bool false)), none⟩,
  ⟨(some 0), none, .mov (.t 75), none⟩]
/-- lockstep/locksteplaw17.awake -/
def c8 : AC :=
  .seq (.ops r8_0)
  (.seq (.ops r8_1)
   (.seq (.ops r8_2)
    (.seq (.ops r8_3)
     (.seq (.ops r8_4)
      (.seq (.ops r8_5)
       (.ret))))))
def a8 : AFn := { res := [.tmp 0], body := c8, keepA := false, keepR := false, pure := true }
theorem k8 : chkFn Tryz.prog Tryz.f8 a8 = true := by kernel_rfl

/-! lockstep/affine.Plus -/
def r9_0 : List AOp :=
  [⟨(some 2), none, .box false 2 (.t 0), none⟩,
  ⟨(some 3), none, .box false 2 (.t 1), none⟩,
  ⟨(some 4), none, .alloc false [.lst .nil [], .int .u64 0], none⟩]
def r9_1 : List AOp :=
  [⟨(some 5), none, .load true 2 (.t 2), none⟩,
  ⟨(some 6), none, .load true 2 (.t 3), none⟩,
  ⟨(some 7), none, .bslice false 2 2 [.lst .nil [], .int .u64 0] [(0, .t 5), (1, .t 6)], none⟩,
  ⟨(some 8), none, .call 20 [.t 7], none⟩,
  ⟨(some 9), none, .un .not (.t 8), none⟩]
def r9_2 : List AOp :=
  [⟨(some 10), none, .build [.lst .nil [], .int .u64 0] [], none⟩,
  ⟨none, none, .store 2 (.t 4) (.t 10), none⟩]
def r9_3 : List AOp :=
  [⟨(some 11), none, .load true 2 (.t 2), none⟩,
  ⟨(some 12), none, .load true 2 (.t 3), none⟩,
  ⟨(some 13), none, .call 21 [.t 11, .t 12, .c (.fn 22 [] [])], none⟩,
  ⟨none, none, .store 2 (.t 4) (.t 13), none⟩]
/-- lockstep/affine.Plus -/
def c9 : AC :=
  .seq (.ops r9_0)
  (.seq (.seq (.ops r9_1)
    (.cond (.t 9) (.seq (.ops r9_2)
      (.ret)) (.skip)))
   (.seq (.ops r9_3)
    (.ret)))
def a9 : AFn := { res := [.cell 4 2 true], body := c9, keepA := false, keepR := false, pure := true }
theorem k9 : chkFn Tryz.prog Tryz.f9 a9 = true := by kernel_rfl

/-! lockstep/affine.Minus -/
def r10_0 : List AOp :=
  [⟨(some 2), none, .box false 2 (.t 0), none⟩,
  ⟨(some 3), none, .box false 2 (.t 1), none⟩,
  ⟨(some 4), none, .alloc false [.lst .nil [], .int .u64 0], none⟩]
def r10_1 : List AOp :=
  [⟨(some 5), none, .load true 2 (.t 2), none⟩,
  ⟨(some 6), none, .load true 2 (.t 3), none⟩,
  ⟨(some 7), none, .bslice false 2 2 [.lst .nil [], .int .u64 0] [(0, .t 5), (1, .t 6)], none⟩,
  ⟨(some 8), none, .call 20 [.t 7], none⟩,
  ⟨(some 9), none, .un .not (.t 8), none⟩]
def r10_2 : List AOp :=
  [⟨(some 10), none, .build [.lst .nil [], .int .u64 0] [], none⟩,
  ⟨none, none, .store 2 (.t 4) (.t 10), none⟩]
def r10_3 : List AOp :=
  [⟨(some 11), none, .load true 2 (.t 2), none⟩,
  ⟨(some 12), none, .load true 2 (.t 3), none⟩,
  ⟨(some 13), none, .call 21 [.t 11, .t 12, .c (.fn 23 [] [])], none⟩,
  ⟨none, none, .store 2 (.t 4) (.t 13), none⟩]
/-- lockstep/affine.Minus -/
def c10 : AC :=
  .seq (.ops r10_0)
  (.seq (.seq (.ops r10_1)
    (.cond (.t 9) (.seq (.ops r10_2)
      (.ret)) (.skip)))
   (.seq (.ops r10_3)
    (.ret)))
def a10 : AFn := { res := [.cell 4 2 true], body := c10, keepA := false, keepR := false, pure := true }
theorem k10 : chkFn Tryz.prog Tryz.f10 a10 = true := by kernel_rfl

/-! lockstep/affine.Times -/
def r11_0 : List AOp :=
  [⟨(some 2), none, .box false 2 (.t 0), none⟩,
  ⟨(some 3), none, .box true 1 (.t 1), none⟩,
  ⟨(some 4), none, .alloc false [.lst .nil [], .int .u64 0], none⟩]
def r11_1 : List AOp :=
  [⟨(some 5), none, .load true 2 (.t 2), none⟩,
  ⟨(some 6), none, .call 12 [.t 5], none⟩,
  ⟨(some 7), none, .un .not (.t 6), none⟩]
def r11_2 : List AOp :=
  [⟨(some 8), none, .build [.lst .nil [], .int .u64 0] [], none⟩,
  ⟨none, none, .store 2 (.t 4) (.t 8), none⟩]
def r11_3 : List AOp :=
  [⟨(some 9), none, .load true 2 (.t 2), none⟩,
  ⟨(some 10), none, .build [.lst .nil [], .int .u64 0] [], none⟩,
  ⟨(some 11), none, .mkfn 24 [] [.t 3], none⟩,
  ⟨(some 12), none, .call 21 [.t 9, .t 10, .t 11], none⟩,
  ⟨none, none, .store 2 (.t 4) (.t 12), none⟩]
/-- lockstep/affine.Times -/
def c11 : AC :=
  .seq (.ops r11_0)
  (.seq (.seq (.ops r11_1)
    (.cond (.t 7) (.seq (.ops r11_2)
      (.ret)) (.skip)))
   (.seq (.ops r11_3)
    (.ret)))
def a11 : AFn := { res := [.cell 4 2 true], body := c11, keepA := false, keepR := false, pure := true }
theorem k11 : chkFn Tryz.prog Tryz.f11 a11 = true := by kernel_rfl

/-! lockstep/affine.May -/
def r12_0 : List AOp :=
  [⟨(some 1), none, .box false 2 (.t 0), none⟩,
  ⟨(some 2), none, .mov (.c (.bool false)), none⟩]
def r12_1 : List AOp :=
  [⟨(some 3), none, .mov (.c (.int .i64 0)), none⟩]
def r12_2 : List AOp :=
  [⟨(some 6), none, .off 0 (.t 1), none⟩,
  ⟨(some 7), none, .load false 1 (.t 6), none⟩,
  ⟨(some 8), none, .len (.t 7), none⟩,
  ⟨(some 9), none, .mov (.c (.int .i64 0)), none⟩]
def r12_3 : List AOp :=
  [⟨(some 10), none, .bin .lss (.t 9) (.t 8), none⟩]
def r12_4 : List AOp :=
  [⟨(some 11), none, .idxS 2 (.t 7) (.t 9), none⟩,
  ⟨(some 12), none, .load true 2 (.t 11), none⟩,
  ⟨(some 5), none, .alloc false [.int .i64 0, .int .u64 0], none⟩,
  ⟨none, none, .store 2 (.t 5) (.t 12), none⟩]
def r12_5 : List AOp :=
  [⟨(some 13), none, .off 0 (.t 5), none⟩,
  ⟨(some 14), none, .load false 1 (.t 13), none⟩,
  ⟨(some 15), none, .mov (.t 3), none⟩,
  ⟨(some 16), none, .bin .leq (.t 14) (.t 15), none⟩,
  ⟨(some 17), none, .mov (.t 16), none⟩,
  ⟨(some 18), (some (17, false)), .off 0 (.t 5), none⟩,
  ⟨(some 19), (some (17, false)), .load false 1 (.t 18), none⟩,
  ⟨(some 20), (some (17, false)), .bin .gtr (.t 19) (.c (.int .i64 1023)), none⟩,
  ⟨(some 21), none, .pick (.t 17) (.c (.bool true)) (.t 20), none⟩,
  ⟨(some 22), none, .mov (.t 21), none⟩,
  ⟨(some 23), (some (22, false)), .off 1 (.t 5), none⟩,
  ⟨(some 24), (some (22, false)), .load false 1 (.t 23), none⟩,
  ⟨(some 25), (some (22, false)), .bin .eql (.t 24) (.c (.int .u64 0)), none⟩,
  ⟨(some 26), none, .pick (.t 22) (.c (.bool true)) (.t 25), none⟩]
def r12_6 : List AOp :=
  [⟨(some 2), none, .mov (.c (.bool false)), none⟩]
def r12_7 : List AOp :=
  [⟨(some 27), none, .off 0 (.t 5), none⟩,
  ⟨(some 28), none, .load false 1 (.t 27), none⟩,
  ⟨(some 3), none, .mov (.t 28), none⟩]
def r12_8 : List AOp :=
  [⟨(some 29), none, .bin .add (.t 9) (.c (.int .i64 1)), none⟩,
  ⟨(some 9), none, .mov (.t 29), none⟩]
def l12_0 : AC :=
  .seq (.ops r12_3)
  (.seq (.cond (.t 10) (.skip) (.exit 0))
   (.seq (.block 1 (.seq (.ops r12_4)
      (.seq (.seq (.ops r12_5)
        (.cond (.t 26) (.seq (.ops r12_6)
          (.ret)) (.skip)))
       (.ops r12_7))))
    (.ops r12_8)))
def r12_9 : List AOp :=
  [⟨(some 2), none, .mov (.c (.bool true)), none⟩]
/-- lockstep/affine.May -/
def c12 : AC :=
  .seq (.ops r12_0)
  (.seq (.ops r12_1)
   (.seq (.seq (.ops r12_2)
     (.block 0 (.loop l12_0)))
    (.seq (.ops r12_9)
     (.ret))))
def a12 : AFn := { res := [.tmp 2], body := c12, keepA := false, keepR := false, pure := true }
theorem k12 : chkFn Tryz.prog Tryz.f12 a12 = true := by kernel_rfl

/-! lockstep/lockstepref17.May -/
def r13_0 : List AOp :=
  [⟨(some 1), none, .box false 2 (.t 0), none⟩,
  ⟨(some 2), none, .mov (.c (.bool false)), none⟩]
def r13_1 : List AOp :=
  [⟨(some 3), none, .mov (.c (.int .i64 0)), none⟩]
def r13_2 : List AOp :=
  [⟨(some 4), none, .mov (.t 3), none⟩,
  ⟨(some 5), none, .off 0 (.t 1), none⟩,
  ⟨(some 6), none, .load false 1 (.t 5), none⟩,
  ⟨(some 7), none, .len (.t 6), none⟩,
  ⟨(some 8), none, .bin .lss (.t 4) (.t 7), none⟩]
def r13_4 : List AOp :=
  [⟨(some 11), none, .off 0 (.t 1), (some (.t 1, .loc 1))⟩,
  ⟨(some 12), none, .load false 1 (.t 11), (some (.t 11, .loc 1))⟩,
  ⟨(some 13), none, .mov (.t 3), none⟩,
  ⟨(some 14), none, .idxS 2 (.t 12) (.t 13), (some (.t 12, .lst))⟩,
  ⟨(some 15), none, .off 0 (.t 14), (some (.t 14, .imm))⟩,
  ⟨(some 16), none, .load false 1 (.t 15), (some (.t 15, .imm))⟩,
  ⟨(some 17), none, .bin .lss (.t 16) (.c (.int .i64 1)), none⟩,
  ⟨(some 18), none, .mov (.t 17), none⟩,
  ⟨(some 19), (some (18, false)), .off 0 (.t 1), (some (.t 1, .loc 1))⟩,
  ⟨(some 20), (some (18, false)), .load false 1 (.t 19), (some (.t 19, .loc 1))⟩,
  ⟨(some 21), (some (18, false)), .mov (.t 3), none⟩,
  ⟨(some 22), (some (18, false)), .idxS 2 (.t 20) (.t 21), (some (.t 20, .lst))⟩,
  ⟨(some 23), (some (18, false)), .off 0 (.t 22), (some (.t 22, .imm))⟩,
  ⟨(some 24), (some (18, false)), .load false 1 (.t 23), (some (.t 23, .imm))⟩,
  ⟨(some 25), (some (18, false)), .bin .gtr (.t 24) (.c (.int .i64 1023)), none⟩,
  ⟨(some 26), none, .pick (.t 18) (.c (.bool true)) (.t 25), none⟩,
  ⟨(some 27), none, .mov (.t 26), none⟩,
  ⟨(some 28), (some (27, false)), .off 0 (.t 1), (some (.t 1, .loc 1))⟩,
  ⟨(some 29), (some (27, false)), .load false 1 (.t 28), (some (.t 28, .loc 1))⟩,
  ⟨(some 30), (some (27, false)), .mov (.t 3), none⟩,
  ⟨(some 31), (some (27, false)), .idxS 2 (.t 29) (.t 30), (some (.t 29, .lst))⟩,
  ⟨(some 32), (some (27, false)), .off 1 (.t 31), (some (.t 31, .imm))⟩,
  ⟨(some 33), (some (27, false)), .load false 1 (.t 32), (some (.t 32, .imm))⟩,
  ⟨(some 34), (some (27, false)), .bin .eql (.t 33) (.c (.int .u64 0)), none⟩,
  ⟨(some 35), none, .pick (.t 27) (.c (.bool true)) (.t 34), none⟩,
  ⟨(some 36), none, .mov (.t 35), none⟩,
  ⟨(some 37), (some (36, false)), .mov (.t 3), none⟩,
  ⟨(some 38), (some (36, false)), .bin .gtr (.t 37) (.c (.int .i64 0)), none⟩,
  ⟨(some 39), (some (36, false)), .mov (.t 38), none⟩,
  ⟨(some 40), (some (39, true)), .off 0 (.t 1), (some (.t 1, .loc 1))⟩,
  ⟨(some 41), (some (39, true)), .load false 1 (.t 40), (some (.t 40, .loc 1))⟩,
  ⟨(some 42), (some (39, true)), .mov (.t 3), none⟩,
  ⟨(some 43), (some (39, true)), .idxS 2 (.t 41) (.t 42), (some (.t 41, .lst))⟩,
  ⟨(some 44), (some (39, true)), .off 0 (.t 43), (some (.t 43, .imm))⟩,
  ⟨(some 45), (some (39, true)), .load false 1 (.t 44), (some (.t 44, .imm))⟩,
  ⟨(some 46), (some (39, true)), .off 0 (.t 1), (some (.t 1, .loc 1))⟩,
  ⟨(some 47), (some (39, true)), .load false 1 (.t 46), (some (.t 46, .loc 1))⟩,
  ⟨(some 48), (some (39, true)), .mov (.t 3), none⟩,
  ⟨(some 49), (some (39, true)), .bin .sub (.t 48) (.c (.int .i64 1)), none⟩,
  ⟨(some 50), (some (39, true)), .idxS 2 (.t 47) (.t 49), (some (.t 47, .lst))⟩,
  ⟨(some 51), (some (39, true)), .off 0 (.t 50), (some (.t 50, .imm))⟩,
  ⟨(some 52), (some (39, true)), .load false 1 (.t 51), (some (.t 51, .imm))⟩,
  ⟨(some 53), (some (39, true)), .bin .leq (.t 45) (.t 52), none⟩,
  ⟨(some 54), (some (36, false)), .pick (.t 39) (.t 53) (.c (.bool false)), none⟩,
  ⟨(some 55), none, .pick (.t 36) (.c (.bool true)) (.t 54), none⟩]
def p13_4 : List (List Nat) := [[], [0], [], [1, 2], [3], [4], [5], [6], [7], [8, 7], [7], [9, 10, 7], [11, 7], [12, 7], [13, 7], [7, 14], [15, 7], [16], [17, 16], [16], [18, 19, 16], [20, 16], [21, 16], [22, 16], [16, 23], [24, 16], [25], [26, 25], [27, 25, 25], [28], [29, 28], [28], [30, 31, 28], [32, 28], [33, 28], [28], [35, 28], [28], [37, 28], [36, 38, 28], [39, 28], [40, 28], [34, 41, 28], [28, 42, 25], [25, 43]]
def r13_5 : List AOp :=
  [⟨(some 2), none, .mov (.c (.bool false)), none⟩]
def r13_3 : List AOp :=
  [⟨(some 9), none, .mov (.t 3), none⟩,
  ⟨(some 10), none, .bin .add (.t 9) (.c (.int .i64 1)), none⟩,
  ⟨(some 3), none, .mov (.t 10), none⟩]
def l13_0 : AC :=
  .seq (.seq (.ops r13_2)
   (.cond (.t 8) (.skip) (.exit 0)))
  (.seq (.block 1 (.seq (.tops r13_4
        p13_4)
     (.cond (.t 55) (.seq (.ops r13_5)
       (.ret)) (.skip))))
   (.ops r13_3))
def r13_6 : List AOp :=
  [⟨(some 2), none, .mov (.c (.bool true)), none⟩]
/-- lockstep/lockstepref17.May -/
def c13 : AC :=
  .seq (.ops r13_0)
  (.seq (.seq (.ops r13_1)
    (.block 0 (.loop l13_0)))
   (.seq (.ops r13_6)
    (.ret)))
def a13 : AFn := { res := [.tmp 2], body := c13, keepA := false, keepR := false, pure := true }
theorem k13 : chkFn Tryz.prog Tryz.f13 a13 = true := by kernel_rfl

/-! lockstep/affine.Same -/
def r14_0 : List AOp :=
  [⟨(some 2), none, .box false 2 (.t 0), none⟩,
  ⟨(some 3), none, .box false 2 (.t 1), none⟩,
  ⟨(some 4), none, .mov (.c (.bool false)), none⟩]
def r14_1 : List AOp :=
  [⟨(some 5), none, .off 1 (.t 2), none⟩,
  ⟨(some 6), none, .load false 1 (.t 5), none⟩,
  ⟨(some 7), none, .off 1 (.t 3), none⟩,
  ⟨(some 8), none, .load false 1 (.t 7), none⟩,
  ⟨(some 9), none, .bin .eql (.t 6) (.t 8), none⟩,
  ⟨(some 10), none, .mov (.t 9), none⟩,
  ⟨(some 11), (some (10, true)), .off 0 (.t 2), none⟩,
  ⟨(some 12), (some (10, true)), .load false 1 (.t 11), none⟩,
  ⟨(some 13), (some (10, true)), .off 0 (.t 3), none⟩,
  ⟨(some 14), (some (10, true)), .load false 1 (.t 13), none⟩,
  ⟨(some 15), (some (10, true)), .call 25 [.t 12, .t 14], none⟩,
  ⟨(some 16), none, .pick (.t 10) (.t 15) (.c (.bool false)), none⟩,
  ⟨(some 4), none, .mov (.t 16), none⟩]
/-- lockstep/affine.Same -/
def c14 : AC :=
  .seq (.ops r14_0)
  (.seq (.ops r14_1)
   (.ret))
def a14 : AFn := { res := [.tmp 4], body := c14, keepA := false, keepR := false, pure := true }
theorem k14 : chkFn Tryz.prog Tryz.f14 a14 = true := by kernel_rfl

/-! lockstep/lockstepref17.Same -/
def r15_0 : List AOp :=
  [⟨(some 2), none, .box false 2 (.t 0), none⟩,
  ⟨(some 3), none, .box false 2 (.t 1), none⟩,
  ⟨(some 4), none, .mov (.c (.bool false)), none⟩]
def r15_1 : List AOp :=
  [⟨(some 6), none, .off 1 (.t 2), none⟩,
  ⟨(some 7), none, .load false 1 (.t 6), none⟩,
  ⟨(some 8), none, .off 1 (.t 3), none⟩,
  ⟨(some 9), none, .load false 1 (.t 8), none⟩,
  ⟨(some 10), none, .bin .neq (.t 7) (.t 9), none⟩,
  ⟨(some 11), none, .mov (.t 10), none⟩,
  ⟨(some 12), (some (11, false)), .off 0 (.t 2), none⟩,
  ⟨(some 13), (some (11, false)), .load false 1 (.t 12), none⟩,
  ⟨(some 14), (some (11, false)), .len (.t 13), none⟩,
  ⟨(some 15), (some (11, false)), .off 0 (.t 3), none⟩,
  ⟨(some 16), (some (11, false)), .load false 1 (.t 15), none⟩,
  ⟨(some 17), (some (11, false)), .len (.t 16), none⟩,
  ⟨(some 18), (some (11, false)), .bin .neq (.t 14) (.t 17), none⟩,
  ⟨(some 19), none, .pick (.t 11) (.c (.bool true)) (.t 18), none⟩]
def r15_2 : List AOp :=
  [⟨(some 4), none, .mov (.c (.bool false)), none⟩]
def r15_3 : List AOp :=
  [⟨(some 5), none, .mov (.c (.int .i64 0)), none⟩]
def r15_4 : List AOp :=
  [⟨(some 20), none, .mov (.t 5), none⟩,
  ⟨(some 21), none, .off 0 (.t 2), none⟩,
  ⟨(some 22), none, .load false 1 (.t 21), none⟩,
  ⟨(some 23), none, .len (.t 22), none⟩,
  ⟨(some 24), none, .bin .lss (.t 20) (.t 23), none⟩]
def r15_6 : List AOp :=
  [⟨(some 27), none, .off 0 (.t 2), (some (.t 2, .loc 2))⟩,
  ⟨(some 28), none, .load false 1 (.t 27), (some (.t 27, .loc 2))⟩,
  ⟨(some 29), none, .mov (.t 5), none⟩,
  ⟨(some 30), none, .idxS 2 (.t 28) (.t 29), (some (.t 28, .lst))⟩,
  ⟨(some 31), none, .load true 2 (.t 30), (some (.t 30, .imm))⟩,
  ⟨(some 32), none, .off 0 (.t 3), (some (.t 3, .loc 3))⟩,
  ⟨(some 33), none, .load false 1 (.t 32), (some (.t 32, .loc 3))⟩,
  ⟨(some 34), none, .mov (.t 5), none⟩,
  ⟨(some 35), none, .idxS 2 (.t 33) (.t 34), (some (.t 33, .lst))⟩,
  ⟨(some 36), none, .load true 2 (.t 35), (some (.t 35, .imm))⟩,
  ⟨(some 37), none, .eq true (.agg 2) (.t 31) (.t 36), none⟩]
def p15_6 : List (List Nat) := [[], [0], [], [1, 2], [3], [], [5], [], [6, 7], [8], [4, 9]]
def r15_7 : List AOp :=
  [⟨(some 4), none, .mov (.c (.bool false)), none⟩]
def r15_5 : List AOp :=
  [⟨(some 25), none, .mov (.t 5), none⟩,
  ⟨(some 26), none, .bin .add (.t 25) (.c (.int .i64 1)), none⟩,
  ⟨(some 5), none, .mov (.t 26), none⟩]
def l15_0 : AC :=
  .seq (.seq (.ops r15_4)
   (.cond (.t 24) (.skip) (.exit 0)))
  (.seq (.block 1 (.seq (.tops r15_6
        p15_6)
     (.cond (.t 37) (.seq (.ops r15_7)
       (.ret)) (.skip))))
   (.ops r15_5))
def r15_8 : List AOp :=
  [⟨(some 4), none, .mov (.c (.bool true)), none⟩]
/-- lockstep/lockstepref17.Same -/
def c15 : AC :=
  .seq (.ops r15_0)
  (.seq (.seq (.ops r15_1)
    (.cond (.t 19) (.seq (.ops r15_2)
      (.ret)) (.skip)))
   (.seq (.seq (.ops r15_3)
     (.block 0 (.loop l15_0)))
    (.seq (.ops r15_8)
     (.ret))))
def a15 : AFn := { res := [.tmp 4], body := c15, keepA := false, keepR := false, pure := true }
theorem k15 : chkFn Tryz.prog Tryz.f15 a15 = true := by kernel_rfl

/-! lockstep/lockstepref17.Mix -/
def r16_0 : List AOp :=
  [⟨(some 4), none, .box false 2 (.t 0), none⟩,
  ⟨(some 6), none, .box false 2 (.t 2), none⟩,
  ⟨(some 8), none, .alloc false [.lst .nil [], .int .u64 0], none⟩]
def r16_1 : List AOp :=
  [⟨(some 12), none, .load true 2 (.t 4), none⟩,
  ⟨(some 13), none, .call 26 [.t 12], none⟩,
  ⟨(some 9), none, .mov (.t 13), none⟩]
def r16_2 : List AOp :=
  [⟨(some 14), none, .load true 2 (.t 6), none⟩,
  ⟨(some 15), none, .call 26 [.t 14], none⟩,
  ⟨(some 10), none, .mov (.t 15), none⟩]
def r16_3 : List AOp :=
  [⟨(some 11), none, .mov (.c (.int .i64 0)), none⟩]
def r16_4 : List AOp :=
  [⟨(some 16), none, .mov (.t 11), none⟩,
  ⟨(some 17), none, .bin .lss (.t 16) (.c (.int .i64 1024)), none⟩]
def r16_6 : List AOp :=
  [⟨(some 20), none, .mov (.t 9), none⟩,
  ⟨(some 21), none, .mov (.t 11), none⟩,
  ⟨(some 22), none, .mov (.t 9), none⟩,
  ⟨(some 23), none, .mov (.t 11), none⟩,
  ⟨(some 24), none, .nilchk (.t 22), none⟩,
  ⟨(some 25), none, .off 0 (.t 24), none⟩,
  ⟨(some 26), none, .idxA 1024 1 (.t 25) (.t 23), none⟩,
  ⟨(some 27), none, .load false 1 (.t 26), none⟩,
  ⟨(some 28), none, .mov (.t 1), none⟩,
  ⟨(some 29), none, .bin .mul (.t 27) (.t 28), none⟩,
  ⟨(some 30), none, .mov (.t 10), none⟩,
  ⟨(some 31), none, .mov (.t 11), none⟩,
  ⟨(some 32), none, .nilchk (.t 30), none⟩,
  ⟨(some 33), none, .off 0 (.t 32), none⟩,
  ⟨(some 34), none, .idxA 1024 1 (.t 33) (.t 31), none⟩,
  ⟨(some 35), none, .load false 1 (.t 34), none⟩,
  ⟨(some 36), none, .mov (.t 3), none⟩,
  ⟨(some 37), none, .bin .mul (.t 35) (.t 36), none⟩,
  ⟨(some 38), none, .bin .add (.t 29) (.t 37), none⟩,
  ⟨(some 39), none, .nilchk (.t 20), none⟩,
  ⟨(some 40), none, .off 0 (.t 39), none⟩,
  ⟨(some 41), none, .idxA 1024 1 (.t 40) (.t 21), none⟩,
  ⟨none, none, .store 1 (.t 41) (.t 38), none⟩]
def p16_6 : List (List Nat) := [[], [], [], [], [2], [4], [5, 3], [6], [], [7, 8], [], [], [10], [12], [13, 11], [14], [], [15, 16], [9, 17], [0], [19], [20, 1, 0, 1, 2, 3, 4, 5, 6, 7, 8, 9, 10, 11, 12, 13, 14, 15, 16, 17, 18], [21, 18, 0, 1, 2, 3, 4, 5, 6, 7, 8, 9, 10, 11, 12, 13, 14, 15, 16, 17, 18]]
def r16_5 : List AOp :=
  [⟨(some 18), none, .mov (.t 11), none⟩,
  ⟨(some 19), none, .bin .add (.t 18) (.c (.int .i64 1)), none⟩,
  ⟨(some 11), none, .mov (.t 19), none⟩]
def l16_0 : AC :=
  .seq (.seq (.ops r16_4)
   (.cond (.t 17) (.skip) (.exit 0)))
  (.seq (.block 1 (.tops r16_6
       p16_6))
   (.ops r16_5))
def r16_7 : List AOp :=
  [⟨(some 42), none, .mov (.t 9), none⟩,
  ⟨(some 43), none, .mov (.t 9), none⟩,
  ⟨(some 44), none, .nilchk (.t 43), none⟩,
  ⟨(some 45), none, .off 1024 (.t 44), none⟩,
  ⟨(some 46), none, .load false 1 (.t 45), none⟩,
  ⟨(some 47), none, .mov (.t 1), none⟩,
  ⟨(some 48), none, .bin .mul (.t 46) (.t 47), none⟩,
  ⟨(some 49), none, .mov (.t 10), none⟩,
  ⟨(some 50), none, .nilchk (.t 49), none⟩,
  ⟨(some 51), none, .off 1024 (.t 50), none⟩,
  ⟨(some 52), none, .load false 1 (.t 51), none⟩,
  ⟨(some 53), none, .mov (.t 3), none⟩,
  ⟨(some 54), none, .bin .mul (.t 52) (.t 53), none⟩,
  ⟨(some 55), none, .bin .add (.t 48) (.t 54), none⟩,
  ⟨(some 56), none, .nilchk (.t 42), none⟩,
  ⟨(some 57), none, .off 1024 (.t 56), none⟩,
  ⟨none, none, .store 1 (.t 57) (.t 55), none⟩]
def p16_7 : List (List Nat) := [[], [], [1], [2], [3], [], [4, 5], [], [7], [8], [9], [], [10, 11], [6, 12], [0, 0, 1, 2, 3, 4, 5, 6, 7, 8, 9, 10, 11, 12, 13], [14, 0, 1, 2, 3, 4, 5, 6, 7, 8, 9, 10, 11, 12, 13], [15, 13, 0, 1, 2, 3, 4, 5, 6, 7, 8, 9, 10, 11, 12, 13]]
def r16_8 : List AOp :=
  [⟨(some 58), none, .mov (.t 9), none⟩,
  ⟨(some 59), none, .call 27 [.t 58], none⟩,
  ⟨none, none, .store 2 (.t 8) (.t 59), none⟩]
/-- lockstep/lockstepref17.Mix -/
def c16 : AC :=
  .seq (.ops r16_0)
  (.seq (.ops r16_1)
   (.seq (.ops r16_2)
    (.seq (.seq (.ops r16_3)
      (.block 0 (.loop l16_0)))
     (.seq (.tops r16_7
         p16_7)
      (.seq (.ops r16_8)
       (.ret))))))
def a16 : AFn := { res := [.cell 8 2 true], body := c16, keepA := false, keepR := false, pure := true }
theorem k16 : chkFn Tryz.prog Tryz.f16 a16 = true := by kernel_rfl

/-! lockstep/affine.Of -/
def r18_0 : List AOp :=
  [⟨(some 2), none, .box false 3 (.t 0), none⟩,
  ⟨(some 4), none, .alloc false [.lst .nil [], .int .u64 0], none⟩,
  ⟨(some 5), none, .mov (.c (.int .i64 0)), none⟩]
def r18_1 : List AOp :=
  [⟨(some 14), none, .load true 3 (.t 2), none⟩,
  ⟨(some 15), none, .call 29 [.t 14], none⟩,
  ⟨(some 16), none, .mov (.t 1), none⟩,
  ⟨(some 17), none, .lookup .i64 (.agg [.int .i64 0, .int .i64 0]) true (.t 15) (.t 16), none⟩,
  ⟨(some 13), none, .mov (.t 17), none⟩,
  ⟨(some 18), none, .ext (.t 13) 0, none⟩,
  ⟨(some 19), none, .ext (.t 13) 1, none⟩,
  ⟨(some 6), none, .alloc false [.int .i64 0, .int .i64 0], none⟩,
  ⟨none, none, .store 2 (.t 6) (.t 18), none⟩,
  ⟨(some 7), none, .mov (.t 19), none⟩]
def r18_2 : List AOp :=
  [⟨(some 20), none, .mov (.t 7), none⟩,
  ⟨(some 21), none, .un .not (.t 20), none⟩,
  ⟨(some 22), none, .mov (.t 21), none⟩,
  ⟨(some 23), (some (22, false)), .load true 2 (.t 6), none⟩,
  ⟨(some 24), (some (22, false)), .build [.int .i64 0, .int .i64 0] [(0, 1, .c (.int .i64 64)), (1, 1, .c (.int .i64 1))], none⟩,
  ⟨(some 25), (some (22, false)), .eq true (.agg 2) (.t 23) (.t 24), none⟩,
  ⟨(some 26), none, .pick (.t 22) (.c (.bool true)) (.t 25), none⟩]
def r18_3 : List AOp :=
  [⟨(some 27), none, .build [.lst .nil [], .int .u64 0] [], none⟩,
  ⟨none, none, .store 2 (.t 4) (.t 27), none⟩,
  ⟨(some 5), none, .mov (.c (.int .i64 10)), none⟩]
def r18_4 : List AOp :=
  [⟨(some 28), none, .mkmap .i64, none⟩,
  ⟨(some 29), none, .mkmap .i64, none⟩,
  ⟨(some 30), none, .build [.map none, .map none] [(0, 1, .t 28), (1, 1, .t 29)], none⟩,
  ⟨(some 31), none, .box true 2 (.t 30), none⟩,
  ⟨(some 8), none, .mov (.t 31), none⟩]
def r18_5 : List AOp :=
  [⟨(some 32), none, .off 2 (.t 2), none⟩,
  ⟨(some 33), none, .load false 1 (.t 32), none⟩,
  ⟨(some 34), none, .len (.t 33), none⟩,
  ⟨(some 35), none, .mov (.c (.int .i64 0)), none⟩]
def r18_6 : List AOp :=
  [⟨(some 36), none, .bin .lss (.t 35) (.t 34), none⟩]
def r18_7 : List AOp :=
  [⟨(some 37), none, .idxS 5 (.t 33) (.t 35), none⟩,
  ⟨(some 38), none, .load true 5 (.t 37), none⟩,
  ⟨(some 10), none, .alloc false [.lst .nil [], .lst .nil [], .int .i64 0, .int .i64 0, .lst .nil []], none⟩,
  ⟨none, none, .store 5 (.t 10) (.t 38), none⟩]
def r18_8 : List AOp :=
  [⟨(some 39), none, .off 1 (.t 10), none⟩,
  ⟨(some 40), none, .load false 1 (.t 39), none⟩,
  ⟨(some 41), none, .len (.t 40), none⟩,
  ⟨(some 42), none, .mov (.c (.int .i64 0)), none⟩]
def r18_9 : List AOp :=
  [⟨(some 43), none, .bin .lss (.t 42) (.t 41), none⟩]
def r18_10 : List AOp :=
  [⟨(some 44), none, .idxS 6 (.t 40) (.t 42), none⟩,
  ⟨(some 45), none, .load true 6 (.t 44), none⟩,
  ⟨(some 12), none, .alloc false [.int .i64 0, .int .i64 0, .int .i64 0, .int .i64 0, .lst .nil [], .int .u64 0], none⟩,
  ⟨none, none, .store 6 (.t 12) (.t 45), none⟩]
def r18_11 : List AOp :=
  [⟨(some 46), none, .mov (.t 8), none⟩,
  ⟨(some 47), none, .nilchk (.t 46), none⟩,
  ⟨(some 48), none, .off 0 (.t 47), none⟩,
  ⟨(some 49), none, .load false 1 (.t 48), none⟩,
  ⟨(some 50), none, .off 3 (.t 12), (some (.t 12, .loc 12))⟩,
  ⟨(some 51), none, .load false 1 (.t 50), (some (.t 50, .loc 12))⟩,
  ⟨(some 52), none, .load true 6 (.t 12), (some (.t 12, .loc 12))⟩,
  ⟨none, none, .mapset .i64 (.t 49) (.t 51) (.t 52), none⟩]
def p18_11 : List (List Nat) := [[], [0], [1], [2], [], [4], [], [3, 5, 6, 0, 1, 2, 3, 4, 5, 6]]
def r18_12 : List AOp :=
  [⟨(some 53), none, .bin .add (.t 42) (.c (.int .i64 1)), none⟩,
  ⟨(some 42), none, .mov (.t 53), none⟩]
def l18_1 : AC :=
  .seq (.ops r18_9)
  (.seq (.cond (.t 43) (.skip) (.exit 2))
   (.seq (.block 3 (.seq (.ops r18_10)
      (.tops r18_11
         p18_11)))
    (.ops r18_12)))
def r18_13 : List AOp :=
  [⟨(some 54), none, .bin .add (.t 35) (.c (.int .i64 1)), none⟩,
  ⟨(some 35), none, .mov (.t 54), none⟩]
def l18_0 : AC :=
  .seq (.ops r18_6)
  (.seq (.cond (.t 36) (.skip) (.exit 0))
   (.seq (.block 1 (.seq (.ops r18_7)
      (.seq (.ops r18_8)
       (.block 2 (.loop l18_1)))))
    (.ops r18_13)))
def r18_14 : List AOp :=
  [⟨(some 55), none, .mov (.t 8), none⟩,
  ⟨(some 56), none, .mov (.t 1), none⟩,
  ⟨(some 57), none, .call 30 [.t 55, .t 56], none⟩,
  ⟨none, none, .store 2 (.t 4) (.t 57), none⟩,
  ⟨(some 5), none, .mov (.c (.int .i64 0)), none⟩]
/-- lockstep/affine.Of -/
def c18 : AC :=
  .seq (.ops r18_0)
  (.seq (.seq (.ops r18_1)
    (.seq (.ops r18_2)
     (.cond (.t 26) (.seq (.ops r18_3)
       (.ret)) (.skip))))
   (.seq (.ops r18_4)
    (.seq (.seq (.ops r18_5)
      (.block 0 (.loop l18_0)))
     (.seq (.ops r18_14)
      (.ret)))))
def a18 : AFn := { res := [.cell 4 2 true, .tmp 5], body := c18, keepA := false, keepR := false, pure := true }
theorem k18 : chkFn Tryz.prog Tryz.f18 a18 = true := by kernel_rfl

/-! lockstep/affine.may -/
def r20_0 : List AOp :=
  [⟨(some 2), none, .mov (.c (.bool false)), none⟩]
def r20_1 : List AOp :=
  [⟨(some 3), none, .mov (.t 0), none⟩,
  ⟨(some 4), none, .call 36 [.t 3, .c (.fn 37 [] [])], none⟩,
  ⟨(some 5), none, .un .not (.t 4), none⟩,
  ⟨(some 2), none, .mov (.t 5), none⟩]
/-- lockstep/affine.may -/
def c20 : AC :=
  .seq (.ops r20_0)
  (.seq (.ops r20_1)
   (.ret))
def a20 : AFn := { res := [.tmp 2], body := c20, keepA := false, keepR := false, pure := true }
theorem k20 : chkFn Tryz.prog Tryz.f20 a20 = true := by kernel_rfl

/-! lockstep/affine.both -/
def r21_0 : List AOp :=
  [⟨(some 3), none, .box false 2 (.t 0), none⟩,
  ⟨(some 4), none, .box false 2 (.t 1), none⟩,
  ⟨(some 6), none, .alloc false [.lst .nil [], .int .u64 0], none⟩]
def r21_1 : List AOp :=
  [⟨(some 11), none, .mov (.t 2), none⟩,
  ⟨(some 12), none, .off 1 (.t 3), none⟩,
  ⟨(some 13), none, .load false 1 (.t 12), none⟩,
  ⟨(some 14), none, .off 1 (.t 4), none⟩,
  ⟨(some 15), none, .load false 1 (.t 14), none⟩,
  ⟨(some 16), none, .calld (.t 11) [.t 13, .t 15], none⟩,
  ⟨(some 17), none, .build [.lst .nil [], .int .u64 0] [(1, 1, .t 16)], none⟩,
  ⟨(some 7), none, .alloc false [.lst .nil [], .int .u64 0], none⟩,
  ⟨none, none, .store 2 (.t 7) (.t 17), none⟩]
def r21_2 : List AOp :=
  [⟨(some 8), none, .mov (.c (.int .i64 0)), none⟩,
  ⟨(some 9), none, .mov (.c (.int .i64 0)), none⟩]
def r21_3 : List AOp :=
  [⟨(some 18), none, .mov (.t 8), none⟩,
  ⟨(some 19), none, .off 0 (.t 3), none⟩,
  ⟨(some 20), none, .load false 1 (.t 19), none⟩,
  ⟨(some 21), none, .len (.t 20), none⟩,
  ⟨(some 22), none, .bin .lss (.t 18) (.t 21), none⟩,
  ⟨(some 23), none, .mov (.t 22), none⟩,
  ⟨(some 24), (some (23, false)), .mov (.t 9), none⟩,
  ⟨(some 25), (some (23, false)), .off 0 (.t 4), none⟩,
  ⟨(some 26), (some (23, false)), .load false 1 (.t 25), none⟩,
  ⟨(some 27), (some (23, false)), .len (.t 26), none⟩,
  ⟨(some 28), (some (23, false)), .bin .lss (.t 24) (.t 27), none⟩,
  ⟨(some 29), none, .pick (.t 23) (.c (.bool true)) (.t 28), none⟩]
def r21_4 : List AOp :=
  [⟨(some 10), none, .alloc false [.int .i64 0, .int .u64 0], none⟩]
def r21_7 : List AOp :=
  [⟨(some 56), none, .mov (.t 9), none⟩,
  ⟨(some 57), none, .off 0 (.t 4), (some (.t 4, .loc 4))⟩,
  ⟨(some 58), none, .load false 1 (.t 57), (some (.t 57, .loc 4))⟩,
  ⟨(some 59), none, .len (.t 58), none⟩,
  ⟨(some 60), none, .bin .eql (.t 56) (.t 59), none⟩,
  ⟨(some 61), none, .mov (.t 60), none⟩,
  ⟨(some 62), (some (61, false)), .mov (.t 8), none⟩,
  ⟨(some 63), (some (61, false)), .off 0 (.t 3), (some (.t 3, .loc 3))⟩,
  ⟨(some 64), (some (61, false)), .load false 1 (.t 63), (some (.t 63, .loc 3))⟩,
  ⟨(some 65), (some (61, false)), .len (.t 64), none⟩,
  ⟨(some 66), (some (61, false)), .bin .lss (.t 62) (.t 65), none⟩,
  ⟨(some 67), (some (61, false)), .mov (.t 66), none⟩,
  ⟨(some 68), (some (67, true)), .off 0 (.t 3), (some (.t 3, .loc 3))⟩,
  ⟨(some 69), (some (67, true)), .load false 1 (.t 68), (some (.t 68, .loc 3))⟩,
  ⟨(some 70), (some (67, true)), .mov (.t 8), none⟩,
  ⟨(some 71), (some (67, true)), .idxS 2 (.t 69) (.t 70), (some (.t 69, .lst))⟩,
  ⟨(some 72), (some (67, true)), .off 0 (.t 71), (some (.t 71, .imm))⟩,
  ⟨(some 73), (some (67, true)), .load false 1 (.t 72), (some (.t 72, .imm))⟩,
  ⟨(some 74), (some (67, true)), .off 0 (.t 4), (some (.t 4, .loc 4))⟩,
  ⟨(some 75), (some (67, true)), .load false 1 (.t 74), (some (.t 74, .loc 4))⟩,
  ⟨(some 76), (some (67, true)), .mov (.t 9), none⟩,
  ⟨(some 77), (some (67, true)), .idxS 2 (.t 75) (.t 76), (some (.t 75, .lst))⟩,
  ⟨(some 78), (some (67, true)), .off 0 (.t 77), (some (.t 77, .imm))⟩,
  ⟨(some 79), (some (67, true)), .load false 1 (.t 78), (some (.t 78, .imm))⟩,
  ⟨(some 80), (some (67, true)), .bin .lss (.t 73) (.t 79), none⟩,
  ⟨(some 81), (some (61, false)), .pick (.t 67) (.t 80) (.c (.bool false)), none⟩,
  ⟨(some 82), none, .pick (.t 61) (.c (.bool true)) (.t 81), none⟩,
  ⟨(some 55), none, .mov (.t 82), none⟩]
def p21_7 : List (List Nat) := [[], [], [1], [2], [0, 3], [4], [5], [5], [7, 5], [8, 5], [6, 9, 5], [10, 5, 5], [11], [12, 11], [11], [13, 14, 11], [15, 11], [16, 11], [11], [18, 11], [11], [19, 20, 11], [21, 11], [22, 11], [17, 23, 11], [11, 24, 5], [5, 25], [26, 11]]
def r21_8 : List AOp :=
  [⟨(some 83), none, .off 0 (.t 3), (some (.t 3, .loc 3))⟩,
  ⟨(some 84), none, .load false 1 (.t 83), (some (.t 83, .loc 3))⟩,
  ⟨(some 85), none, .mov (.t 8), none⟩,
  ⟨(some 86), none, .idxS 2 (.t 84) (.t 85), (some (.t 84, .lst))⟩,
  ⟨(some 87), none, .off 0 (.t 86), (some (.t 86, .imm))⟩,
  ⟨(some 88), none, .load false 1 (.t 87), (some (.t 87, .imm))⟩,
  ⟨(some 89), none, .mov (.t 2), none⟩,
  ⟨(some 90), none, .off 0 (.t 3), (some (.t 3, .loc 3))⟩,
  ⟨(some 91), none, .load false 1 (.t 90), (some (.t 90, .loc 3))⟩,
  ⟨(some 92), none, .mov (.t 8), none⟩,
  ⟨(some 93), none, .idxS 2 (.t 91) (.t 92), (some (.t 91, .lst))⟩,
  ⟨(some 94), none, .off 1 (.t 93), (some (.t 93, .imm))⟩,
  ⟨(some 95), none, .load false 1 (.t 94), (some (.t 94, .imm))⟩,
  ⟨(some 96), none, .calld (.t 89) [.t 95, .c (.int .u64 0)], none⟩,
  ⟨(some 97), none, .build [.int .i64 0, .int .u64 0] [(0, 1, .t 88), (1, 1, .t 96)], none⟩,
  ⟨none, none, .store 2 (.t 10) (.t 97), (some (.t 10, .loc 10))⟩]
def p21_8 : List (List Nat) := [[], [0], [], [1, 2], [3], [4], [], [], [7], [], [8, 9], [10], [11], [6, 12], [5, 13], [14, 13, 0, 1, 2, 3, 4, 5, 6, 7, 8, 9, 10, 11, 12, 13, 14]]
def r21_9 : List AOp :=
  [⟨(some 98), none, .mov (.t 8), none⟩,
  ⟨(some 99), none, .bin .add (.t 98) (.c (.int .i64 1)), none⟩,
  ⟨(some 8), none, .mov (.t 99), none⟩]
def r21_10 : List AOp :=
  [⟨(some 101), none, .mov (.t 8), none⟩,
  ⟨(some 102), none, .off 0 (.t 3), (some (.t 3, .loc 3))⟩,
  ⟨(some 103), none, .load false 1 (.t 102), (some (.t 102, .loc 3))⟩,
  ⟨(some 104), none, .len (.t 103), none⟩,
  ⟨(some 105), none, .bin .eql (.t 101) (.t 104), none⟩,
  ⟨(some 106), none, .mov (.t 105), none⟩,
  ⟨(some 107), (some (106, false)), .off 0 (.t 4), (some (.t 4, .loc 4))⟩,
  ⟨(some 108), (some (106, false)), .load false 1 (.t 107), (some (.t 107, .loc 4))⟩,
  ⟨(some 109), (some (106, false)), .mov (.t 9), none⟩,
  ⟨(some 110), (some (106, false)), .idxS 2 (.t 108) (.t 109), (some (.t 108, .lst))⟩,
  ⟨(some 111), (some (106, false)), .off 0 (.t 110), (some (.t 110, .imm))⟩,
  ⟨(some 112), (some (106, false)), .load false 1 (.t 111), (some (.t 111, .imm))⟩,
  ⟨(some 113), (some (106, false)), .off 0 (.t 3), (some (.t 3, .loc 3))⟩,
  ⟨(some 114), (some (106, false)), .load false 1 (.t 113), (some (.t 113, .loc 3))⟩,
  ⟨(some 115), (some (106, false)), .mov (.t 8), none⟩,
  ⟨(some 116), (some (106, false)), .idxS 2 (.t 114) (.t 115), (some (.t 114, .lst))⟩,
  ⟨(some 117), (some (106, false)), .off 0 (.t 116), (some (.t 116, .imm))⟩,
  ⟨(some 118), (some (106, false)), .load false 1 (.t 117), (some (.t 117, .imm))⟩,
  ⟨(some 119), (some (106, false)), .bin .lss (.t 112) (.t 118), none⟩,
  ⟨(some 120), none, .pick (.t 106) (.c (.bool true)) (.t 119), none⟩,
  ⟨(some 100), none, .mov (.t 120), none⟩]
def p21_10 : List (List Nat) := [[], [], [1], [2], [0, 3], [4], [5], [6, 5], [5], [7, 8, 5], [9, 5], [10, 5], [5], [12, 5], [5], [13, 14, 5], [15, 5], [16, 5], [11, 17, 5], [5, 18], [19, 5]]
def r21_11 : List AOp :=
  [⟨(some 121), none, .off 0 (.t 4), (some (.t 4, .loc 4))⟩,
  ⟨(some 122), none, .load false 1 (.t 121), (some (.t 121, .loc 4))⟩,
  ⟨(some 123), none, .mov (.t 9), none⟩,
  ⟨(some 124), none, .idxS 2 (.t 122) (.t 123), (some (.t 122, .lst))⟩,
  ⟨(some 125), none, .off 0 (.t 124), (some (.t 124, .imm))⟩,
  ⟨(some 126), none, .load false 1 (.t 125), (some (.t 125, .imm))⟩,
  ⟨(some 127), none, .mov (.t 2), none⟩,
  ⟨(some 128), none, .off 0 (.t 4), (some (.t 4, .loc 4))⟩,
  ⟨(some 129), none, .load false 1 (.t 128), (some (.t 128, .loc 4))⟩,
  ⟨(some 130), none, .mov (.t 9), none⟩,
  ⟨(some 131), none, .idxS 2 (.t 129) (.t 130), (some (.t 129, .lst))⟩,
  ⟨(some 132), none, .off 1 (.t 131), (some (.t 131, .imm))⟩,
  ⟨(some 133), none, .load false 1 (.t 132), (some (.t 132, .imm))⟩,
  ⟨(some 134), none, .calld (.t 127) [.c (.int .u64 0), .t 133], none⟩,
  ⟨(some 135), none, .build [.int .i64 0, .int .u64 0] [(0, 1, .t 126), (1, 1, .t 134)], none⟩,
  ⟨none, none, .store 2 (.t 10) (.t 135), (some (.t 10, .loc 10))⟩]
def p21_11 : List (List Nat) := [[], [0], [], [1, 2], [3], [4], [], [], [7], [], [8, 9], [10], [11], [6, 12], [5, 13], [14, 13, 0, 1, 2, 3, 4, 5, 6, 7, 8, 9, 10, 11, 12, 13, 14]]
def r21_12 : List AOp :=
  [⟨(some 136), none, .mov (.t 9), none⟩,
  ⟨(some 137), none, .bin .add (.t 136) (.c (.int .i64 1)), none⟩,
  ⟨(some 9), none, .mov (.t 137), none⟩]
def r21_5 : List AOp :=
  [⟨(some 30), none, .off 0 (.t 3), (some (.t 3, .loc 3))⟩,
  ⟨(some 31), none, .load false 1 (.t 30), (some (.t 30, .loc 3))⟩,
  ⟨(some 32), none, .mov (.t 8), none⟩,
  ⟨(some 33), none, .idxS 2 (.t 31) (.t 32), (some (.t 31, .lst))⟩,
  ⟨(some 34), none, .off 0 (.t 33), (some (.t 33, .imm))⟩,
  ⟨(some 35), none, .load false 1 (.t 34), (some (.t 34, .imm))⟩,
  ⟨(some 36), none, .mov (.t 2), none⟩,
  ⟨(some 37), none, .off 0 (.t 3), (some (.t 3, .loc 3))⟩,
  ⟨(some 38), none, .load false 1 (.t 37), (some (.t 37, .loc 3))⟩,
  ⟨(some 39), none, .mov (.t 8), none⟩,
  ⟨(some 40), none, .idxS 2 (.t 38) (.t 39), (some (.t 38, .lst))⟩,
  ⟨(some 41), none, .off 1 (.t 40), (some (.t 40, .imm))⟩,
  ⟨(some 42), none, .load false 1 (.t 41), (some (.t 41, .imm))⟩,
  ⟨(some 43), none, .off 0 (.t 4), (some (.t 4, .loc 4))⟩,
  ⟨(some 44), none, .load false 1 (.t 43), (some (.t 43, .loc 4))⟩,
  ⟨(some 45), none, .mov (.t 9), none⟩,
  ⟨(some 46), none, .idxS 2 (.t 44) (.t 45), (some (.t 44, .lst))⟩,
  ⟨(some 47), none, .off 1 (.t 46), (some (.t 46, .imm))⟩,
  ⟨(some 48), none, .load false 1 (.t 47), (some (.t 47, .imm))⟩,
  ⟨(some 49), none, .calld (.t 36) [.t 42, .t 48], none⟩,
  ⟨(some 50), none, .build [.int .i64 0, .int .u64 0] [(0, 1, .t 35), (1, 1, .t 49)], none⟩,
  ⟨none, none, .store 2 (.t 10) (.t 50), (some (.t 10, .loc 10))⟩]
def p21_5 : List (List Nat) := [[], [0], [], [1, 2], [3], [4], [], [], [7], [], [8, 9], [10], [11], [], [13], [], [14, 15], [16], [17], [6, 12, 18], [5, 19], [20, 19, 0, 1, 2, 3, 4, 5, 6, 7, 8, 9, 10, 11, 12, 13, 14, 15, 16, 17, 18, 19, 20]]
def r21_6 : List AOp :=
  [⟨(some 51), none, .mov (.t 8), none⟩,
  ⟨(some 52), none, .bin .add (.t 51) (.c (.int .i64 1)), none⟩,
  ⟨(some 53), none, .mov (.t 9), none⟩,
  ⟨(some 54), none, .bin .add (.t 53) (.c (.int .i64 1)), none⟩,
  ⟨(some 8), none, .mov (.t 52), none⟩,
  ⟨(some 9), none, .mov (.t 54), none⟩]
def r21_13 : List AOp :=
  [⟨(some 138), none, .off 1 (.t 10), none⟩,
  ⟨(some 139), none, .load false 1 (.t 138), none⟩,
  ⟨(some 140), none, .bin .neq (.t 139) (.c (.int .u64 0)), none⟩]
def r21_14 : List AOp :=
  [⟨(some 141), none, .off 0 (.t 7), none⟩,
  ⟨(some 142), none, .load false 1 (.t 141), none⟩,
  ⟨(some 143), none, .load true 2 (.t 10), none⟩,
  ⟨(some 144), none, .bslice false 1 2 [.int .i64 0, .int .u64 0] [(0, .t 143)], none⟩,
  ⟨(some 145), none, .append false 2 16 (.t 142) (.t 144), none⟩,
  ⟨(some 146), none, .off 0 (.t 7), none⟩,
  ⟨none, none, .store 1 (.t 146) (.t 145), none⟩]
def l21_0 : AC :=
  .seq (.seq (.ops r21_3)
   (.cond (.t 29) (.skip) (.exit 0)))
  (.block 1 (.seq (.ops r21_4)
    (.seq (.block 2 (.seq (.tops r21_7
          p21_7)
       (.cond (.t 55) (.seq (.tops r21_8
            p21_8)
         (.ops r21_9)) (.seq (.tops r21_10
            p21_10)
         (.cond (.t 100) (.seq (.tops r21_11
              p21_11)
           (.ops r21_12)) (.seq (.tops r21_5
              p21_5)
           (.ops r21_6)))))))
     (.seq (.ops r21_13)
      (.cond (.t 140) (.ops r21_14) (.skip))))))
def r21_15 : List AOp :=
  [⟨(some 147), none, .load true 2 (.t 7), none⟩,
  ⟨none, none, .store 2 (.t 6) (.t 147), none⟩]
/-- lockstep/affine.both -/
def c21 : AC :=
  .seq (.ops r21_0)
  (.seq (.ops r21_1)
   (.seq (.ops r21_2)
    (.seq (.block 0 (.loop l21_0))
     (.seq (.ops r21_15)
      (.ret)))))
def a21 : AFn := { res := [.cell 6 2 true], body := c21, keepA := false, keepR := false, pure := true }
theorem k21 : chkFn Tryz.prog Tryz.f21 a21 = true := by kernel_rfl

/-! lockstep/affine.Plus$1 -/
def r22_0 : List AOp :=
  [⟨(some 4), none, .mov (.c (.int .u64 0)), none⟩]
def r22_1 : List AOp :=
  [⟨(some 5), none, .mov (.t 0), none⟩,
  ⟨(some 6), none, .mov (.t 1), none⟩,
  ⟨(some 7), none, .bin .add (.t 5) (.t 6), none⟩,
  ⟨(some 4), none, .mov (.t 7), none⟩]
/-- lockstep/affine.Plus$1 -/
def c22 : AC :=
  .seq (.ops r22_0)
  (.seq (.ops r22_1)
   (.ret))
def a22 : AFn := { res := [.tmp 4], body := c22, keepA := false, keepR := false, pure := true }
theorem k22 : chkFn Tryz.prog Tryz.f22 a22 = true := by kernel_rfl

/-! lockstep/affine.Minus$1 -/
def r23_0 : List AOp :=
  [⟨(some 4), none, .mov (.c (.int .u64 0)), none⟩]
def r23_1 : List AOp :=
  [⟨(some 5), none, .mov (.t 0), none⟩,
  ⟨(some 6), none, .mov (.t 1), none⟩,
  ⟨(some 7), none, .bin .sub (.t 5) (.t 6), none⟩,
  ⟨(some 4), none, .mov (.t 7), none⟩]
/-- lockstep/affine.Minus$1 -/
def c23 : AC :=
  .seq (.ops r23_0)
  (.seq (.ops r23_1)
   (.ret))
def a23 : AFn := { res := [.tmp 4], body := c23, keepA := false, keepR := false, pure := true }
theorem k23 : chkFn Tryz.prog Tryz.f23 a23 = true := by kernel_rfl

/-! lockstep/affine.Times$1 -/
def r24_0 : List AOp :=
  [⟨(some 5), none, .mov (.c (.int .u64 0)), none⟩]
def r24_1 : List AOp :=
  [⟨(some 6), none, .mov (.t 0), none⟩,
  ⟨(some 7), none, .load false 1 (.t 2), none⟩,
  ⟨(some 8), none, .bin .mul (.t 6) (.t 7), none⟩,
  ⟨(some 5), none, .mov (.t 8), none⟩]
/-- lockstep/affine.Times$1 -/
def c24 : AC :=
  .seq (.ops r24_0)
  (.seq (.ops r24_1)
   (.ret))
def a24 : AFn := { res := [.tmp 5], body := c24, keepA := false, keepR := false, pure := true }
theorem k24 : chkFn Tryz.prog Tryz.f24 a24 = true := by kernel_rfl

/-! slices.Equal[[]lockstep/api.Term,lockstep/api.Term] -/
def r25_0 : List AOp :=
  [⟨(some 4), none, .mov (.c (.bool false)), none⟩]
def r25_1 : List AOp :=
  [⟨(some 6), none, .mov (.t 0), none⟩,
  ⟨(some 7), none, .len (.t 6), none⟩,
  ⟨(some 8), none, .mov (.t 1), none⟩,
  ⟨(some 9), none, .len (.t 8), none⟩,
  ⟨(some 10), none, .bin .neq (.t 7) (.t 9), none⟩]
def r25_2 : List AOp :=
  [⟨(some 4), none, .mov (.c (.bool false)), none⟩]
def r25_3 : List AOp :=
  [⟨(some 11), none, .mov (.t 0), none⟩,
  ⟨(some 12), none, .len (.t 11), none⟩,
  ⟨(some 13), none, .mov (.c (.int .i64 0)), none⟩]
def r25_4 : List AOp :=
  [⟨(some 14), none, .bin .lss (.t 13) (.t 12), none⟩]
def r25_5 : List AOp :=
  [⟨(some 15), none, .mov (.t 13), none⟩,
  ⟨(some 5), none, .mov (.t 15), none⟩]
def r25_6 : List AOp :=
  [⟨(some 16), none, .mov (.t 0), none⟩,
  ⟨(some 17), none, .mov (.t 5), none⟩,
  ⟨(some 18), none, .idxS 2 (.t 16) (.t 17), (some (.t 16, .lst))⟩,
  ⟨(some 19), none, .load true 2 (.t 18), (some (.t 18, .imm))⟩,
  ⟨(some 20), none, .mov (.t 1), none⟩,
  ⟨(some 21), none, .mov (.t 5), none⟩,
  ⟨(some 22), none, .idxS 2 (.t 20) (.t 21), (some (.t 20, .lst))⟩,
  ⟨(some 23), none, .load true 2 (.t 22), (some (.t 22, .imm))⟩,
  ⟨(some 24), none, .eq true (.agg 2) (.t 19) (.t 23), none⟩]
def p25_6 : List (List Nat) := [[], [], [0, 1], [2], [], [], [4, 5], [6], [3, 7]]
def r25_7 : List AOp :=
  [⟨(some 4), none, .mov (.c (.bool false)), none⟩]
def r25_8 : List AOp :=
  [⟨(some 25), none, .bin .add (.t 13) (.c (.int .i64 1)), none⟩,
  ⟨(some 13), none, .mov (.t 25), none⟩]
def l25_0 : AC :=
  .seq (.ops r25_4)
  (.seq (.cond (.t 14) (.skip) (.exit 0))
   (.seq (.block 1 (.seq (.ops r25_5)
      (.seq (.tops r25_6
          p25_6)
       (.cond (.t 24) (.seq (.ops r25_7)
         (.ret)) (.skip)))))
    (.ops r25_8)))
def r25_9 : List AOp :=
  [⟨(some 4), none, .mov (.c (.bool true)), none⟩]
/-- slices.Equal[[]lockstep/api.Term,lockstep/api.Term] -/
def c25 : AC :=
  .seq (.ops r25_0)
  (.seq (.seq (.ops r25_1)
    (.cond (.t 10) (.seq (.ops r25_2)
      (.ret)) (.skip)))
   (.seq (.seq (.ops r25_3)
     (.block 0 (.loop l25_0)))
    (.seq (.ops r25_9)
     (.ret))))
def a25 : AFn := { res := [.tmp 4], body := c25, keepA := false, keepR := false, pure := true }
theorem k25 : chkFn Tryz.prog Tryz.f25 a25 = true := by kernel_rfl

/-! lockstep/lockstepref17.Of -/
def r26_0 : List AOp :=
  [⟨(some 1), none, .box false 2 (.t 0), none⟩,
  ⟨(some 2), none, .mov (.c (.nilp)), none⟩]
def r26_1 : List AOp :=
  [⟨(some 5), none, .off 1 (.t 1), none⟩,
  ⟨(some 6), none, .load false 1 (.t 5), none⟩,
  ⟨(some 7), none, .build (List.replicate 1025 (.int .u64 0)) [(1024, 1, .t 6)], none⟩,
  ⟨(some 8), none, .box true 1025 (.t 7), none⟩,
  ⟨(some 3), none, .mov (.t 8), none⟩]
def r26_2 : List AOp :=
  [⟨(some 4), none, .mov (.c (.int .i64 0)), none⟩]
def r26_3 : List AOp :=
  [⟨(some 9), none, .mov (.t 4), none⟩,
  ⟨(some 10), none, .off 0 (.t 1), none⟩,
  ⟨(some 11), none, .load false 1 (.t 10), none⟩,
  ⟨(some 12), none, .len (.t 11), none⟩,
  ⟨(some 13), none, .bin .lss (.t 9) (.t 12), none⟩]
def r26_5 : List AOp :=
  [⟨(some 16), none, .mov (.t 3), none⟩,
  ⟨(some 17), none, .off 0 (.t 1), (some (.t 1, .loc 1))⟩,
  ⟨(some 18), none, .load false 1 (.t 17), (some (.t 17, .loc 1))⟩,
  ⟨(some 19), none, .mov (.t 4), none⟩,
  ⟨(some 20), none, .idxS 2 (.t 18) (.t 19), (some (.t 18, .lst))⟩,
  ⟨(some 21), none, .off 0 (.t 20), (some (.t 20, .imm))⟩,
  ⟨(some 22), none, .load false 1 (.t 21), (some (.t 21, .imm))⟩,
  ⟨(some 23), none, .off 0 (.t 1), (some (.t 1, .loc 1))⟩,
  ⟨(some 24), none, .load false 1 (.t 23), (some (.t 23, .loc 1))⟩,
  ⟨(some 25), none, .mov (.t 4), none⟩,
  ⟨(some 26), none, .idxS 2 (.t 24) (.t 25), (some (.t 24, .lst))⟩,
  ⟨(some 27), none, .off 1 (.t 26), (some (.t 26, .imm))⟩,
  ⟨(some 28), none, .load false 1 (.t 27), (some (.t 27, .imm))⟩,
  ⟨(some 29), none, .nilchk (.t 16), none⟩,
  ⟨(some 30), none, .off 0 (.t 29), none⟩,
  ⟨(some 31), none, .idxA 1024 1 (.t 30) (.t 22), none⟩,
  ⟨none, none, .store 1 (.t 31) (.t 28), none⟩]
def p26_5 : List (List Nat) := [[], [], [1], [], [2, 3], [4], [5], [], [7], [], [8, 9], [10], [11], [0], [13], [14, 6, 0, 1, 2, 3, 4, 5, 6, 7, 8, 9, 10, 11, 12], [15, 12, 0, 1, 2, 3, 4, 5, 6, 7, 8, 9, 10, 11, 12]]
def r26_4 : List AOp :=
  [⟨(some 14), none, .mov (.t 4), none⟩,
  ⟨(some 15), none, .bin .add (.t 14) (.c (.int .i64 1)), none⟩,
  ⟨(some 4), none, .mov (.t 15), none⟩]
def l26_0 : AC :=
  .seq (.seq (.ops r26_3)
   (.cond (.t 13) (.skip) (.exit 0)))
  (.seq (.block 1 (.tops r26_5
       p26_5))
   (.ops r26_4))
def r26_6 : List AOp :=
  [⟨(some 32), none, .mov (.t 3), none⟩,
  ⟨(some 2), none, .mov (.t 32), none⟩]
/-- lockstep/lockstepref17.Of -/
def c26 : AC :=
  .seq (.ops r26_0)
  (.seq (.ops r26_1)
   (.seq (.seq (.ops r26_2)
     (.block 0 (.loop l26_0)))
    (.seq (.ops r26_6)
     (.ret))))
def a26 : AFn := { res := [.tmp 2], body := c26, keepA := false, keepR := false, pure := false }
theorem k26 : chkFn Tryz.prog Tryz.f26 a26 = true := by kernel_rfl

/-! (*lockstep/lockstepref17.Wide).Form -/
def r27_0 : List AOp :=
  [⟨(some 2), none, .alloc false [.lst .nil [], .int .u64 0], none⟩]
def r27_1 : List AOp :=
  [⟨(some 5), none, .mov (.t 0), none⟩,
  ⟨(some 6), none, .nilchk (.t 5), none⟩,
  ⟨(some 7), none, .off 1024 (.t 6), none⟩,
  ⟨(some 8), none, .load false 1 (.t 7), none⟩,
  ⟨(some 9), none, .build [.lst .nil [], .int .u64 0] [(1, 1, .t 8)], none⟩,
  ⟨(some 3), none, .alloc false [.lst .nil [], .int .u64 0], none⟩,
  ⟨none, none, .store 2 (.t 3) (.t 9), none⟩]
def r27_2 : List AOp :=
  [⟨(some 4), none, .mov (.c (.int .i64 0)), none⟩]
def r27_3 : List AOp :=
  [⟨(some 10), none, .mov (.t 4), none⟩,
  ⟨(some 11), none, .bin .lss (.t 10) (.c (.int .i64 1024)), none⟩]
def r27_5 : List AOp :=
  [⟨(some 14), none, .mov (.t 0), none⟩,
  ⟨(some 15), none, .mov (.t 4), none⟩,
  ⟨(some 16), none, .nilchk (.t 14), none⟩,
  ⟨(some 17), none, .off 0 (.t 16), none⟩,
  ⟨(some 18), none, .idxA 1024 1 (.t 17) (.t 15), none⟩,
  ⟨(some 19), none, .load false 1 (.t 18), none⟩,
  ⟨(some 20), none, .bin .neq (.t 19) (.c (.int .u64 0)), none⟩]
def r27_6 : List AOp :=
  [⟨(some 21), none, .off 0 (.t 3), (some (.t 3, .loc 3))⟩,
  ⟨(some 22), none, .load false 1 (.t 21), (some (.t 21, .loc 3))⟩,
  ⟨(some 23), none, .mov (.t 4), none⟩,
  ⟨(some 24), none, .mov (.t 0), none⟩,
  ⟨(some 25), none, .mov (.t 4), none⟩,
  ⟨(some 26), none, .nilchk (.t 24), none⟩,
  ⟨(some 27), none, .off 0 (.t 26), none⟩,
  ⟨(some 28), none, .idxA 1024 1 (.t 27) (.t 25), none⟩,
  ⟨(some 29), none, .load false 1 (.t 28), none⟩,
  ⟨(some 30), none, .build [.int .i64 0, .int .u64 0] [(0, 1, .t 23), (1, 1, .t 29)], none⟩,
  ⟨(some 31), none, .bslice false 1 2 [.int .i64 0, .int .u64 0] [(0, .t 30)], none⟩,
  ⟨(some 32), none, .append false 2 16 (.t 22) (.t 31), none⟩,
  ⟨(some 33), none, .off 0 (.t 3), (some (.t 3, .loc 3))⟩,
  ⟨none, none, .store 1 (.t 33) (.t 32), (some (.t 33, .loc 3))⟩]
def p27_6 : List (List Nat) := [[], [0], [], [], [], [3], [5], [6, 4], [7], [2, 8], [9], [1, 10], [0, 1, 2, 3, 4, 5, 6, 7, 8, 9, 10, 11], [12, 11, 11, 0, 1, 2, 3, 4, 5, 6, 7, 8, 9, 10, 11]]
def r27_4 : List AOp :=
  [⟨(some 12), none, .mov (.t 4), none⟩,
  ⟨(some 13), none, .bin .add (.t 12) (.c (.int .i64 1)), none⟩,
  ⟨(some 4), none, .mov (.t 13), none⟩]
def l27_0 : AC :=
  .seq (.seq (.ops r27_3)
   (.cond (.t 11) (.skip) (.exit 0)))
  (.seq (.block 1 (.seq (.ops r27_5)
     (.cond (.t 20) (.tops r27_6
         p27_6) (.skip))))
   (.ops r27_4))
def r27_7 : List AOp :=
  [⟨(some 34), none, .load true 2 (.t 3), none⟩,
  ⟨none, none, .store 2 (.t 2) (.t 34), none⟩]
/-- (*lockstep/lockstepref17.Wide).Form -/
def c27 : AC :=
  .seq (.ops r27_0)
  (.seq (.ops r27_1)
   (.seq (.seq (.ops r27_2)
     (.block 0 (.loop l27_0)))
    (.seq (.ops r27_7)
     (.ret))))
def a27 : AFn := { res := [.cell 2 2 true], body := c27, keepA := false, keepR := false, pure := true }
theorem k27 : chkFn Tryz.prog Tryz.f27 a27 = true := by kernel_rfl

/-! lockstep/check.Shapes -/
def r29_0 : List AOp :=
  [⟨(some 1), none, .box false 3 (.t 0), none⟩,
  ⟨(some 2), none, .mov (.c (.map none)), none⟩]
def r29_1 : List AOp :=
  [⟨(some 9), none, .load true 3 (.t 1), none⟩,
  ⟨(some 10), none, .call 38 [.t 9, .c (.int .i64 2)], none⟩,
  ⟨(some 8), none, .mov (.t 10), none⟩,
  ⟨(some 11), none, .ext (.t 8) 0, none⟩,
  ⟨(some 12), none, .ext (.t 8) 1, none⟩,
  ⟨(some 3), none, .mov (.t 11), none⟩,
  ⟨(some 4), none, .mov (.t 12), none⟩]
def r29_2 : List AOp :=
  [⟨(some 13), none, .mov (.t 4), none⟩,
  ⟨(some 14), none, .bin .neq (.t 13) (.c (.int .i64 0)), none⟩]
def r29_3 : List AOp :=
  [⟨(some 2), none, .mov (.c (.map none)), none⟩]
def r29_4 : List AOp :=
  [⟨(some 15), none, .mkmap .i64, none⟩,
  ⟨(some 5), none, .mov (.t 15), none⟩]
def r29_5 : List AOp :=
  [⟨(some 16), none, .mov (.t 3), none⟩,
  ⟨(some 17), none, .nilchk (.t 16), none⟩,
  ⟨(some 18), none, .off 7 (.t 17), none⟩,
  ⟨(some 19), none, .load false 1 (.t 18), none⟩]
def r29_7 : List AOp :=
  [⟨(some 24), none, .ext (.t 23) 0, none⟩,
  ⟨(some 25), none, .ext (.t 23) 1, none⟩,
  ⟨(some 7), none, .alloc false [.int .i64 0, .int .i64 0, .int .i64 0, .int .i64 0], none⟩,
  ⟨(some 6), none, .mov (.t 24), none⟩,
  ⟨none, none, .store 4 (.t 7) (.t 25), none⟩,
  ⟨(some 26), none, .mov (.t 5), none⟩,
  ⟨(some 27), none, .mov (.t 6), none⟩,
  ⟨(some 28), none, .off 2 (.t 7), none⟩,
  ⟨(some 29), none, .load true 2 (.t 28), none⟩,
  ⟨none, none, .mapset .i64 (.t 26) (.t 27) (.t 29), none⟩]
def r29_9 : List AOp :=
  [⟨(some 30), none, .mov (.t 5), none⟩,
  ⟨(some 2), none, .mov (.t 30), none⟩]
/-- lockstep/check.Shapes -/
def c29 : AC :=
  .seq (.ops r29_0)
  (.seq (.ops r29_1)
   (.seq (.seq (.ops r29_2)
     (.cond (.t 14) (.seq (.ops r29_3)
       (.ret)) (.skip)))
    (.seq (.ops r29_4)
     (.seq (.rangeM r29_5 (.t 19) 20 21 22 23 r29_7)
      (.seq (.ops r29_9)
       (.ret))))))
def a29 : AFn := { res := [.tmp 2], body := c29, keepA := false, keepR := false, pure := false }
theorem k29 : chkFn Tryz.prog Tryz.f29 a29 = true := by kernel_rfl

/-! (*lockstep/affine.finder).form -/
def r30_0 : List AOp :=
  [⟨(some 4), none, .alloc false [.lst .nil [], .int .u64 0], none⟩]
def r30_1 : List AOp :=
  [⟨(some 11), none, .mov (.t 0), none⟩,
  ⟨(some 12), none, .nilchk (.t 11), none⟩,
  ⟨(some 13), none, .off 1 (.t 12), none⟩,
  ⟨(some 14), none, .load false 1 (.t 13), none⟩,
  ⟨(some 15), none, .mov (.t 1), none⟩,
  ⟨(some 16), none, .lookup .i64 (.agg [.lst .nil [], .int .u64 0]) true (.t 14) (.t 15), none⟩,
  ⟨(some 10), none, .mov (.t 16), none⟩,
  ⟨(some 17), none, .ext (.t 10) 0, none⟩,
  ⟨(some 18), none, .ext (.t 10) 1, none⟩,
  ⟨(some 5), none, .alloc false [.lst .nil [], .int .u64 0], none⟩,
  ⟨none, none, .store 2 (.t 5) (.t 17), none⟩,
  ⟨(some 6), none, .mov (.t 18), none⟩]
def r30_2 : List AOp :=
  [⟨(some 19), none, .mov (.t 6), none⟩]
def r30_3 : List AOp :=
  [⟨(some 20), none, .load true 2 (.t 5), none⟩,
  ⟨none, none, .store 2 (.t 4) (.t 20), none⟩]
def r30_4 : List AOp :=
  [⟨(some 21), none, .mov (.t 1), none⟩,
  ⟨(some 22), none, .build [.int .i64 0, .int .u64 0] [(0, 1, .t 21), (1, 1, .c (.int .u64 1))], none⟩,
  ⟨(some 23), none, .bslice false 1 2 [.int .i64 0, .int .u64 0] [(0, .t 22)], none⟩,
  ⟨(some 24), none, .build [.lst .nil [], .int .u64 0] [(0, 1, .t 23)], none⟩,
  ⟨(some 7), none, .alloc false [.lst .nil [], .int .u64 0], none⟩,
  ⟨none, none, .store 2 (.t 7) (.t 24), none⟩]
def r30_5 : List AOp :=
  [⟨(some 26), none, .mov (.t 0), none⟩,
  ⟨(some 27), none, .mov (.t 1), none⟩,
  ⟨(some 28), none, .call 39 [.t 26, .t 27], none⟩,
  ⟨(some 25), none, .mov (.t 28), none⟩,
  ⟨(some 29), none, .ext (.t 25) 0, none⟩,
  ⟨(some 30), none, .ext (.t 25) 1, none⟩,
  ⟨(some 8), none, .alloc false [.lst .nil [], .int .u64 0], none⟩,
  ⟨none, none, .store 2 (.t 8) (.t 29), none⟩,
  ⟨(some 9), none, .mov (.t 30), none⟩]
def r30_6 : List AOp :=
  [⟨(some 31), none, .mov (.t 9), none⟩,
  ⟨(some 32), none, .un .not (.t 31), none⟩,
  ⟨(some 33), none, .mov (.t 32), none⟩,
  ⟨(some 34), (some (33, false)), .off 0 (.t 8), none⟩,
  ⟨(some 35), (some (33, false)), .load false 1 (.t 34), none⟩,
  ⟨(some 36), (some (33, false)), .len (.t 35), none⟩,
  ⟨(some 37), (some (33, false)), .bin .gtr (.t 36) (.c (.int .i64 16)), none⟩,
  ⟨(some 38), none, .pick (.t 33) (.c (.bool true)) (.t 37), none⟩]
def r30_7 : List AOp :=
  [⟨(some 39), none, .load true 2 (.t 7), none⟩,
  ⟨none, none, .store 2 (.t 8) (.t 39), none⟩]
def r30_8 : List AOp :=
  [⟨(some 40), none, .mov (.t 0), none⟩,
  ⟨(some 41), none, .nilchk (.t 40), none⟩,
  ⟨(some 42), none, .off 1 (.t 41), none⟩,
  ⟨(some 43), none, .load false 1 (.t 42), none⟩,
  ⟨(some 44), none, .mov (.t 1), none⟩,
  ⟨(some 45), none, .load true 2 (.t 8), (some (.t 8, .loc 8))⟩,
  ⟨none, none, .mapset .i64 (.t 43) (.t 44) (.t 45), none⟩]
def p30_8 : List (List Nat) := [[], [0], [1], [2], [], [], [3, 4, 5, 0, 1, 2, 3, 4, 5]]
def r30_9 : List AOp :=
  [⟨(some 46), none, .load true 2 (.t 8), none⟩,
  ⟨none, none, .store 2 (.t 4) (.t 46), none⟩]
/-- (*lockstep/affine.finder).form -/
def c30 : AC :=
  .seq (.ops r30_0)
  (.seq (.seq (.ops r30_1)
    (.seq (.ops r30_2)
     (.cond (.t 19) (.seq (.ops r30_3)
       (.ret)) (.skip))))
   (.seq (.ops r30_4)
    (.seq (.ops r30_5)
     (.seq (.seq (.ops r30_6)
       (.cond (.t 38) (.ops r30_7) (.skip)))
      (.seq (.tops r30_8
          p30_8)
       (.seq (.ops r30_9)
        (.ret)))))))
def a30 : AFn := { res := [.cell 4 2 true], body := c30, keepA := false, keepR := false, pure := false }
theorem k30 : chkFn Tryz.prog Tryz.f30 a30 = true := by kernel_rfl

/-! slices.ContainsFunc[[]lockstep/api.Form,lockstep/api.Form] -/
def r36_0 : List AOp :=
  [⟨(some 4), none, .mov (.c (.bool false)), none⟩]
def r36_1 : List AOp :=
  [⟨(some 5), none, .mov (.t 0), none⟩,
  ⟨(some 6), none, .mov (.t 1), none⟩,
  ⟨(some 7), none, .call 50 [.t 5, .t 6], none⟩,
  ⟨(some 8), none, .bin .geq (.t 7) (.c (.int .i64 0)), none⟩,
  ⟨(some 4), none, .mov (.t 8), none⟩]
/-- slices.ContainsFunc[[]lockstep/api.Form,lockstep/api.Form] -/
def c36 : AC :=
  .seq (.ops r36_0)
  (.seq (.ops r36_1)
   (.ret))
def a36 : AFn := { res := [.tmp 4], body := c36, keepA := false, keepR := false, pure := true }
theorem k36 : chkFn Tryz.prog Tryz.f36 a36 = true := by kernel_rfl

/-! lockstep/affine.may$1 -/
def r37_0 : List AOp :=
  [⟨(some 1), none, .box false 2 (.t 0), none⟩,
  ⟨(some 2), none, .mov (.c (.bool false)), none⟩]
def r37_1 : List AOp :=
  [⟨(some 3), none, .load true 2 (.t 1), none⟩,
  ⟨(some 4), none, .call 12 [.t 3], none⟩,
  ⟨(some 5), none, .un .not (.t 4), none⟩,
  ⟨(some 2), none, .mov (.t 5), none⟩]
/-- lockstep/affine.may$1 -/
def c37 : AC :=
  .seq (.ops r37_0)
  (.seq (.ops r37_1)
   (.ret))
def a37 : AFn := { res := [.tmp 2], body := c37, keepA := false, keepR := false, pure := true }
theorem k37 : chkFn Tryz.prog Tryz.f37 a37 = true := by kernel_rfl

/-! lockstep/check.look -/
def r38_0 : List AOp :=
  [⟨(some 2), none, .box false 3 (.t 0), none⟩,
  ⟨(some 4), none, .mov (.c (.nilp)), none⟩,
  ⟨(some 5), none, .mov (.c (.int .i64 0)), none⟩]
def r38_1 : List AOp :=
  [⟨(some 10), none, .load true 3 (.t 2), none⟩,
  ⟨(some 11), none, .mov (.t 1), none⟩,
  ⟨(some 12), none, .build [.lst .nil [], .int .i64 0, .lst .nil [], .int .i64 0, .lst .nil [], .lst .nil [], .lst .nil [], .map none] [(0, 3, .t 10), (3, 1, .t 11)], none⟩,
  ⟨(some 13), none, .box true 8 (.t 12), none⟩,
  ⟨(some 6), none, .mov (.t 13), none⟩]
def r38_2 : List AOp :=
  [⟨(some 14), none, .load true 3 (.t 2), none⟩,
  ⟨(some 15), none, .call 51 [.t 14], none⟩,
  ⟨(some 16), none, .un .not (.t 15), none⟩]
def r38_3 : List AOp :=
  [⟨(some 17), none, .mov (.t 6), none⟩,
  ⟨(some 4), none, .mov (.t 17), none⟩,
  ⟨(some 5), none, .mov (.c (.int .i64 4)), none⟩]
def r38_4 : List AOp :=
  [⟨(some 18), none, .mov (.t 6), none⟩,
  ⟨(some 19), none, .mkfn 52 [.t 18] [], none⟩,
  ⟨(some 20), none, .mov (.t 6), none⟩,
  ⟨(some 21), none, .mkfn 53 [.t 20] [], none⟩,
  ⟨(some 22), none, .mov (.t 6), none⟩,
  ⟨(some 23), none, .mkfn 54 [.t 22] [], none⟩,
  ⟨(some 24), none, .mov (.t 6), none⟩,
  ⟨(some 25), none, .mkfn 55 [.t 24] [], none⟩,
  ⟨(some 26), none, .mov (.t 6), none⟩,
  ⟨(some 27), none, .mkfn 56 [.t 26] [], none⟩,
  ⟨(some 28), none, .bslice false 5 1 [.nilFn] [(0, .t 19), (1, .t 21), (2, .t 23), (3, .t 25), (4, .t 27)], none⟩,
  ⟨(some 29), none, .len (.t 28), none⟩,
  ⟨(some 30), none, .mov (.c (.int .i64 0)), none⟩]
def r38_5 : List AOp :=
  [⟨(some 31), none, .bin .lss (.t 30) (.t 29), none⟩]
def r38_6 : List AOp :=
  [⟨(some 32), none, .idxS 1 (.t 28) (.t 30), none⟩,
  ⟨(some 33), none, .load false 1 (.t 32), none⟩,
  ⟨(some 8), none, .mov (.t 33), none⟩]
def r38_7 : List AOp :=
  [⟨(some 34), none, .mov (.t 8), none⟩,
  ⟨(some 35), none, .calld (.t 34) [], none⟩,
  ⟨(some 9), none, .mov (.t 35), none⟩]
def r38_8 : List AOp :=
  [⟨(some 36), none, .mov (.t 9), none⟩,
  ⟨(some 37), none, .bin .neq (.t 36) (.c (.int .i64 0)), none⟩]
def r38_9 : List AOp :=
  [⟨(some 38), none, .mov (.t 6), none⟩,
  ⟨(some 39), none, .mov (.t 9), none⟩,
  ⟨(some 4), none, .mov (.t 38), none⟩,
  ⟨(some 5), none, .mov (.t 39), none⟩]
def r38_10 : List AOp :=
  [⟨(some 40), none, .bin .add (.t 30) (.c (.int .i64 1)), none⟩,
  ⟨(some 30), none, .mov (.t 40), none⟩]
def l38_0 : AC :=
  .seq (.ops r38_5)
  (.seq (.cond (.t 31) (.skip) (.exit 0))
   (.seq (.block 1 (.seq (.ops r38_6)
      (.seq (.ops r38_7)
       (.seq (.ops r38_8)
        (.cond (.t 37) (.seq (.ops r38_9)
          (.ret)) (.skip))))))
    (.ops r38_10)))
def r38_11 : List AOp :=
  [⟨(some 41), none, .mov (.t 6), none⟩,
  ⟨(some 4), none, .mov (.t 41), none⟩,
  ⟨(some 5), none, .mov (.c (.int .i64 0)), none⟩]
/-- lockstep/check.look -/
def c38 : AC :=
  .seq (.ops r38_0)
  (.seq (.ops r38_1)
   (.seq (.seq (.ops r38_2)
     (.cond (.t 16) (.seq (.ops r38_3)
       (.ret)) (.skip)))
    (.seq (.seq (.ops r38_4)
      (.block 0 (.loop l38_0)))
     (.seq (.ops r38_11)
      (.ret)))))
def a38 : AFn := { res := [.tmp 4, .tmp 5], body := c38, keepA := false, keepR := false, pure := false }
theorem k38 : chkFn Tryz.prog Tryz.f38 a38 = true := by kernel_rfl

/-! (*lockstep/affine.finder).made -/
def r39_0 : List AOp :=
  [⟨(some 4), none, .alloc false [.lst .nil [], .int .u64 0], none⟩,
  ⟨(some 5), none, .mov (.c (.bool false)), none⟩]
def r39_1 : List AOp :=
  [⟨(some 11), none, .mov (.t 0), none⟩,
  ⟨(some 12), none, .nilchk (.t 11), none⟩,
  ⟨(some 13), none, .off 0 (.t 12), none⟩,
  ⟨(some 14), none, .load false 1 (.t 13), none⟩,
  ⟨(some 15), none, .mov (.t 1), none⟩,
  ⟨(some 16), none, .lookup .i64 (.agg [.int .i64 0, .int .i64 0, .int .i64 0, .int .i64 0, .lst .nil [], .int .u64 0]) true (.t 14) (.t 15), none⟩,
  ⟨(some 10), none, .mov (.t 16), none⟩,
  ⟨(some 17), none, .ext (.t 10) 0, none⟩,
  ⟨(some 18), none, .ext (.t 10) 1, none⟩,
  ⟨(some 6), none, .alloc false [.int .i64 0, .int .i64 0, .int .i64 0, .int .i64 0, .lst .nil [], .int .u64 0], none⟩,
  ⟨none, none, .store 6 (.t 6) (.t 17), none⟩,
  ⟨(some 7), none, .mov (.t 18), none⟩]
def r39_2 : List AOp :=
  [⟨(some 19), none, .mov (.t 7), none⟩,
  ⟨(some 20), none, .un .not (.t 19), none⟩,
  ⟨(some 21), none, .mov (.t 20), none⟩,
  ⟨(some 22), (some (21, false)), .off 1 (.t 6), none⟩,
  ⟨(some 23), (some (21, false)), .load false 1 (.t 22), none⟩,
  ⟨(some 24), (some (21, false)), .bin .neq (.t 23) (.c (.int .i64 64)), none⟩,
  ⟨(some 25), none, .pick (.t 21) (.c (.bool true)) (.t 24), none⟩,
  ⟨(some 26), none, .mov (.t 25), none⟩,
  ⟨(some 27), (some (26, false)), .off 2 (.t 6), none⟩,
  ⟨(some 28), (some (26, false)), .load false 1 (.t 27), none⟩,
  ⟨(some 29), (some (26, false)), .bin .neq (.t 28) (.c (.int .i64 1)), none⟩,
  ⟨(some 30), none, .pick (.t 26) (.c (.bool true)) (.t 29), none⟩]
def r39_3 : List AOp :=
  [⟨(some 31), none, .build [.lst .nil [], .int .u64 0] [], none⟩,
  ⟨none, none, .store 2 (.t 4) (.t 31), none⟩,
  ⟨(some 5), none, .mov (.c (.bool false)), none⟩]
def r39_4 : List AOp :=
  [⟨(some 32), none, .off 0 (.t 6), none⟩,
  ⟨(some 33), none, .load false 1 (.t 32), none⟩,
  ⟨(some 34), none, .bin .eql (.t 33) (.c (.int .i64 0)), none⟩]
def r39_5 : List AOp :=
  [⟨(some 35), none, .off 5 (.t 6), none⟩,
  ⟨(some 36), none, .load false 1 (.t 35), none⟩,
  ⟨(some 37), none, .build [.lst .nil [], .int .u64 0] [(1, 1, .t 36)], none⟩,
  ⟨none, none, .store 2 (.t 4) (.t 37), none⟩,
  ⟨(some 5), none, .mov (.c (.bool true)), none⟩]
def r39_6 : List AOp :=
  [⟨(some 38), none, .off 0 (.t 6), none⟩,
  ⟨(some 39), none, .load false 1 (.t 38), none⟩,
  ⟨(some 40), none, .bin .lss (.t 39) (.c (.int .i64 1)), none⟩,
  ⟨(some 41), none, .mov (.t 40), none⟩,
  ⟨(some 42), (some (41, false)), .off 0 (.t 6), none⟩,
  ⟨(some 43), (some (41, false)), .load false 1 (.t 42), none⟩,
  ⟨(some 44), (some (41, false)), .bin .gtr (.t 43) (.c (.int .i64 8)), none⟩,
  ⟨(some 45), none, .pick (.t 41) (.c (.bool true)) (.t 44), none⟩]
def r39_7 : List AOp :=
  [⟨(some 46), none, .build [.lst .nil [], .int .u64 0] [], none⟩,
  ⟨none, none, .store 2 (.t 4) (.t 46), none⟩,
  ⟨(some 5), none, .mov (.c (.bool false)), none⟩]
def r39_8 : List AOp :=
  [⟨(some 47), none, .mov (.t 0), none⟩,
  ⟨(some 48), none, .off 4 (.t 6), (some (.t 6, .loc 6))⟩,
  ⟨(some 49), none, .load false 1 (.t 48), (some (.t 48, .loc 6))⟩,
  ⟨(some 50), none, .idxS 1 (.t 49) (.c (.int .i64 0)), (some (.t 49, .lst))⟩,
  ⟨(some 51), none, .load false 1 (.t 50), (some (.t 50, .imm))⟩,
  ⟨(some 52), none, .call 30 [.t 47, .t 51], none⟩,
  ⟨(some 53), none, .mov (.t 0), none⟩,
  ⟨(some 54), none, .off 4 (.t 6), (some (.t 6, .loc 6))⟩,
  ⟨(some 55), none, .load false 1 (.t 54), (some (.t 54, .loc 6))⟩,
  ⟨(some 56), none, .idxS 1 (.t 55) (.c (.int .i64 1)), (some (.t 55, .lst))⟩,
  ⟨(some 57), none, .load false 1 (.t 56), (some (.t 56, .imm))⟩,
  ⟨(some 58), none, .call 30 [.t 53, .t 57], none⟩,
  ⟨(some 8), none, .alloc false [.lst .nil [], .int .u64 0], none⟩,
  ⟨(some 9), none, .alloc false [.lst .nil [], .int .u64 0], none⟩,
  ⟨none, none, .store 2 (.t 8) (.t 52), (some (.t 8, .loc 8))⟩,
  ⟨none, none, .store 2 (.t 9) (.t 58), (some (.t 9, .loc 9))⟩]
def p39_8 : List (List Nat) := [[], [], [1], [2], [3], [0, 4], [], [], [7], [8], [9], [6, 10, 5], [], [], [12, 5, 11, 0, 1, 2, 3, 4, 5, 12, 13], [13, 11, 14, 0, 1, 2, 3, 4, 5, 6, 7, 8, 9, 10, 11, 12, 13, 14]]
def r39_9 : List AOp :=
  [⟨(some 60), none, .off 0 (.t 6), none⟩,
  ⟨(some 61), none, .load false 1 (.t 60), none⟩,
  ⟨(some 62), none, .bin .eql (.t 61) (.c (.int .i64 1)), none⟩,
  ⟨(some 59), none, .mov (.t 62), none⟩]
def r39_10 : List AOp :=
  [⟨(some 63), none, .load true 2 (.t 8), none⟩,
  ⟨(some 64), none, .load true 2 (.t 9), none⟩,
  ⟨(some 65), none, .call 9 [.t 63, .t 64], none⟩,
  ⟨none, none, .store 2 (.t 4) (.t 65), none⟩,
  ⟨(some 5), none, .mov (.c (.bool true)), none⟩]
def r39_11 : List AOp :=
  [⟨(some 67), none, .off 0 (.t 6), none⟩,
  ⟨(some 68), none, .load false 1 (.t 67), none⟩,
  ⟨(some 69), none, .bin .eql (.t 68) (.c (.int .i64 2)), none⟩,
  ⟨(some 66), none, .mov (.t 69), none⟩]
def r39_12 : List AOp :=
  [⟨(some 70), none, .load true 2 (.t 8), none⟩,
  ⟨(some 71), none, .load true 2 (.t 9), none⟩,
  ⟨(some 72), none, .call 10 [.t 70, .t 71], none⟩,
  ⟨none, none, .store 2 (.t 4) (.t 72), none⟩,
  ⟨(some 5), none, .mov (.c (.bool true)), none⟩]
def r39_13 : List AOp :=
  [⟨(some 74), none, .off 0 (.t 6), none⟩,
  ⟨(some 75), none, .load false 1 (.t 74), none⟩,
  ⟨(some 76), none, .bin .eql (.t 75) (.c (.int .i64 3)), none⟩,
  ⟨(some 77), none, .mov (.t 76), none⟩,
  ⟨(some 78), (some (77, true)), .off 0 (.t 9), none⟩,
  ⟨(some 79), (some (77, true)), .load false 1 (.t 78), none⟩,
  ⟨(some 80), (some (77, true)), .len (.t 79), none⟩,
  ⟨(some 81), (some (77, true)), .bin .eql (.t 80) (.c (.int .i64 0)), none⟩,
  ⟨(some 82), none, .pick (.t 77) (.t 81) (.c (.bool false)), none⟩,
  ⟨(some 73), none, .mov (.t 82), none⟩]
def r39_14 : List AOp :=
  [⟨(some 83), none, .load true 2 (.t 8), none⟩,
  ⟨(some 84), none, .off 1 (.t 9), none⟩,
  ⟨(some 85), none, .load false 1 (.t 84), none⟩,
  ⟨(some 86), none, .call 11 [.t 83, .t 85], none⟩,
  ⟨none, none, .store 2 (.t 4) (.t 86), none⟩,
  ⟨(some 5), none, .mov (.c (.bool true)), none⟩]
def r39_15 : List AOp :=
  [⟨(some 88), none, .off 0 (.t 6), none⟩,
  ⟨(some 89), none, .load false 1 (.t 88), none⟩,
  ⟨(some 90), none, .bin .eql (.t 89) (.c (.int .i64 3)), none⟩,
  ⟨(some 91), none, .mov (.t 90), none⟩,
  ⟨(some 92), (some (91, true)), .off 0 (.t 8), none⟩,
  ⟨(some 93), (some (91, true)), .load false 1 (.t 92), none⟩,
  ⟨(some 94), (some (91, true)), .len (.t 93), none⟩,
  ⟨(some 95), (some (91, true)), .bin .eql (.t 94) (.c (.int .i64 0)), none⟩,
  ⟨(some 96), none, .pick (.t 91) (.t 95) (.c (.bool false)), none⟩,
  ⟨(some 87), none, .mov (.t 96), none⟩]
def r39_16 : List AOp :=
  [⟨(some 97), none, .load true 2 (.t 9), none⟩,
  ⟨(some 98), none, .off 1 (.t 8), none⟩,
  ⟨(some 99), none, .load false 1 (.t 98), none⟩,
  ⟨(some 100), none, .call 11 [.t 97, .t 99], none⟩,
  ⟨none, none, .store 2 (.t 4) (.t 100), none⟩,
  ⟨(some 5), none, .mov (.c (.bool true)), none⟩]
def r39_17 : List AOp :=
  [⟨(some 102), none, .off 0 (.t 6), none⟩,
  ⟨(some 103), none, .load false 1 (.t 102), none⟩,
  ⟨(some 104), none, .bin .eql (.t 103) (.c (.int .i64 8)), none⟩,
  ⟨(some 105), none, .mov (.t 104), none⟩,
  ⟨(some 106), (some (105, true)), .off 0 (.t 9), none⟩,
  ⟨(some 107), (some (105, true)), .load false 1 (.t 106), none⟩,
  ⟨(some 108), (some (105, true)), .len (.t 107), none⟩,
  ⟨(some 109), (some (105, true)), .bin .eql (.t 108) (.c (.int .i64 0)), none⟩,
  ⟨(some 110), none, .pick (.t 105) (.t 109) (.c (.bool false)), none⟩,
  ⟨(some 111), none, .mov (.t 110), none⟩,
  ⟨(some 112), (some (111, true)), .off 1 (.t 9), none⟩,
  ⟨(some 113), (some (111, true)), .load false 1 (.t 112), none⟩,
  ⟨(some 114), (some (111, true)), .bin .lss (.t 113) (.c (.int .u64 64)), none⟩,
  ⟨(some 115), none, .pick (.t 111) (.t 114) (.c (.bool false)), none⟩,
  ⟨(some 101), none, .mov (.t 115), none⟩]
def r39_18 : List AOp :=
  [⟨(some 116), none, .load true 2 (.t 8), none⟩,
  ⟨(some 117), none, .off 1 (.t 9), none⟩,
  ⟨(some 118), none, .load false 1 (.t 117), none⟩,
  ⟨(some 119), none, .bin .shl (.c (.int .u64 1)) (.t 118), none⟩,
  ⟨(some 120), none, .call 11 [.t 116, .t 119], none⟩,
  ⟨none, none, .store 2 (.t 4) (.t 120), none⟩,
  ⟨(some 5), none, .mov (.c (.bool true)), none⟩]
def r39_19 : List AOp :=
  [⟨(some 121), none, .build [.lst .nil [], .int .u64 0] [], none⟩,
  ⟨none, none, .store 2 (.t 4) (.t 121), none⟩,
  ⟨(some 5), none, .mov (.c (.bool false)), none⟩]
/-- (*lockstep/affine.finder).made -/
def c39 : AC :=
  .seq (.ops r39_0)
  (.seq (.ops r39_1)
   (.seq (.seq (.ops r39_2)
     (.cond (.t 30) (.seq (.ops r39_3)
       (.ret)) (.skip)))
    (.seq (.seq (.ops r39_4)
      (.cond (.t 34) (.seq (.ops r39_5)
        (.ret)) (.skip)))
     (.seq (.seq (.ops r39_6)
       (.cond (.t 45) (.seq (.ops r39_7)
         (.ret)) (.skip)))
      (.seq (.tops r39_8
          p39_8)
       (.seq (.block 0 (.seq (.ops r39_9)
          (.cond (.t 59) (.seq (.ops r39_10)
            (.ret)) (.seq (.ops r39_11)
            (.cond (.t 66) (.seq (.ops r39_12)
              (.ret)) (.seq (.ops r39_13)
              (.cond (.t 73) (.seq (.ops r39_14)
                (.ret)) (.seq (.ops r39_15)
                (.cond (.t 87) (.seq (.ops r39_16)
                  (.ret)) (.seq (.ops r39_17)
                  (.cond (.t 101) (.seq (.ops r39_18)
                    (.ret)) (.skip))))))))))))
        (.seq (.ops r39_19)
         (.ret))))))))
def a39 : AFn := { res := [.cell 4 2 true, .tmp 5], body := c39, keepA := false, keepR := false, pure := false }
theorem k39 : chkFn Tryz.prog Tryz.f39 a39 = true := by kernel_rfl

/-! slices.IndexFunc[[]lockstep/api.Form,lockstep/api.Form] -/
def r50_0 : List AOp :=
  [⟨(some 4), none, .mov (.c (.int .i64 0)), none⟩]
def r50_1 : List AOp :=
  [⟨(some 6), none, .mov (.t 0), none⟩,
  ⟨(some 7), none, .len (.t 6), none⟩,
  ⟨(some 8), none, .mov (.c (.int .i64 0)), none⟩]
def r50_2 : List AOp :=
  [⟨(some 9), none, .bin .lss (.t 8) (.t 7), none⟩]
def r50_3 : List AOp :=
  [⟨(some 10), none, .mov (.t 8), none⟩,
  ⟨(some 5), none, .mov (.t 10), none⟩]
def r50_4 : List AOp :=
  [⟨(some 11), none, .mov (.t 1), none⟩,
  ⟨(some 12), none, .mov (.t 0), none⟩,
  ⟨(some 13), none, .mov (.t 5), none⟩,
  ⟨(some 14), none, .idxS 2 (.t 12) (.t 13), none⟩,
  ⟨(some 15), none, .load true 2 (.t 14), none⟩,
  ⟨(some 16), none, .calld (.t 11) [.t 15], none⟩]
def r50_5 : List AOp :=
  [⟨(some 17), none, .mov (.t 5), none⟩,
  ⟨(some 4), none, .mov (.t 17), none⟩]
def r50_6 : List AOp :=
  [⟨(some 18), none, .bin .add (.t 8) (.c (.int .i64 1)), none⟩,
  ⟨(some 8), none, .mov (.t 18), none⟩]
def l50_0 : AC :=
  .seq (.ops r50_2)
  (.seq (.cond (.t 9) (.skip) (.exit 0))
   (.seq (.block 1 (.seq (.ops r50_3)
      (.seq (.ops r50_4)
       (.cond (.t 16) (.seq (.ops r50_5)
         (.ret)) (.skip)))))
    (.ops r50_6)))
def r50_7 : List AOp :=
  [⟨(some 4), none, .mov (.c (.int .i64 (-1))), none⟩]
/-- slices.IndexFunc[[]lockstep/api.Form,lockstep/api.Form] -/
def c50 : AC :=
  .seq (.ops r50_0)
  (.seq (.seq (.ops r50_1)
    (.block 0 (.loop l50_0)))
   (.seq (.ops r50_7)
    (.ret)))
def a50 : AFn := { res := [.tmp 4], body := c50, keepA := false, keepR := false, pure := true }
theorem k50 : chkFn Tryz.prog Tryz.f50 a50 = true := by kernel_rfl

/-! lockstep/code.May -/
def r51_0 : List AOp :=
  [⟨(some 1), none, .box false 3 (.t 0), none⟩,
  ⟨(some 2), none, .mov (.c (.bool false)), none⟩]
def r51_1 : List AOp :=
  [⟨(some 3), none, .off 2 (.t 1), none⟩,
  ⟨(some 4), none, .load false 1 (.t 3), none⟩,
  ⟨(some 5), none, .len (.t 4), none⟩,
  ⟨(some 6), none, .bin .lss (.t 5) (.c (.int .i64 1)), none⟩,
  ⟨(some 7), none, .mov (.t 6), none⟩,
  ⟨(some 8), (some (7, false)), .off 2 (.t 1), none⟩,
  ⟨(some 9), (some (7, false)), .load false 1 (.t 8), none⟩,
  ⟨(some 10), (some (7, false)), .len (.t 9), none⟩,
  ⟨(some 11), (some (7, false)), .bin .gtr (.t 10) (.c (.int .i64 64)), none⟩,
  ⟨(some 12), none, .pick (.t 7) (.c (.bool true)) (.t 11), none⟩,
  ⟨(some 13), none, .mov (.t 12), none⟩,
  ⟨(some 14), (some (13, false)), .off 0 (.t 1), none⟩,
  ⟨(some 15), (some (13, false)), .load false 1 (.t 14), none⟩,
  ⟨(some 16), (some (13, false)), .len (.t 15), none⟩,
  ⟨(some 17), (some (13, false)), .bin .gtr (.t 16) (.c (.int .i64 16)), none⟩,
  ⟨(some 18), none, .pick (.t 13) (.c (.bool true)) (.t 17), none⟩,
  ⟨(some 19), none, .mov (.t 18), none⟩,
  ⟨(some 20), (some (19, false)), .load true 3 (.t 1), none⟩,
  ⟨(some 21), (some (19, false)), .call 70 [.t 20], none⟩,
  ⟨(some 22), (some (19, false)), .bin .gtr (.t 21) (.c (.int .i64 512)), none⟩,
  ⟨(some 23), none, .pick (.t 19) (.c (.bool true)) (.t 22), none⟩,
  ⟨(some 24), none, .mov (.t 23), none⟩,
  ⟨(some 25), (some (24, false)), .off 1 (.t 1), none⟩,
  ⟨(some 26), (some (24, false)), .load false 1 (.t 25), none⟩,
  ⟨(some 27), (some (24, false)), .bslice false 1 1 [.int .i64 0] [(0, .t 26)], none⟩,
  ⟨(some 28), (some (24, false)), .call 71 [.t 27], none⟩,
  ⟨(some 29), (some (24, false)), .un .not (.t 28), none⟩,
  ⟨(some 30), none, .pick (.t 24) (.c (.bool true)) (.t 29), none⟩,
  ⟨(some 31), none, .mov (.t 30), none⟩,
  ⟨(some 32), (some (31, false)), .off 0 (.t 1), none⟩,
  ⟨(some 33), (some (31, false)), .load false 1 (.t 32), none⟩,
  ⟨(some 34), (some (31, false)), .call 71 [.t 33], none⟩,
  ⟨(some 35), (some (31, false)), .un .not (.t 34), none⟩,
  ⟨(some 36), none, .pick (.t 31) (.c (.bool true)) (.t 35), none⟩]
def r51_2 : List AOp :=
  [⟨(some 2), none, .mov (.c (.bool false)), none⟩]
def r51_3 : List AOp :=
  [⟨(some 37), none, .off 2 (.t 1), none⟩,
  ⟨(some 38), none, .load false 1 (.t 37), none⟩,
  ⟨(some 39), none, .call 72 [.t 38, .c (.fn 73 [] [])], none⟩,
  ⟨(some 40), none, .un .not (.t 39), none⟩,
  ⟨(some 2), none, .mov (.t 40), none⟩]
/-- lockstep/code.May -/
def c51 : AC :=
  .seq (.ops r51_0)
  (.seq (.seq (.ops r51_1)
    (.cond (.t 36) (.seq (.ops r51_2)
      (.ret)) (.skip)))
   (.seq (.ops r51_3)
    (.ret)))
def a51 : AFn := { res := [.tmp 2], body := c51, keepA := false, keepR := false, pure := true }
theorem k51 : chkFn Tryz.prog Tryz.f51 a51 = true := by kernel_rfl

/-! (*lockstep/check.checker).shape -/
def r52_0 : List AOp :=
  [⟨(some 2), none, .mov (.c (.int .i64 0)), none⟩]
def r52_1 : List AOp :=
  [⟨(some 10), none, .mov (.t 0), none⟩,
  ⟨(some 11), none, .nilchk (.t 10), none⟩,
  ⟨(some 12), none, .off 0 (.t 11), none⟩,
  ⟨(some 13), none, .load true 3 (.t 12), none⟩,
  ⟨(some 14), none, .call 75 [.t 13], none⟩,
  ⟨(some 9), none, .mov (.t 14), none⟩,
  ⟨(some 15), none, .ext (.t 9) 0, none⟩,
  ⟨(some 16), none, .ext (.t 9) 1, none⟩,
  ⟨(some 3), none, .alloc false [.lst .nil [], .lst .nil []], none⟩,
  ⟨none, none, .store 2 (.t 3) (.t 15), none⟩,
  ⟨(some 4), none, .mov (.t 16), none⟩]
def r52_2 : List AOp :=
  [⟨(some 17), none, .mov (.t 4), none⟩,
  ⟨(some 18), none, .bin .neq (.t 17) (.c (.int .i64 0)), none⟩]
def r52_3 : List AOp :=
  [⟨(some 2), none, .mov (.c (.int .i64 5)), none⟩]
def r52_4 : List AOp :=
  [⟨(some 19), none, .mov (.t 0), none⟩,
  ⟨(some 20), none, .mov (.t 0), none⟩,
  ⟨(some 21), none, .load true 2 (.t 3), (some (.t 3, .loc 3))⟩,
  ⟨(some 22), none, .load true 2 (.t 3), (some (.t 3, .loc 3))⟩,
  ⟨(some 23), none, .call 76 [.t 22, .c (.int .i64 0)], none⟩,
  ⟨(some 24), none, .nilchk (.t 19), none⟩,
  ⟨(some 25), none, .off 4 (.t 24), none⟩,
  ⟨none, none, .store 2 (.t 25) (.t 21), none⟩,
  ⟨(some 26), none, .nilchk (.t 20), none⟩,
  ⟨(some 27), none, .off 6 (.t 26), none⟩,
  ⟨none, none, .store 1 (.t 27) (.t 23), none⟩]
def p52_4 : List (List Nat) := [[], [], [], [], [3], [0, 0, 2, 4], [5, 0, 2, 4], [6, 2, 4, 0, 2, 4], [1, 0, 1, 2, 3, 4, 5, 6, 7], [8, 0, 1, 2, 3, 4, 5, 6, 7], [9, 4, 7, 0, 1, 2, 3, 4, 5, 6, 7]]
def r52_5 : List AOp :=
  [⟨(some 28), none, .mov (.t 0), none⟩,
  ⟨(some 29), none, .nilchk (.t 28), none⟩,
  ⟨(some 30), none, .off 0 (.t 29), none⟩,
  ⟨(some 31), none, .off 2 (.t 30), none⟩,
  ⟨(some 32), none, .load false 1 (.t 31), none⟩,
  ⟨(some 33), none, .len (.t 32), none⟩,
  ⟨(some 34), none, .mov (.c (.int .i64 0)), none⟩]
def r52_6 : List AOp :=
  [⟨(some 35), none, .bin .lss (.t 34) (.t 33), none⟩]
def r52_7 : List AOp :=
  [⟨(some 36), none, .mov (.t 34), none⟩,
  ⟨(some 37), none, .idxS 5 (.t 32) (.t 34), none⟩,
  ⟨(some 38), none, .load true 5 (.t 37), none⟩,
  ⟨(some 6), none, .alloc false [.lst .nil [], .lst .nil [], .int .i64 0, .int .i64 0, .lst .nil []], none⟩,
  ⟨(some 5), none, .mov (.t 36), none⟩,
  ⟨none, none, .store 5 (.t 6) (.t 38), none⟩]
def r52_8 : List AOp :=
  [⟨(some 39), none, .mov (.t 0), none⟩,
  ⟨(some 40), none, .nilchk (.t 39), none⟩,
  ⟨(some 41), none, .off 6 (.t 40), none⟩,
  ⟨(some 42), none, .load false 1 (.t 41), none⟩,
  ⟨(some 43), none, .mov (.t 5), none⟩,
  ⟨(some 44), none, .mov (.t 5), none⟩,
  ⟨(some 45), none, .call 77 [.t 42, .t 43, .t 44], none⟩,
  ⟨(some 46), none, .un .not (.t 45), none⟩]
def r52_9 : List AOp :=
  [⟨(some 2), none, .mov (.c (.int .i64 5)), none⟩]
def r52_10 : List AOp :=
  [⟨(some 47), none, .off 0 (.t 6), none⟩,
  ⟨(some 48), none, .load false 1 (.t 47), none⟩,
  ⟨(some 49), none, .len (.t 48), none⟩,
  ⟨(some 50), none, .mov (.c (.int .i64 0)), none⟩]
def r52_11 : List AOp :=
  [⟨(some 51), none, .bin .lss (.t 50) (.t 49), none⟩]
def r52_12 : List AOp :=
  [⟨(some 52), none, .idxS 4 (.t 48) (.t 50), none⟩,
  ⟨(some 53), none, .load true 4 (.t 52), none⟩,
  ⟨(some 8), none, .alloc false [.int .i64 0, .int .i64 0, .lst .nil [], .lst .nil []], none⟩,
  ⟨none, none, .store 4 (.t 8) (.t 53), none⟩]
def r52_13 : List AOp :=
  [⟨(some 54), none, .off 2 (.t 8), (some (.t 8, .loc 8))⟩,
  ⟨(some 55), none, .load false 1 (.t 54), (some (.t 54, .loc 8))⟩,
  ⟨(some 56), none, .len (.t 55), none⟩,
  ⟨(some 57), none, .bin .eql (.t 56) (.c (.int .i64 0)), none⟩,
  ⟨(some 58), none, .mov (.t 57), none⟩,
  ⟨(some 59), (some (58, false)), .off 2 (.t 8), (some (.t 8, .loc 8))⟩,
  ⟨(some 60), (some (58, false)), .load false 1 (.t 59), (some (.t 59, .loc 8))⟩,
  ⟨(some 61), (some (58, false)), .off 1 (.t 3), (some (.t 3, .loc 3))⟩,
  ⟨(some 62), (some (58, false)), .load false 1 (.t 61), (some (.t 61, .loc 3))⟩,
  ⟨(some 63), (some (58, false)), .mov (.t 5), none⟩,
  ⟨(some 64), (some (58, false)), .idxS 1 (.t 62) (.t 63), (some (.t 62, .lst))⟩,
  ⟨(some 65), (some (58, false)), .load false 1 (.t 64), (some (.t 64, .imm))⟩,
  ⟨(some 66), (some (58, false)), .call 78 [.t 60, .t 65], none⟩,
  ⟨(some 67), (some (58, false)), .un .not (.t 66), none⟩,
  ⟨(some 68), none, .pick (.t 58) (.c (.bool true)) (.t 67), none⟩,
  ⟨(some 69), none, .mov (.t 68), none⟩,
  ⟨(some 70), (some (69, false)), .off 3 (.t 8), (some (.t 8, .loc 8))⟩,
  ⟨(some 71), (some (69, false)), .load false 1 (.t 70), (some (.t 70, .loc 8))⟩,
  ⟨(some 72), (some (69, false)), .len (.t 71), none⟩,
  ⟨(some 73), (some (69, false)), .off 2 (.t 8), (some (.t 8, .loc 8))⟩,
  ⟨(some 74), (some (69, false)), .load false 1 (.t 73), (some (.t 73, .loc 8))⟩,
  ⟨(some 75), (some (69, false)), .len (.t 74), none⟩,
  ⟨(some 76), (some (69, false)), .bin .neq (.t 72) (.t 75), none⟩,
  ⟨(some 77), none, .pick (.t 69) (.c (.bool true)) (.t 76), none⟩]
def p52_13 : List (List Nat) := [[], [0], [1], [2], [3], [4], [5, 4], [4], [7, 4], [4], [8, 9, 4], [10, 4], [6, 11, 4, 4], [12, 4], [4, 13], [14, 12], [15], [16, 15], [17, 15], [15], [19, 15], [20, 15], [18, 21, 15], [15, 22]]
def r52_14 : List AOp :=
  [⟨(some 2), none, .mov (.c (.int .i64 5)), none⟩]
def r52_15 : List AOp :=
  [⟨(some 78), none, .bin .add (.t 50) (.c (.int .i64 1)), none⟩,
  ⟨(some 50), none, .mov (.t 78), none⟩]
def l52_1 : AC :=
  .seq (.ops r52_11)
  (.seq (.cond (.t 51) (.skip) (.exit 2))
   (.seq (.block 3 (.seq (.ops r52_12)
      (.seq (.tops r52_13
          p52_13)
       (.cond (.t 77) (.seq (.ops r52_14)
         (.ret)) (.skip)))))
    (.ops r52_15)))
def r52_16 : List AOp :=
  [⟨(some 79), none, .off 2 (.t 6), none⟩,
  ⟨(some 80), none, .off 0 (.t 79), none⟩,
  ⟨(some 81), none, .load false 1 (.t 80), none⟩,
  ⟨(some 82), none, .bin .eql (.t 81) (.c (.int .i64 1)), none⟩,
  ⟨(some 83), none, .mov (.t 82), none⟩,
  ⟨(some 84), (some (83, false)), .off 2 (.t 6), none⟩,
  ⟨(some 85), (some (83, false)), .off 0 (.t 84), none⟩,
  ⟨(some 86), (some (83, false)), .load false 1 (.t 85), none⟩,
  ⟨(some 87), (some (83, false)), .bin .eql (.t 86) (.c (.int .i64 3)), none⟩,
  ⟨(some 88), none, .pick (.t 83) (.c (.bool true)) (.t 87), none⟩,
  ⟨(some 89), none, .mov (.t 88), none⟩,
  ⟨(some 90), (some (89, true)), .off 2 (.t 6), none⟩,
  ⟨(some 91), (some (89, true)), .off 1 (.t 90), none⟩,
  ⟨(some 92), (some (89, true)), .load false 1 (.t 91), none⟩,
  ⟨(some 93), (some (89, true)), .bin .neq (.t 92) (.c (.int .i64 0)), none⟩,
  ⟨(some 94), none, .pick (.t 89) (.t 93) (.c (.bool false)), none⟩]
def r52_17 : List AOp :=
  [⟨(some 2), none, .mov (.c (.int .i64 5)), none⟩]
def r52_18 : List AOp :=
  [⟨(some 95), none, .bin .add (.t 34) (.c (.int .i64 1)), none⟩,
  ⟨(some 34), none, .mov (.t 95), none⟩]
def l52_0 : AC :=
  .seq (.ops r52_6)
  (.seq (.cond (.t 35) (.skip) (.exit 0))
   (.seq (.block 1 (.seq (.ops r52_7)
      (.seq (.seq (.ops r52_8)
        (.cond (.t 46) (.seq (.ops r52_9)
          (.ret)) (.skip)))
       (.seq (.seq (.ops r52_10)
         (.block 2 (.loop l52_1)))
        (.seq (.ops r52_16)
         (.cond (.t 94) (.seq (.ops r52_17)
           (.ret)) (.skip)))))))
    (.ops r52_18)))
def r52_19 : List AOp :=
  [⟨(some 2), none, .mov (.c (.int .i64 0)), none⟩]
/-- (*lockstep/check.checker).shape -/
def c52 : AC :=
  .seq (.ops r52_0)
  (.seq (.ops r52_1)
   (.seq (.seq (.ops r52_2)
     (.cond (.t 18) (.seq (.ops r52_3)
       (.ret)) (.skip)))
    (.seq (.tops r52_4
        p52_4)
     (.seq (.seq (.ops r52_5)
       (.block 0 (.loop l52_0)))
      (.seq (.ops r52_19)
       (.ret))))))
def a52 : AFn := { res := [.tmp 2], body := c52, keepA := false, keepR := false, pure := false }
theorem k52 : chkFn Tryz.prog Tryz.f52 a52 = true := by kernel_rfl

/-! (*lockstep/check.checker).typed -/
def r53_0 : List AOp :=
  [⟨(some 1), none, .box true 1 (.t 0), none⟩,
  ⟨(some 2), none, .mov (.c (.int .i64 0)), none⟩]
def r53_1 : List AOp :=
  [⟨(some 6), none, .load false 1 (.t 1), none⟩,
  ⟨(some 7), none, .nilchk (.t 6), none⟩,
  ⟨(some 8), none, .off 0 (.t 7), none⟩,
  ⟨(some 9), none, .off 1 (.t 8), none⟩,
  ⟨(some 10), none, .load false 1 (.t 9), none⟩,
  ⟨(some 11), none, .call 79 [.t 10], none⟩,
  ⟨(some 12), none, .un .not (.t 11), none⟩,
  ⟨(some 13), none, .mov (.t 12), none⟩,
  ⟨(some 14), (some (13, false)), .load false 1 (.t 1), none⟩,
  ⟨(some 15), (some (13, false)), .nilchk (.t 14), none⟩,
  ⟨(some 16), (some (13, false)), .off 0 (.t 15), none⟩,
  ⟨(some 17), (some (13, false)), .off 0 (.t 16), none⟩,
  ⟨(some 18), (some (13, false)), .load false 1 (.t 17), none⟩,
  ⟨(some 19), (some (13, false)), .call 80 [.t 18, .c (.fn 81 [] [])], none⟩,
  ⟨(some 20), none, .pick (.t 13) (.c (.bool true)) (.t 19), none⟩]
def r53_2 : List AOp :=
  [⟨(some 2), none, .mov (.c (.int .i64 6)), none⟩]
def r53_3 : List AOp :=
  [⟨(some 21), none, .load false 1 (.t 1), none⟩,
  ⟨(some 22), none, .nilchk (.t 21), none⟩,
  ⟨(some 23), none, .off 0 (.t 22), none⟩,
  ⟨(some 24), none, .off 2 (.t 23), none⟩,
  ⟨(some 25), none, .load false 1 (.t 24), none⟩,
  ⟨(some 26), none, .len (.t 25), none⟩,
  ⟨(some 27), none, .mov (.c (.int .i64 0)), none⟩]
def r53_4 : List AOp :=
  [⟨(some 28), none, .bin .lss (.t 27) (.t 26), none⟩]
def r53_5 : List AOp :=
  [⟨(some 29), none, .idxS 5 (.t 25) (.t 27), none⟩,
  ⟨(some 30), none, .load true 5 (.t 29), none⟩,
  ⟨(some 4), none, .alloc false [.lst .nil [], .lst .nil [], .int .i64 0, .int .i64 0, .lst .nil []], none⟩,
  ⟨none, none, .store 5 (.t 4) (.t 30), none⟩]
def r53_6 : List AOp :=
  [⟨(some 31), none, .off 0 (.t 4), none⟩,
  ⟨(some 32), none, .load false 1 (.t 31), none⟩,
  ⟨(some 33), none, .call 82 [.t 32, .c (.fn 83 [] [])], none⟩,
  ⟨(some 5), none, .mov (.t 33), none⟩]
def r53_7 : List AOp :=
  [⟨(some 34), none, .mov (.t 5), none⟩,
  ⟨(some 35), none, .mov (.t 34), none⟩,
  ⟨(some 36), (some (35, false)), .off 1 (.t 4), none⟩,
  ⟨(some 37), (some (35, false)), .load false 1 (.t 36), none⟩,
  ⟨(some 38), (some (35, false)), .mkfn 85 [] [.t 1], none⟩,
  ⟨(some 39), (some (35, false)), .call 84 [.t 37, .t 38], none⟩,
  ⟨(some 40), none, .pick (.t 35) (.c (.bool true)) (.t 39), none⟩]
def r53_8 : List AOp :=
  [⟨(some 2), none, .mov (.c (.int .i64 6)), none⟩]
def r53_9 : List AOp :=
  [⟨(some 41), none, .bin .add (.t 27) (.c (.int .i64 1)), none⟩,
  ⟨(some 27), none, .mov (.t 41), none⟩]
def l53_0 : AC :=
  .seq (.ops r53_4)
  (.seq (.cond (.t 28) (.skip) (.exit 0))
   (.seq (.block 1 (.seq (.ops r53_5)
      (.seq (.ops r53_6)
       (.seq (.ops r53_7)
        (.cond (.t 40) (.seq (.ops r53_8)
          (.ret)) (.skip))))))
    (.ops r53_9)))
def r53_10 : List AOp :=
  [⟨(some 2), none, .mov (.c (.int .i64 0)), none⟩]
/-- (*lockstep/check.checker).typed -/
def c53 : AC :=
  .seq (.ops r53_0)
  (.seq (.seq (.ops r53_1)
    (.cond (.t 20) (.seq (.ops r53_2)
      (.ret)) (.skip)))
   (.seq (.seq (.ops r53_3)
     (.block 0 (.loop l53_0)))
    (.seq (.ops r53_10)
     (.ret))))
def a53 : AFn := { res := [.tmp 2], body := c53, keepA := false, keepR := false, pure := false }
theorem k53 : chkFn Tryz.prog Tryz.f53 a53 = true := by kernel_rfl

/-! (*lockstep/check.checker).defined -/
def r54_0 : List AOp :=
  [⟨(some 1), none, .box true 1 (.t 0), none⟩,
  ⟨(some 2), none, .mov (.c (.int .i64 0)), none⟩]
def r54_1 : List AOp :=
  [⟨(some 13), none, .load false 1 (.t 1), none⟩,
  ⟨(some 14), none, .mkmap .i64, none⟩,
  ⟨(some 15), none, .nilchk (.t 13), none⟩,
  ⟨(some 16), none, .off 7 (.t 15), none⟩,
  ⟨none, none, .store 1 (.t 16) (.t 14), none⟩]
def r54_2 : List AOp :=
  [⟨(some 17), none, .load false 1 (.t 1), none⟩,
  ⟨(some 18), none, .nilchk (.t 17), none⟩,
  ⟨(some 19), none, .off 0 (.t 18), none⟩,
  ⟨(some 20), none, .off 0 (.t 19), none⟩,
  ⟨(some 21), none, .load false 1 (.t 20), none⟩,
  ⟨(some 22), none, .len (.t 21), none⟩,
  ⟨(some 23), none, .mov (.c (.int .i64 0)), none⟩]
def r54_3 : List AOp :=
  [⟨(some 24), none, .bin .lss (.t 23) (.t 22), none⟩]
def r54_4 : List AOp :=
  [⟨(some 25), none, .mov (.t 23), none⟩,
  ⟨(some 26), none, .idxS 1 (.t 21) (.t 23), none⟩,
  ⟨(some 27), none, .load false 1 (.t 26), none⟩,
  ⟨(some 3), none, .mov (.t 25), none⟩,
  ⟨(some 4), none, .mov (.t 27), none⟩]
def r54_5 : List AOp :=
  [⟨(some 28), none, .load false 1 (.t 1), none⟩,
  ⟨(some 29), none, .mov (.t 3), none⟩,
  ⟨(some 30), none, .bin .add (.t 29) (.c (.int .i64 1)), none⟩,
  ⟨(some 31), none, .mov (.t 4), none⟩,
  ⟨(some 32), none, .call 88 [.t 31], none⟩,
  ⟨(some 33), none, .build [.int .i64 0, .int .i64 0, .int .i64 0, .int .i64 0] [(0, 1, .c (.int .i64 (-1))), (1, 1, .c (.int .i64 0)), (2, 2, .t 32)], none⟩,
  ⟨(some 34), none, .call 87 [.t 28, .t 30, .t 33], none⟩]
def p54_5 : List (List Nat) := [[], [], [1], [], [3], [4], [0, 2, 5, 4]]
def r54_6 : List AOp :=
  [⟨(some 35), none, .bin .add (.t 23) (.c (.int .i64 1)), none⟩,
  ⟨(some 23), none, .mov (.t 35), none⟩]
def l54_0 : AC :=
  .seq (.ops r54_3)
  (.seq (.cond (.t 24) (.skip) (.exit 0))
   (.seq (.block 1 (.seq (.ops r54_4)
      (.dops r54_5
         p54_5)))
    (.ops r54_6)))
def r54_7 : List AOp :=
  [⟨(some 36), none, .load false 1 (.t 1), none⟩,
  ⟨(some 37), none, .nilchk (.t 36), none⟩,
  ⟨(some 38), none, .off 0 (.t 37), none⟩,
  ⟨(some 39), none, .off 2 (.t 38), none⟩,
  ⟨(some 40), none, .load false 1 (.t 39), none⟩,
  ⟨(some 41), none, .len (.t 40), none⟩,
  ⟨(some 42), none, .mov (.c (.int .i64 0)), none⟩]
def r54_8 : List AOp :=
  [⟨(some 43), none, .bin .lss (.t 42) (.t 41), none⟩]
def r54_9 : List AOp :=
  [⟨(some 44), none, .mov (.t 42), none⟩,
  ⟨(some 45), none, .idxS 5 (.t 40) (.t 42), none⟩,
  ⟨(some 46), none, .load true 5 (.t 45), none⟩,
  ⟨(some 6), none, .alloc false [.lst .nil [], .lst .nil [], .int .i64 0, .int .i64 0, .lst .nil []], none⟩,
  ⟨(some 5), none, .mov (.t 44), none⟩,
  ⟨none, none, .store 5 (.t 6) (.t 46), none⟩]
def r54_10 : List AOp :=
  [⟨(some 47), none, .off 0 (.t 6), none⟩,
  ⟨(some 48), none, .load false 1 (.t 47), none⟩,
  ⟨(some 49), none, .len (.t 48), none⟩,
  ⟨(some 50), none, .mov (.c (.int .i64 0)), none⟩]
def r54_11 : List AOp :=
  [⟨(some 51), none, .bin .lss (.t 50) (.t 49), none⟩]
def r54_12 : List AOp :=
  [⟨(some 52), none, .idxS 4 (.t 48) (.t 50), none⟩,
  ⟨(some 53), none, .load true 4 (.t 52), none⟩,
  ⟨(some 8), none, .alloc false [.int .i64 0, .int .i64 0, .lst .nil [], .lst .nil []], none⟩,
  ⟨none, none, .store 4 (.t 8) (.t 53), none⟩]
def r54_13 : List AOp :=
  [⟨(some 54), none, .off 1 (.t 8), (some (.t 8, .loc 8))⟩,
  ⟨(some 55), none, .load false 1 (.t 54), (some (.t 54, .loc 8))⟩,
  ⟨(some 56), none, .bin .lss (.t 55) (.c (.int .i64 1)), none⟩,
  ⟨(some 57), none, .mov (.t 56), none⟩,
  ⟨(some 58), (some (57, false)), .off 1 (.t 8), (some (.t 8, .loc 8))⟩,
  ⟨(some 59), (some (57, false)), .load false 1 (.t 58), (some (.t 58, .loc 8))⟩,
  ⟨(some 60), (some (57, false)), .bin .gtr (.t 59) (.c (.int .i64 1023)), none⟩,
  ⟨(some 61), none, .pick (.t 57) (.c (.bool true)) (.t 60), none⟩,
  ⟨(some 62), none, .mov (.t 61), none⟩,
  ⟨(some 63), (some (62, false)), .load false 1 (.t 1), none⟩,
  ⟨(some 64), (some (62, false)), .off 1 (.t 8), (some (.t 8, .loc 8))⟩,
  ⟨(some 65), (some (62, false)), .load false 1 (.t 64), (some (.t 64, .loc 8))⟩,
  ⟨(some 66), (some (62, false)), .mov (.t 5), none⟩,
  ⟨(some 67), (some (62, false)), .off 0 (.t 8), (some (.t 8, .loc 8))⟩,
  ⟨(some 68), (some (62, false)), .load false 1 (.t 67), (some (.t 67, .loc 8))⟩,
  ⟨(some 69), (some (62, false)), .call 88 [.t 68], none⟩,
  ⟨(some 70), (some (62, false)), .build [.int .i64 0, .int .i64 0, .int .i64 0, .int .i64 0] [(0, 1, .t 66), (1, 1, .c (.int .i64 (-1))), (2, 2, .t 69)], none⟩,
  ⟨(some 71), (some (62, false)), .call 87 [.t 63, .t 65, .t 70], none⟩,
  ⟨(some 72), (some (62, false)), .un .not (.t 71), none⟩,
  ⟨(some 73), none, .pick (.t 62) (.c (.bool true)) (.t 72), none⟩]
def p54_13 : List (List Nat) := [[], [0], [1], [2], [3], [4, 3], [5, 3], [3, 6], [7, 3], [8], [8], [10, 8], [8], [8], [13, 8], [14, 8, 8], [12, 15, 8], [9, 11, 16, 15, 8], [17, 8], [8, 18]]
def r54_14 : List AOp :=
  [⟨(some 2), none, .mov (.c (.int .i64 7)), none⟩]
def r54_15 : List AOp :=
  [⟨(some 74), none, .bin .add (.t 50) (.c (.int .i64 1)), none⟩,
  ⟨(some 50), none, .mov (.t 74), none⟩]
def l54_2 : AC :=
  .seq (.ops r54_11)
  (.seq (.cond (.t 51) (.skip) (.exit 4))
   (.seq (.block 5 (.seq (.ops r54_12)
      (.seq (.dops r54_13
          p54_13)
       (.cond (.t 73) (.seq (.ops r54_14)
         (.ret)) (.skip)))))
    (.ops r54_15)))
def r54_16 : List AOp :=
  [⟨(some 75), none, .off 1 (.t 6), none⟩,
  ⟨(some 76), none, .load false 1 (.t 75), none⟩,
  ⟨(some 77), none, .len (.t 76), none⟩,
  ⟨(some 78), none, .mov (.c (.int .i64 0)), none⟩]
def r54_17 : List AOp :=
  [⟨(some 79), none, .bin .lss (.t 78) (.t 77), none⟩]
def r54_18 : List AOp :=
  [⟨(some 80), none, .mov (.t 78), none⟩,
  ⟨(some 81), none, .idxS 6 (.t 76) (.t 78), none⟩,
  ⟨(some 82), none, .load true 6 (.t 81), none⟩,
  ⟨(some 10), none, .alloc false [.int .i64 0, .int .i64 0, .int .i64 0, .int .i64 0, .lst .nil [], .int .u64 0], none⟩,
  ⟨(some 9), none, .mov (.t 80), none⟩,
  ⟨none, none, .store 6 (.t 10) (.t 82), none⟩]
def r54_19 : List AOp :=
  [⟨(some 84), none, .load true 6 (.t 10), none⟩,
  ⟨(some 85), none, .call 89 [.t 84], none⟩,
  ⟨(some 83), none, .mov (.t 85), none⟩,
  ⟨(some 86), none, .ext (.t 83) 0, none⟩,
  ⟨(some 87), none, .ext (.t 83) 1, none⟩,
  ⟨(some 11), none, .mov (.t 86), none⟩,
  ⟨(some 12), none, .mov (.t 87), none⟩]
def r54_20 : List AOp :=
  [⟨(some 88), none, .mov (.t 11), none⟩,
  ⟨(some 89), none, .bin .gtr (.t 88) (.c (.int .i64 0)), none⟩,
  ⟨(some 90), none, .mov (.t 89), none⟩,
  ⟨(some 91), (some (90, true)), .load false 1 (.t 1), none⟩,
  ⟨(some 92), (some (90, true)), .off 3 (.t 10), none⟩,
  ⟨(some 93), (some (90, true)), .load false 1 (.t 92), none⟩,
  ⟨(some 94), (some (90, true)), .mov (.t 5), none⟩,
  ⟨(some 95), (some (90, true)), .mov (.t 9), none⟩,
  ⟨(some 96), (some (90, true)), .mov (.t 11), none⟩,
  ⟨(some 97), (some (90, true)), .mov (.t 12), none⟩,
  ⟨(some 98), (some (90, true)), .build [.int .i64 0, .int .i64 0] [(0, 1, .t 96), (1, 1, .t 97)], none⟩,
  ⟨(some 99), (some (90, true)), .build [.int .i64 0, .int .i64 0, .int .i64 0, .int .i64 0] [(0, 1, .t 94), (1, 1, .t 95), (2, 2, .t 98)], none⟩,
  ⟨(some 100), (some (90, true)), .call 87 [.t 91, .t 93, .t 99], none⟩,
  ⟨(some 101), (some (90, true)), .un .not (.t 100), none⟩,
  ⟨(some 102), none, .pick (.t 90) (.t 101) (.c (.bool false)), none⟩]
def r54_21 : List AOp :=
  [⟨(some 2), none, .mov (.c (.int .i64 7)), none⟩]
def r54_22 : List AOp :=
  [⟨(some 103), none, .bin .add (.t 78) (.c (.int .i64 1)), none⟩,
  ⟨(some 78), none, .mov (.t 103), none⟩]
def l54_3 : AC :=
  .seq (.ops r54_17)
  (.seq (.cond (.t 79) (.skip) (.exit 6))
   (.seq (.block 7 (.seq (.ops r54_18)
      (.seq (.ops r54_19)
       (.seq (.ops r54_20)
        (.cond (.t 102) (.seq (.ops r54_21)
          (.ret)) (.skip))))))
    (.ops r54_22)))
def r54_23 : List AOp :=
  [⟨(some 104), none, .bin .add (.t 42) (.c (.int .i64 1)), none⟩,
  ⟨(some 42), none, .mov (.t 104), none⟩]
def l54_1 : AC :=
  .seq (.ops r54_8)
  (.seq (.cond (.t 43) (.skip) (.exit 2))
   (.seq (.block 3 (.seq (.ops r54_9)
      (.seq (.seq (.ops r54_10)
        (.block 4 (.loop l54_2)))
       (.seq (.ops r54_16)
        (.block 6 (.loop l54_3))))))
    (.ops r54_23)))
def r54_24 : List AOp :=
  [⟨(some 105), none, .load false 1 (.t 1), none⟩,
  ⟨(some 106), none, .mkfn 91 [] [.t 1], none⟩,
  ⟨(some 107), none, .call 90 [.t 105, .t 106], none⟩,
  ⟨(some 2), none, .mov (.t 107), none⟩]
/-- (*lockstep/check.checker).defined -/
def c54 : AC :=
  .seq (.ops r54_0)
  (.seq (.ops r54_1)
   (.seq (.seq (.ops r54_2)
     (.block 0 (.loop l54_0)))
    (.seq (.seq (.ops r54_7)
      (.block 2 (.loop l54_1)))
     (.seq (.ops r54_24)
      (.ret)))))
def a54 : AFn := { res := [.tmp 2], body := c54, keepA := false, keepR := false, pure := false }
theorem k54 : chkFn Tryz.prog Tryz.f54 a54 = true := by kernel_rfl

/-! (*lockstep/check.checker).shapes -/
def r55_0 : List AOp :=
  [⟨(some 1), none, .box true 1 (.t 0), none⟩,
  ⟨(some 2), none, .mov (.c (.int .i64 0)), none⟩]
def r55_1 : List AOp :=
  [⟨(some 3), none, .load false 1 (.t 1), none⟩,
  ⟨(some 4), none, .mkfn 92 [] [.t 1], none⟩,
  ⟨(some 5), none, .call 90 [.t 3, .t 4], none⟩,
  ⟨(some 2), none, .mov (.t 5), none⟩]
/-- (*lockstep/check.checker).shapes -/
def c55 : AC :=
  .seq (.ops r55_0)
  (.seq (.ops r55_1)
   (.ret))
def a55 : AFn := { res := [.tmp 2], body := c55, keepA := false, keepR := false, pure := false }
theorem k55 : chkFn Tryz.prog Tryz.f55 a55 = true := by kernel_rfl

/-! (*lockstep/check.checker).places -/
def r56_0 : List AOp :=
  [⟨(some 1), none, .box true 1 (.t 0), none⟩,
  ⟨(some 2), none, .mov (.c (.int .i64 0)), none⟩]
def r56_1 : List AOp :=
  [⟨(some 3), none, .load false 1 (.t 1), none⟩,
  ⟨(some 4), none, .mkfn 93 [] [.t 1], none⟩,
  ⟨(some 5), none, .call 90 [.t 3, .t 4], none⟩,
  ⟨(some 2), none, .mov (.t 5), none⟩]
/-- (*lockstep/check.checker).places -/
def c56 : AC :=
  .seq (.ops r56_0)
  (.seq (.ops r56_1)
   (.ret))
def a56 : AFn := { res := [.tmp 2], body := c56, keepA := false, keepR := false, pure := false }
theorem k56 : chkFn Tryz.prog Tryz.f56 a56 = true := by kernel_rfl

/-! lockstep/code.Size -/
def r70_0 : List AOp :=
  [⟨(some 1), none, .box false 3 (.t 0), none⟩,
  ⟨(some 2), none, .mov (.c (.int .i64 0)), none⟩]
def r70_1 : List AOp :=
  [⟨(some 6), none, .off 2 (.t 1), none⟩,
  ⟨(some 7), none, .load false 1 (.t 6), none⟩,
  ⟨(some 8), none, .len (.t 7), none⟩,
  ⟨(some 3), none, .mov (.t 8), none⟩]
def r70_2 : List AOp :=
  [⟨(some 9), none, .off 2 (.t 1), none⟩,
  ⟨(some 10), none, .load false 1 (.t 9), none⟩,
  ⟨(some 11), none, .len (.t 10), none⟩,
  ⟨(some 12), none, .mov (.c (.int .i64 0)), none⟩]
def r70_3 : List AOp :=
  [⟨(some 13), none, .bin .lss (.t 12) (.t 11), none⟩]
def r70_4 : List AOp :=
  [⟨(some 14), none, .idxS 5 (.t 10) (.t 12), none⟩,
  ⟨(some 15), none, .load true 5 (.t 14), none⟩,
  ⟨(some 5), none, .alloc false [.lst .nil [], .lst .nil [], .int .i64 0, .int .i64 0, .lst .nil []], none⟩,
  ⟨none, none, .store 5 (.t 5) (.t 15), none⟩]
def r70_5 : List AOp :=
  [⟨(some 16), none, .mov (.t 3), none⟩,
  ⟨(some 17), none, .off 0 (.t 5), none⟩,
  ⟨(some 18), none, .load false 1 (.t 17), none⟩,
  ⟨(some 19), none, .len (.t 18), none⟩,
  ⟨(some 20), none, .off 1 (.t 5), none⟩,
  ⟨(some 21), none, .load false 1 (.t 20), none⟩,
  ⟨(some 22), none, .len (.t 21), none⟩,
  ⟨(some 23), none, .bin .add (.t 19) (.t 22), none⟩,
  ⟨(some 24), none, .bin .add (.t 16) (.t 23), none⟩,
  ⟨(some 3), none, .mov (.t 24), none⟩]
def r70_6 : List AOp :=
  [⟨(some 25), none, .bin .add (.t 12) (.c (.int .i64 1)), none⟩,
  ⟨(some 12), none, .mov (.t 25), none⟩]
def l70_0 : AC :=
  .seq (.ops r70_3)
  (.seq (.cond (.t 13) (.skip) (.exit 0))
   (.seq (.block 1 (.seq (.ops r70_4)
      (.ops r70_5)))
    (.ops r70_6)))
def r70_7 : List AOp :=
  [⟨(some 26), none, .mov (.t 3), none⟩,
  ⟨(some 2), none, .mov (.t 26), none⟩]
/-- lockstep/code.Size -/
def c70 : AC :=
  .seq (.ops r70_0)
  (.seq (.ops r70_1)
   (.seq (.seq (.ops r70_2)
     (.block 0 (.loop l70_0)))
    (.seq (.ops r70_7)
     (.ret))))
def a70 : AFn := { res := [.tmp 2], body := c70, keepA := false, keepR := false, pure := true }
theorem k70 : chkFn Tryz.prog Tryz.f70 a70 = true := by kernel_rfl

/-! lockstep/code.in -/
def r71_0 : List AOp :=
  [⟨(some 2), none, .mov (.c (.bool false)), none⟩]
def r71_1 : List AOp :=
  [⟨(some 3), none, .mov (.t 0), none⟩,
  ⟨(some 4), none, .call 80 [.t 3, .c (.fn 98 [] [])], none⟩,
  ⟨(some 5), none, .un .not (.t 4), none⟩,
  ⟨(some 2), none, .mov (.t 5), none⟩]
/-- lockstep/code.in -/
def c71 : AC :=
  .seq (.ops r71_0)
  (.seq (.ops r71_1)
   (.ret))
def a71 : AFn := { res := [.tmp 2], body := c71, keepA := false, keepR := false, pure := true }
theorem k71 : chkFn Tryz.prog Tryz.f71 a71 = true := by kernel_rfl

/-! slices.ContainsFunc[[]lockstep/api.Block,lockstep/api.Block] -/
def r72_0 : List AOp :=
  [⟨(some 4), none, .mov (.c (.bool false)), none⟩]
def r72_1 : List AOp :=
  [⟨(some 5), none, .mov (.t 0), none⟩,
  ⟨(some 6), none, .mov (.t 1), none⟩,
  ⟨(some 7), none, .call 99 [.t 5, .t 6], none⟩,
  ⟨(some 8), none, .bin .geq (.t 7) (.c (.int .i64 0)), none⟩,
  ⟨(some 4), none, .mov (.t 8), none⟩]
/-- slices.ContainsFunc[[]lockstep/api.Block,lockstep/api.Block] -/
def c72 : AC :=
  .seq (.ops r72_0)
  (.seq (.ops r72_1)
   (.ret))
def a72 : AFn := { res := [.tmp 4], body := c72, keepA := false, keepR := false, pure := true }
theorem k72 : chkFn Tryz.prog Tryz.f72 a72 = true := by kernel_rfl

/-! lockstep/code.May$1 -/
def r73_0 : List AOp :=
  [⟨(some 1), none, .box false 5 (.t 0), none⟩,
  ⟨(some 2), none, .mov (.c (.bool false)), none⟩]
def r73_1 : List AOp :=
  [⟨(some 3), none, .load true 5 (.t 1), none⟩,
  ⟨(some 4), none, .call 74 [.t 3], none⟩,
  ⟨(some 5), none, .un .not (.t 4), none⟩,
  ⟨(some 2), none, .mov (.t 5), none⟩]
/-- lockstep/code.May$1 -/
def c73 : AC :=
  .seq (.ops r73_0)
  (.seq (.ops r73_1)
   (.ret))
def a73 : AFn := { res := [.tmp 2], body := c73, keepA := false, keepR := false, pure := true }
theorem k73 : chkFn Tryz.prog Tryz.f73 a73 = true := by kernel_rfl

end Go.Proofs.YtcngflmnbdcppaaGreat
