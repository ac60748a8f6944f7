/- A part of the proof: an abstract machine for the program's code and what each of its functions comes to there. No conditions. -/
import Derived.Test.YtcngflmnbdcppaaGreatP05
import Derived.Test.YtcngflmnbdcppaaGreatChecked
import Derived.KernelRfl

set_option linter.unusedSimpArgs false
set_option linter.unusedVariables false

/- Compact code of the program's functions, each checked against the program's form: printed by mkcode.py. -/
namespace Go.Proofs.YtcngflmnbdcppaaGreat
open Go.LS

/-! lockstep/code.mayBlock -/
def r74_0 : List AOp :=
  [⟨(some 1), none, .box false 5 (.t 0), none⟩,
  ⟨(some 2), none, .mov (.c (.bool false)), none⟩]
def r74_1 : List AOp :=
  [⟨(some 7), none, .off 0 (.t 1), none⟩,
  ⟨(some 8), none, .load false 1 (.t 7), none⟩,
  ⟨(some 9), none, .len (.t 8), none⟩,
  ⟨(some 10), none, .mov (.c (.int .i64 0)), none⟩]
def r74_2 : List AOp :=
  [⟨(some 11), none, .bin .lss (.t 10) (.t 9), none⟩]
def r74_3 : List AOp :=
  [⟨(some 12), none, .idxS 4 (.t 8) (.t 10), none⟩,
  ⟨(some 13), none, .load true 4 (.t 12), none⟩,
  ⟨(some 4), none, .alloc false [.int .i64 0, .int .i64 0, .lst .nil [], .lst .nil []], none⟩,
  ⟨none, none, .store 4 (.t 4) (.t 13), none⟩]
def r74_4 : List AOp :=
  [⟨(some 14), none, .off 0 (.t 4), none⟩,
  ⟨(some 15), none, .load false 1 (.t 14), none⟩,
  ⟨(some 16), none, .off 1 (.t 4), none⟩,
  ⟨(some 17), none, .load false 1 (.t 16), none⟩,
  ⟨(some 18), none, .bslice false 2 1 [.int .i64 0] [(0, .t 15), (1, .t 17)], none⟩,
  ⟨(some 19), none, .call 71 [.t 18], none⟩,
  ⟨(some 20), none, .un .not (.t 19), none⟩,
  ⟨(some 21), none, .mov (.t 20), none⟩,
  ⟨(some 22), (some (21, false)), .off 2 (.t 4), none⟩,
  ⟨(some 23), (some (21, false)), .load false 1 (.t 22), none⟩,
  ⟨(some 24), (some (21, false)), .off 3 (.t 4), none⟩,
  ⟨(some 25), (some (21, false)), .load false 1 (.t 24), none⟩,
  ⟨(some 26), (some (21, false)), .bslice false 2 1 [.lst .nil []] [(0, .t 23), (1, .t 25)], none⟩,
  ⟨(some 27), (some (21, false)), .call 100 [.t 26], none⟩,
  ⟨(some 28), (some (21, false)), .un .not (.t 27), none⟩,
  ⟨(some 29), none, .pick (.t 21) (.c (.bool true)) (.t 28), none⟩]
def r74_5 : List AOp :=
  [⟨(some 2), none, .mov (.c (.bool false)), none⟩]
def r74_6 : List AOp :=
  [⟨(some 30), none, .bin .add (.t 10) (.c (.int .i64 1)), none⟩,
  ⟨(some 10), none, .mov (.t 30), none⟩]
def l74_0 : AC :=
  .seq (.ops r74_2)
  (.seq (.cond (.t 11) (.skip) (.exit 0))
   (.seq (.block 1 (.seq (.ops r74_3)
      (.seq (.ops r74_4)
       (.cond (.t 29) (.seq (.ops r74_5)
         (.ret)) (.skip)))))
    (.ops r74_6)))
def r74_7 : List AOp :=
  [⟨(some 31), none, .off 1 (.t 1), none⟩,
  ⟨(some 32), none, .load false 1 (.t 31), none⟩,
  ⟨(some 33), none, .len (.t 32), none⟩,
  ⟨(some 34), none, .mov (.c (.int .i64 0)), none⟩]
def r74_8 : List AOp :=
  [⟨(some 35), none, .bin .lss (.t 34) (.t 33), none⟩]
def r74_9 : List AOp :=
  [⟨(some 36), none, .idxS 6 (.t 32) (.t 34), none⟩,
  ⟨(some 37), none, .load true 6 (.t 36), none⟩,
  ⟨(some 6), none, .alloc false [.int .i64 0, .int .i64 0, .int .i64 0, .int .i64 0, .lst .nil [], .int .u64 0], none⟩,
  ⟨none, none, .store 6 (.t 6) (.t 37), none⟩]
def r74_10 : List AOp :=
  [⟨(some 38), none, .off 0 (.t 6), none⟩,
  ⟨(some 39), none, .load false 1 (.t 38), none⟩,
  ⟨(some 40), none, .off 1 (.t 6), none⟩,
  ⟨(some 41), none, .load false 1 (.t 40), none⟩,
  ⟨(some 42), none, .off 2 (.t 6), none⟩,
  ⟨(some 43), none, .load false 1 (.t 42), none⟩,
  ⟨(some 44), none, .off 3 (.t 6), none⟩,
  ⟨(some 45), none, .load false 1 (.t 44), none⟩,
  ⟨(some 46), none, .bslice false 4 1 [.int .i64 0] [(0, .t 39), (1, .t 41), (2, .t 43), (3, .t 45)], none⟩,
  ⟨(some 47), none, .call 71 [.t 46], none⟩,
  ⟨(some 48), none, .un .not (.t 47), none⟩,
  ⟨(some 49), none, .mov (.t 48), none⟩,
  ⟨(some 50), (some (49, false)), .off 4 (.t 6), none⟩,
  ⟨(some 51), (some (49, false)), .load false 1 (.t 50), none⟩,
  ⟨(some 52), (some (49, false)), .bslice false 1 1 [.lst .nil []] [(0, .t 51)], none⟩,
  ⟨(some 53), (some (49, false)), .call 100 [.t 52], none⟩,
  ⟨(some 54), (some (49, false)), .un .not (.t 53), none⟩,
  ⟨(some 55), none, .pick (.t 49) (.c (.bool true)) (.t 54), none⟩]
def r74_11 : List AOp :=
  [⟨(some 2), none, .mov (.c (.bool false)), none⟩]
def r74_12 : List AOp :=
  [⟨(some 56), none, .bin .add (.t 34) (.c (.int .i64 1)), none⟩,
  ⟨(some 34), none, .mov (.t 56), none⟩]
def l74_1 : AC :=
  .seq (.ops r74_8)
  (.seq (.cond (.t 35) (.skip) (.exit 2))
   (.seq (.block 3 (.seq (.ops r74_9)
      (.seq (.ops r74_10)
       (.cond (.t 55) (.seq (.ops r74_11)
         (.ret)) (.skip)))))
    (.ops r74_12)))
def r74_13 : List AOp :=
  [⟨(some 57), none, .off 2 (.t 1), none⟩,
  ⟨(some 58), none, .off 0 (.t 57), none⟩,
  ⟨(some 59), none, .load false 1 (.t 58), none⟩,
  ⟨(some 60), none, .off 2 (.t 1), none⟩,
  ⟨(some 61), none, .off 1 (.t 60), none⟩,
  ⟨(some 62), none, .load false 1 (.t 61), none⟩,
  ⟨(some 63), none, .bslice false 2 1 [.int .i64 0] [(0, .t 59), (1, .t 62)], none⟩,
  ⟨(some 64), none, .call 71 [.t 63], none⟩,
  ⟨(some 65), none, .mov (.t 64), none⟩,
  ⟨(some 66), (some (65, true)), .off 2 (.t 1), none⟩,
  ⟨(some 67), (some (65, true)), .off 2 (.t 66), none⟩,
  ⟨(some 68), (some (65, true)), .load false 1 (.t 67), none⟩,
  ⟨(some 69), (some (65, true)), .bslice false 1 1 [.lst .nil []] [(0, .t 68)], none⟩,
  ⟨(some 70), (some (65, true)), .call 100 [.t 69], none⟩,
  ⟨(some 71), none, .pick (.t 65) (.t 70) (.c (.bool false)), none⟩,
  ⟨(some 2), none, .mov (.t 71), none⟩]
/-- lockstep/code.mayBlock -/
def c74 : AC :=
  .seq (.ops r74_0)
  (.seq (.seq (.ops r74_1)
    (.block 0 (.loop l74_0)))
   (.seq (.seq (.ops r74_7)
     (.block 2 (.loop l74_1)))
    (.seq (.ops r74_13)
     (.ret))))
def a74 : AFn := { res := [.tmp 2], body := c74, keepA := false, keepR := false, pure := true }
theorem k74 : chkFn Tryz.prog Tryz.f74 a74 = true := by kernel_rfl

/-! lockstep/graph.Of -/
def r75_0 : List AOp :=
  [⟨(some 1), none, .box false 3 (.t 0), none⟩,
  ⟨(some 2), none, .alloc false [.lst .nil [], .lst .nil []], none⟩,
  ⟨(some 3), none, .mov (.c (.int .i64 0)), none⟩]
def r75_1 : List AOp :=
  [⟨(some 8), none, .off 2 (.t 1), none⟩,
  ⟨(some 9), none, .load false 1 (.t 8), none⟩,
  ⟨(some 10), none, .len (.t 9), none⟩,
  ⟨(some 4), none, .alloc true [.int .i64 0], none⟩,
  ⟨none, none, .store 1 (.t 4) (.t 10), none⟩]
def r75_2 : List AOp :=
  [⟨(some 11), none, .load false 1 (.t 4), none⟩,
  ⟨(some 12), none, .bin .gtr (.t 11) (.c (.int .i64 64)), none⟩]
def r75_3 : List AOp :=
  [⟨(some 13), none, .build [.lst .nil [], .lst .nil []] [], none⟩,
  ⟨none, none, .store 2 (.t 2) (.t 13), none⟩,
  ⟨(some 3), none, .mov (.c (.int .i64 5)), none⟩]
def r75_4 : List AOp :=
  [⟨(some 5), none, .mov (.c (.lst .nil [])), none⟩]
def r75_5 : List AOp :=
  [⟨(some 14), none, .off 2 (.t 1), none⟩,
  ⟨(some 15), none, .load false 1 (.t 14), none⟩,
  ⟨(some 16), none, .len (.t 15), none⟩,
  ⟨(some 17), none, .mov (.c (.int .i64 0)), none⟩]
def r75_6 : List AOp :=
  [⟨(some 18), none, .bin .lss (.t 17) (.t 16), none⟩]
def r75_7 : List AOp :=
  [⟨(some 19), none, .idxS 5 (.t 15) (.t 17), none⟩,
  ⟨(some 20), none, .load true 5 (.t 19), none⟩,
  ⟨(some 7), none, .alloc false [.lst .nil [], .lst .nil [], .int .i64 0, .int .i64 0, .lst .nil []], none⟩,
  ⟨none, none, .store 5 (.t 7) (.t 20), none⟩]
def r75_8 : List AOp :=
  [⟨(some 21), none, .off 2 (.t 7), (some (.t 7, .loc 7))⟩,
  ⟨(some 22), none, .off 0 (.t 21), (some (.t 21, .loc 7))⟩,
  ⟨(some 23), none, .load false 1 (.t 22), (some (.t 22, .loc 7))⟩,
  ⟨(some 24), none, .call 101 [.t 23], none⟩,
  ⟨(some 25), none, .off 2 (.t 7), (some (.t 7, .loc 7))⟩,
  ⟨(some 26), none, .off 2 (.t 25), (some (.t 25, .loc 7))⟩,
  ⟨(some 27), none, .load false 1 (.t 26), (some (.t 26, .loc 7))⟩,
  ⟨(some 28), none, .len (.t 27), none⟩,
  ⟨(some 29), none, .bin .neq (.t 24) (.t 28), none⟩,
  ⟨(some 30), none, .mov (.t 29), none⟩,
  ⟨(some 31), (some (30, false)), .off 2 (.t 7), (some (.t 7, .loc 7))⟩,
  ⟨(some 32), (some (30, false)), .off 2 (.t 31), (some (.t 31, .loc 7))⟩,
  ⟨(some 33), (some (30, false)), .load false 1 (.t 32), (some (.t 32, .loc 7))⟩,
  ⟨(some 34), (some (30, false)), .mkfn 102 [] [.t 4], none⟩,
  ⟨(some 35), (some (30, false)), .call 80 [.t 33, .t 34], none⟩,
  ⟨(some 36), none, .pick (.t 30) (.c (.bool true)) (.t 35), none⟩]
def p75_8 : List (List Nat) := [[], [0], [1], [2], [], [4], [5], [6], [3, 7], [8, 3], [9], [10, 9], [11, 9], [9], [12, 13, 9, 9], [9, 14]]
def r75_9 : List AOp :=
  [⟨(some 37), none, .build [.lst .nil [], .lst .nil []] [], none⟩,
  ⟨none, none, .store 2 (.t 2) (.t 37), none⟩,
  ⟨(some 3), none, .mov (.c (.int .i64 5)), none⟩]
def r75_10 : List AOp :=
  [⟨(some 38), none, .mov (.t 5), none⟩,
  ⟨(some 39), none, .off 2 (.t 7), none⟩,
  ⟨(some 40), none, .off 2 (.t 39), none⟩,
  ⟨(some 41), none, .load false 1 (.t 40), none⟩,
  ⟨(some 42), none, .call 105 [.t 41], none⟩,
  ⟨(some 43), none, .call 104 [.t 42], none⟩,
  ⟨(some 44), none, .call 103 [.t 43], none⟩,
  ⟨(some 45), none, .bslice false 1 1 [.lst .nil []] [(0, .t 44)], none⟩,
  ⟨(some 46), none, .append false 1 24 (.t 38) (.t 45), none⟩,
  ⟨(some 5), none, .mov (.t 46), none⟩]
def r75_11 : List AOp :=
  [⟨(some 47), none, .bin .add (.t 17) (.c (.int .i64 1)), none⟩,
  ⟨(some 17), none, .mov (.t 47), none⟩]
def l75_0 : AC :=
  .seq (.ops r75_6)
  (.seq (.cond (.t 18) (.skip) (.exit 0))
   (.seq (.block 1 (.seq (.ops r75_7)
      (.seq (.seq (.tops r75_8
           p75_8)
        (.cond (.t 36) (.seq (.ops r75_9)
          (.ret)) (.skip)))
       (.ops r75_10))))
    (.ops r75_11)))
def r75_12 : List AOp :=
  [⟨(some 48), none, .mov (.t 5), none⟩,
  ⟨(some 49), none, .call 106 [.t 48], none⟩,
  ⟨(some 50), none, .ext (.t 49) 0, none⟩,
  ⟨(some 51), none, .ext (.t 49) 1, none⟩,
  ⟨none, none, .store 2 (.t 2) (.t 50), none⟩,
  ⟨(some 3), none, .mov (.t 51), none⟩]
/-- lockstep/graph.Of -/
def c75 : AC :=
  .seq (.ops r75_0)
  (.seq (.ops r75_1)
   (.seq (.seq (.ops r75_2)
     (.cond (.t 12) (.seq (.ops r75_3)
       (.ret)) (.skip)))
    (.seq (.ops r75_4)
     (.seq (.seq (.ops r75_5)
       (.block 0 (.loop l75_0)))
      (.seq (.ops r75_12)
       (.ret))))))
def a75 : AFn := { res := [.cell 2 2 true, .tmp 3], body := c75, keepA := false, keepR := true, pure := true }
theorem k75 : chkFn Tryz.prog Tryz.f75 a75 = true := by kernel_rfl

/-! lockstep/dom.Tree -/
def r76_0 : List AOp :=
  [⟨(some 2), none, .box false 2 (.t 0), none⟩,
  ⟨(some 4), none, .mov (.c (.lst .nil [])), none⟩]
def r76_1 : List AOp :=
  [⟨(some 16), none, .load true 2 (.t 2), none⟩,
  ⟨(some 17), none, .mov (.t 1), none⟩,
  ⟨(some 18), none, .call 107 [.t 16, .t 17], none⟩,
  ⟨(some 5), none, .mov (.t 18), none⟩]
def r76_2 : List AOp :=
  [⟨(some 19), none, .mov (.t 5), none⟩,
  ⟨(some 20), none, .len (.t 19), none⟩,
  ⟨(some 21), none, .bin .eql (.t 20) (.c (.int .i64 0)), none⟩]
def r76_3 : List AOp :=
  [⟨(some 4), none, .mov (.c (.lst .nil [])), none⟩]
def r76_4 : List AOp :=
  [⟨(some 22), none, .off 0 (.t 2), none⟩,
  ⟨(some 23), none, .load false 1 (.t 22), none⟩,
  ⟨(some 24), none, .len (.t 23), none⟩,
  ⟨(some 6), none, .mov (.t 24), none⟩]
def r76_5 : List AOp :=
  [⟨(some 25), none, .bslice false 1 1 [.int .i64 0] [(0, .c (.int .i64 (-2)))], none⟩,
  ⟨(some 26), none, .mov (.t 6), none⟩,
  ⟨(some 27), none, .call 108 [.t 25, .t 26], none⟩,
  ⟨(some 28), none, .mov (.t 6), none⟩,
  ⟨(some 29), none, .mkslice true 1 8 [.int .i64 0] (.t 28) (.t 28), none⟩,
  ⟨(some 7), none, .mov (.t 27), none⟩,
  ⟨(some 8), none, .mov (.t 29), none⟩]
def p76_5 : List (List Nat) := [[], [], [0, 1], [], [3, 3], [2, 2, 0, 1, 2], [4, 5, 0, 1, 2, 3, 4, 5]]
def r76_6 : List AOp :=
  [⟨(some 30), none, .mov (.t 5), none⟩,
  ⟨(some 31), none, .len (.t 30), none⟩,
  ⟨(some 32), none, .mov (.c (.int .i64 0)), none⟩]
def r76_7 : List AOp :=
  [⟨(some 33), none, .bin .lss (.t 32) (.t 31), none⟩]
def r76_8 : List AOp :=
  [⟨(some 34), none, .mov (.t 32), none⟩,
  ⟨(some 35), none, .idxS 1 (.t 30) (.t 32), none⟩,
  ⟨(some 36), none, .load false 1 (.t 35), none⟩,
  ⟨(some 9), none, .mov (.t 34), none⟩,
  ⟨(some 10), none, .mov (.t 36), none⟩]
def r76_9 : List AOp :=
  [⟨(some 37), none, .mov (.t 8), none⟩,
  ⟨(some 38), none, .mov (.t 10), none⟩,
  ⟨(some 39), none, .mov (.t 9), none⟩,
  ⟨(some 40), none, .idxS 1 (.t 37) (.t 38), none⟩,
  ⟨none, none, .store 1 (.t 40) (.t 39), none⟩]
def r76_10 : List AOp :=
  [⟨(some 41), none, .bin .add (.t 32) (.c (.int .i64 1)), none⟩,
  ⟨(some 32), none, .mov (.t 41), none⟩]
def l76_0 : AC :=
  .seq (.ops r76_7)
  (.seq (.cond (.t 33) (.skip) (.exit 0))
   (.seq (.block 1 (.seq (.ops r76_8)
      (.ops r76_9)))
    (.ops r76_10)))
def r76_11 : List AOp :=
  [⟨(some 42), none, .mov (.t 7), none⟩,
  ⟨(some 43), none, .mov (.t 1), none⟩,
  ⟨(some 44), none, .mov (.t 1), none⟩,
  ⟨(some 45), none, .idxS 1 (.t 42) (.t 43), none⟩,
  ⟨none, none, .store 1 (.t 45) (.t 44), none⟩]
def r76_12 : List AOp :=
  [⟨(some 46), none, .mov (.t 5), none⟩,
  ⟨(some 47), none, .slice 1 (.t 46) (some (.c (.int .i64 1))) none none, none⟩,
  ⟨(some 48), none, .len (.t 47), none⟩,
  ⟨(some 49), none, .mov (.c (.int .i64 0)), none⟩]
def r76_13 : List AOp :=
  [⟨(some 50), none, .bin .lss (.t 49) (.t 48), none⟩]
def r76_14 : List AOp :=
  [⟨(some 51), none, .idxS 1 (.t 47) (.t 49), none⟩,
  ⟨(some 52), none, .load false 1 (.t 51), none⟩,
  ⟨(some 12), none, .mov (.t 52), none⟩]
def r76_15 : List AOp :=
  [⟨(some 13), none, .mov (.c (.int .i64 (-2))), none⟩]
def r76_16 : List AOp :=
  [⟨(some 53), none, .off 1 (.t 2), none⟩,
  ⟨(some 54), none, .load false 1 (.t 53), none⟩,
  ⟨(some 55), none, .mov (.t 12), none⟩,
  ⟨(some 56), none, .idxS 1 (.t 54) (.t 55), none⟩,
  ⟨(some 57), none, .load false 1 (.t 56), none⟩,
  ⟨(some 58), none, .len (.t 57), none⟩,
  ⟨(some 59), none, .mov (.c (.int .i64 0)), none⟩]
def r76_17 : List AOp :=
  [⟨(some 60), none, .bin .lss (.t 59) (.t 58), none⟩]
def r76_18 : List AOp :=
  [⟨(some 61), none, .idxS 1 (.t 57) (.t 59), none⟩,
  ⟨(some 62), none, .load false 1 (.t 61), none⟩,
  ⟨(some 15), none, .mov (.t 62), none⟩]
def r76_20 : List AOp :=
  [⟨(some 69), none, .mov (.t 7), none⟩,
  ⟨(some 70), none, .mov (.t 15), none⟩,
  ⟨(some 71), none, .idxS 1 (.t 69) (.t 70), none⟩,
  ⟨(some 72), none, .load false 1 (.t 71), none⟩,
  ⟨(some 73), none, .bin .eql (.t 72) (.c (.int .i64 (-2))), none⟩,
  ⟨(some 68), none, .mov (.t 73), none⟩]
def r76_21 : List AOp :=
  [⟨(some 75), none, .mov (.t 13), none⟩,
  ⟨(some 76), none, .bin .eql (.t 75) (.c (.int .i64 (-2))), none⟩,
  ⟨(some 74), none, .mov (.t 76), none⟩]
def r76_22 : List AOp :=
  [⟨(some 77), none, .mov (.t 15), none⟩,
  ⟨(some 13), none, .mov (.t 77), none⟩]
def r76_19 : List AOp :=
  [⟨(some 63), none, .mov (.t 7), none⟩,
  ⟨(some 64), none, .mov (.t 8), none⟩,
  ⟨(some 65), none, .mov (.t 13), none⟩,
  ⟨(some 66), none, .mov (.t 15), none⟩,
  ⟨(some 67), none, .call 109 [.t 63, .t 64, .t 65, .t 66], none⟩,
  ⟨(some 13), none, .mov (.t 67), none⟩]
def r76_23 : List AOp :=
  [⟨(some 78), none, .bin .add (.t 59) (.c (.int .i64 1)), none⟩,
  ⟨(some 59), none, .mov (.t 78), none⟩]
def l76_2 : AC :=
  .seq (.ops r76_17)
  (.seq (.cond (.t 60) (.skip) (.exit 4))
   (.seq (.block 5 (.seq (.ops r76_18)
      (.block 6 (.seq (.ops r76_20)
        (.cond (.t 68) (.skip) (.seq (.ops r76_21)
          (.cond (.t 74) (.ops r76_22) (.ops r76_19))))))))
    (.ops r76_23)))
def r76_24 : List AOp :=
  [⟨(some 79), none, .mov (.t 7), none⟩,
  ⟨(some 80), none, .mov (.t 12), none⟩,
  ⟨(some 81), none, .idxS 1 (.t 79) (.t 80), none⟩,
  ⟨(some 82), none, .load false 1 (.t 81), none⟩,
  ⟨(some 83), none, .mov (.t 13), none⟩,
  ⟨(some 84), none, .bin .neq (.t 82) (.t 83), none⟩]
def r76_25 : List AOp :=
  [⟨(some 85), none, .mov (.t 7), none⟩,
  ⟨(some 86), none, .mov (.t 12), none⟩,
  ⟨(some 87), none, .mov (.t 13), none⟩,
  ⟨(some 88), none, .idxS 1 (.t 85) (.t 86), none⟩,
  ⟨none, none, .store 1 (.t 88) (.t 87), none⟩]
def r76_26 : List AOp :=
  [⟨(some 89), none, .bin .add (.t 49) (.c (.int .i64 1)), none⟩,
  ⟨(some 49), none, .mov (.t 89), none⟩]
def l76_1 : AC :=
  .seq (.ops r76_13)
  (.seq (.cond (.t 50) (.skip) (.exit 2))
   (.seq (.block 3 (.seq (.ops r76_14)
      (.seq (.ops r76_15)
       (.seq (.seq (.ops r76_16)
         (.block 4 (.loop l76_2)))
        (.seq (.ops r76_24)
         (.cond (.t 84) (.seq (.ops r76_25)
           (.goto 0)) (.skip)))))))
    (.ops r76_26)))
def r76_27 : List AOp :=
  [⟨(some 90), none, .mov (.t 7), none⟩,
  ⟨(some 91), none, .mov (.t 1), none⟩,
  ⟨(some 92), none, .idxS 1 (.t 90) (.t 91), none⟩,
  ⟨none, none, .store 1 (.t 92) (.c (.int .i64 (-1))), none⟩]
def r76_28 : List AOp :=
  [⟨(some 93), none, .mov (.t 7), none⟩,
  ⟨(some 93), none, .freeze (.t 93), none⟩,
  ⟨(some 4), none, .mov (.t 93), none⟩]
/-- lockstep/dom.Tree -/
def c76 : AC :=
  .seq (.ops r76_0)
  (.scope (.seq (.ops r76_1)
    (.seq (.seq (.ops r76_2)
      (.cond (.t 21) (.seq (.ops r76_3)
        (.ret)) (.skip)))
     (.seq (.ops r76_4)
      (.seq (.dops r76_5
          p76_5)
       (.seq (.seq (.ops r76_6)
         (.block 0 (.loop l76_0)))
        (.seq (.ops r76_11)
         (.seq (.label 0)
          (.seq (.seq (.ops r76_12)
            (.block 2 (.loop l76_1)))
           (.seq (.ops r76_27)
            (.seq (.ops r76_28)
             (.ret)))))))))))
   (.seq (.ops r76_1)
    (.seq (.seq (.ops r76_2)
      (.cond (.t 21) (.seq (.ops r76_3)
        (.ret)) (.skip)))
     (.seq (.ops r76_4)
      (.seq (.dops r76_5
          p76_5)
       (.seq (.seq (.ops r76_6)
         (.block 0 (.loop l76_0)))
        (.seq (.ops r76_11)
         (.seq (.label 0)
          (.seq (.seq (.ops r76_12)
            (.block 2 (.loop l76_1)))
           (.seq (.ops r76_27)
            (.seq (.ops r76_28)
             (.ret))))))))))))
def a76 : AFn := { res := [.tmp 4], body := c76, keepA := true, keepR := false, pure := true }
theorem k76 : chkFn Tryz.prog Tryz.f76 a76 = true := by kernel_rfl

/-! lockstep/dom.Over -/
def r77_0 : List AOp :=
  [⟨(some 6), none, .mov (.c (.bool false)), none⟩]
def r77_1 : List AOp :=
  [⟨(some 7), none, .mov (.t 0), none⟩,
  ⟨(some 8), none, .mov (.t 1), none⟩,
  ⟨(some 9), none, .mov (.t 2), none⟩,
  ⟨(some 10), none, .bslice false 2 1 [.int .i64 0] [(0, .t 8), (1, .t 9)], none⟩,
  ⟨(some 11), none, .call 110 [.t 7, .t 10], none⟩,
  ⟨(some 12), none, .mov (.t 11), none⟩,
  ⟨(some 13), (some (12, true)), .mov (.t 0), none⟩,
  ⟨(some 14), (some (12, true)), .mov (.t 1), none⟩,
  ⟨(some 15), (some (12, true)), .mov (.t 2), none⟩,
  ⟨(some 16), (some (12, true)), .call 111 [.t 13, .t 14, .t 15], none⟩,
  ⟨(some 17), (some (12, true)), .mov (.t 1), none⟩,
  ⟨(some 18), (some (12, true)), .bin .eql (.t 16) (.t 17), none⟩,
  ⟨(some 19), none, .pick (.t 12) (.t 18) (.c (.bool false)), none⟩,
  ⟨(some 6), none, .mov (.t 19), none⟩]
/-- lockstep/dom.Over -/
def c77 : AC :=
  .seq (.ops r77_0)
  (.seq (.ops r77_1)
   (.ret))
def a77 : AFn := { res := [.tmp 6], body := c77, keepA := false, keepR := false, pure := true }
theorem k77 : chkFn Tryz.prog Tryz.f77 a77 = true := by kernel_rfl

/-! slices.Equal[[]int,int] -/
def r78_0 : List AOp :=
  [⟨(some 4), none, .mov (.c (.bool false)), none⟩]
def r78_1 : List AOp :=
  [⟨(some 6), none, .mov (.t 0), none⟩,
  ⟨(some 7), none, .len (.t 6), none⟩,
  ⟨(some 8), none, .mov (.t 1), none⟩,
  ⟨(some 9), none, .len (.t 8), none⟩,
  ⟨(some 10), none, .bin .neq (.t 7) (.t 9), none⟩]
def r78_2 : List AOp :=
  [⟨(some 4), none, .mov (.c (.bool false)), none⟩]
def r78_3 : List AOp :=
  [⟨(some 11), none, .mov (.t 0), none⟩,
  ⟨(some 12), none, .len (.t 11), none⟩,
  ⟨(some 13), none, .mov (.c (.int .i64 0)), none⟩]
def r78_4 : List AOp :=
  [⟨(some 14), none, .bin .lss (.t 13) (.t 12), none⟩]
def r78_5 : List AOp :=
  [⟨(some 15), none, .mov (.t 13), none⟩,
  ⟨(some 5), none, .mov (.t 15), none⟩]
def r78_6 : List AOp :=
  [⟨(some 16), none, .mov (.t 0), none⟩,
  ⟨(some 17), none, .mov (.t 5), none⟩,
  ⟨(some 18), none, .idxS 1 (.t 16) (.t 17), (some (.t 16, .lst))⟩,
  ⟨(some 19), none, .load false 1 (.t 18), (some (.t 18, .imm))⟩,
  ⟨(some 20), none, .mov (.t 1), none⟩,
  ⟨(some 21), none, .mov (.t 5), none⟩,
  ⟨(some 22), none, .idxS 1 (.t 20) (.t 21), (some (.t 20, .lst))⟩,
  ⟨(some 23), none, .load false 1 (.t 22), (some (.t 22, .imm))⟩,
  ⟨(some 24), none, .bin .neq (.t 19) (.t 23), none⟩]
def p78_6 : List (List Nat) := [[], [], [0, 1], [2], [], [], [4, 5], [6], [3, 7]]
def r78_7 : List AOp :=
  [⟨(some 4), none, .mov (.c (.bool false)), none⟩]
def r78_8 : List AOp :=
  [⟨(some 25), none, .bin .add (.t 13) (.c (.int .i64 1)), none⟩,
  ⟨(some 13), none, .mov (.t 25), none⟩]
def l78_0 : AC :=
  .seq (.ops r78_4)
  (.seq (.cond (.t 14) (.skip) (.exit 0))
   (.seq (.block 1 (.seq (.ops r78_5)
      (.seq (.tops r78_6
          p78_6)
       (.cond (.t 24) (.seq (.ops r78_7)
         (.ret)) (.skip)))))
    (.ops r78_8)))
def r78_9 : List AOp :=
  [⟨(some 4), none, .mov (.c (.bool true)), none⟩]
/-- slices.Equal[[]int,int] -/
def c78 : AC :=
  .seq (.ops r78_0)
  (.seq (.seq (.ops r78_1)
    (.cond (.t 10) (.seq (.ops r78_2)
      (.ret)) (.skip)))
   (.seq (.seq (.ops r78_3)
     (.block 0 (.loop l78_0)))
    (.seq (.ops r78_9)
     (.ret))))
def a78 : AFn := { res := [.tmp 4], body := c78, keepA := false, keepR := false, pure := true }
theorem k78 : chkFn Tryz.prog Tryz.f78 a78 = true := by kernel_rfl

/-! lockstep/word.May -/
def r79_0 : List AOp :=
  [⟨(some 2), none, .mov (.c (.bool false)), none⟩]
def r79_1 : List AOp :=
  [⟨(some 3), none, .mov (.t 0), none⟩]
def r79_2 : List AOp :=
  [⟨(some 5), none, .bin .eql (.t 3) (.c (.int .i64 1)), none⟩,
  ⟨(some 4), none, .mov (.t 5), none⟩]
def r79_3 : List AOp :=
  [⟨(some 6), none, .bin .eql (.t 3) (.c (.int .i64 8)), none⟩,
  ⟨(some 4), none, .mov (.t 6), none⟩]
def r79_4 : List AOp :=
  [⟨(some 7), none, .bin .eql (.t 3) (.c (.int .i64 16)), none⟩,
  ⟨(some 4), none, .mov (.t 7), none⟩]
def r79_5 : List AOp :=
  [⟨(some 8), none, .bin .eql (.t 3) (.c (.int .i64 32)), none⟩,
  ⟨(some 4), none, .mov (.t 8), none⟩]
def r79_6 : List AOp :=
  [⟨(some 9), none, .bin .eql (.t 3) (.c (.int .i64 64)), none⟩,
  ⟨(some 4), none, .mov (.t 9), none⟩]
def r79_7 : List AOp :=
  [⟨(some 2), none, .mov (.c (.bool true)), none⟩]
def r79_8 : List AOp :=
  [⟨(some 2), none, .mov (.c (.bool false)), none⟩]
/-- lockstep/word.May -/
def c79 : AC :=
  .seq (.ops r79_0)
  (.seq (.seq (.ops r79_1)
    (.block 0 (.seq (.seq (.ops r79_2)
       (.cond (.t 4) (.skip) (.seq (.ops r79_3)
         (.cond (.t 4) (.skip) (.seq (.ops r79_4)
           (.cond (.t 4) (.skip) (.seq (.ops r79_5)
             (.cond (.t 4) (.skip) (.ops r79_6)))))))))
      (.cond (.t 4) (.seq (.ops r79_7)
        (.ret)) (.skip)))))
   (.seq (.ops r79_8)
    (.ret)))
def a79 : AFn := { res := [.tmp 2], body := c79, keepA := false, keepR := false, pure := true }
theorem k79 : chkFn Tryz.prog Tryz.f79 a79 = true := by kernel_rfl

/-! slices.ContainsFunc[[]int,int] -/
def r80_0 : List AOp :=
  [⟨(some 4), none, .mov (.c (.bool false)), none⟩]
def r80_1 : List AOp :=
  [⟨(some 5), none, .mov (.t 0), none⟩,
  ⟨(some 6), none, .mov (.t 1), none⟩,
  ⟨(some 7), none, .call 112 [.t 5, .t 6], none⟩,
  ⟨(some 8), none, .bin .geq (.t 7) (.c (.int .i64 0)), none⟩,
  ⟨(some 4), none, .mov (.t 8), none⟩]
/-- slices.ContainsFunc[[]int,int] -/
def c80 : AC :=
  .seq (.ops r80_0)
  (.seq (.ops r80_1)
   (.ret))
def a80 : AFn := { res := [.tmp 4], body := c80, keepA := false, keepR := false, pure := true }
theorem k80 : chkFn Tryz.prog Tryz.f80 a80 = true := by kernel_rfl

/-! (*lockstep/check.checker).typed$1 -/
def r81_0 : List AOp :=
  [⟨(some 2), none, .mov (.c (.bool false)), none⟩]
def r81_1 : List AOp :=
  [⟨(some 3), none, .mov (.t 0), none⟩,
  ⟨(some 4), none, .call 79 [.t 3], none⟩,
  ⟨(some 5), none, .un .not (.t 4), none⟩,
  ⟨(some 2), none, .mov (.t 5), none⟩]
/-- (*lockstep/check.checker).typed$1 -/
def c81 : AC :=
  .seq (.ops r81_0)
  (.seq (.ops r81_1)
   (.ret))
def a81 : AFn := { res := [.tmp 2], body := c81, keepA := false, keepR := false, pure := true }
theorem k81 : chkFn Tryz.prog Tryz.f81 a81 = true := by kernel_rfl

/-! slices.ContainsFunc[[]lockstep/api.Phi,lockstep/api.Phi] -/
def r82_0 : List AOp :=
  [⟨(some 4), none, .mov (.c (.bool false)), none⟩]
def r82_1 : List AOp :=
  [⟨(some 5), none, .mov (.t 0), none⟩,
  ⟨(some 6), none, .mov (.t 1), none⟩,
  ⟨(some 7), none, .call 113 [.t 5, .t 6], none⟩,
  ⟨(some 8), none, .bin .geq (.t 7) (.c (.int .i64 0)), none⟩,
  ⟨(some 4), none, .mov (.t 8), none⟩]
/-- slices.ContainsFunc[[]lockstep/api.Phi,lockstep/api.Phi] -/
def c82 : AC :=
  .seq (.ops r82_0)
  (.seq (.ops r82_1)
   (.ret))
def a82 : AFn := { res := [.tmp 4], body := c82, keepA := false, keepR := false, pure := true }
theorem k82 : chkFn Tryz.prog Tryz.f82 a82 = true := by kernel_rfl

/-! (*lockstep/check.checker).typed$2 -/
def r83_0 : List AOp :=
  [⟨(some 1), none, .box false 4 (.t 0), none⟩,
  ⟨(some 2), none, .mov (.c (.bool false)), none⟩]
def r83_1 : List AOp :=
  [⟨(some 3), none, .off 0 (.t 1), none⟩,
  ⟨(some 4), none, .load false 1 (.t 3), none⟩,
  ⟨(some 5), none, .call 79 [.t 4], none⟩,
  ⟨(some 6), none, .un .not (.t 5), none⟩,
  ⟨(some 2), none, .mov (.t 6), none⟩]
/-- (*lockstep/check.checker).typed$2 -/
def c83 : AC :=
  .seq (.ops r83_0)
  (.seq (.ops r83_1)
   (.ret))
def a83 : AFn := { res := [.tmp 2], body := c83, keepA := false, keepR := false, pure := true }
theorem k83 : chkFn Tryz.prog Tryz.f83 a83 = true := by kernel_rfl

/-! slices.ContainsFunc[[]lockstep/api.Op,lockstep/api.Op] -/
def r84_0 : List AOp :=
  [⟨(some 4), none, .mov (.c (.bool false)), none⟩]
def r84_1 : List AOp :=
  [⟨(some 5), none, .mov (.t 0), none⟩,
  ⟨(some 6), none, .mov (.t 1), none⟩,
  ⟨(some 7), none, .call 114 [.t 5, .t 6], none⟩,
  ⟨(some 8), none, .bin .geq (.t 7) (.c (.int .i64 0)), none⟩,
  ⟨(some 4), none, .mov (.t 8), none⟩]
/-- slices.ContainsFunc[[]lockstep/api.Op,lockstep/api.Op] -/
def c84 : AC :=
  .seq (.ops r84_0)
  (.seq (.ops r84_1)
   (.ret))
def a84 : AFn := { res := [.tmp 4], body := c84, keepA := false, keepR := false, pure := true }
theorem k84 : chkFn Tryz.prog Tryz.f84 a84 = true := by kernel_rfl

/-! (*lockstep/check.checker).typed$3 -/
def r85_0 : List AOp :=
  [⟨(some 2), none, .box false 6 (.t 0), none⟩,
  ⟨(some 3), none, .mov (.c (.bool false)), none⟩]
def r85_1 : List AOp :=
  [⟨(some 4), none, .load false 1 (.t 1), none⟩,
  ⟨(some 5), none, .load true 6 (.t 2), none⟩,
  ⟨(some 6), none, .call 86 [.t 4, .t 5], none⟩,
  ⟨(some 7), none, .un .not (.t 6), none⟩,
  ⟨(some 3), none, .mov (.t 7), none⟩]
/-- (*lockstep/check.checker).typed$3 -/
def c85 : AC :=
  .seq (.ops r85_0)
  (.seq (.ops r85_1)
   (.ret))
def a85 : AFn := { res := [.tmp 3], body := c85, keepA := false, keepR := false, pure := true }
theorem k85 : chkFn Tryz.prog Tryz.f85 a85 = true := by kernel_rfl

/-! (*lockstep/check.checker).of -/
def r86_0 : List AOp :=
  [⟨(some 3), none, .box false 6 (.t 1), none⟩,
  ⟨(some 4), none, .mov (.c (.bool false)), none⟩]
def r86_1 : List AOp :=
  [⟨(some 6), none, .mov (.t 0), none⟩,
  ⟨(some 7), none, .nilchk (.t 6), none⟩,
  ⟨(some 8), none, .off 3 (.t 7), none⟩,
  ⟨(some 9), none, .load false 1 (.t 8), none⟩,
  ⟨(some 10), none, .bin .lss (.t 9) (.c (.int .i64 2)), none⟩,
  ⟨(some 11), none, .mov (.t 10), none⟩,
  ⟨(some 12), (some (11, true)), .off 2 (.t 3), none⟩,
  ⟨(some 13), (some (11, true)), .load false 1 (.t 12), none⟩,
  ⟨(some 14), (some (11, true)), .bin .gtr (.t 13) (.c (.int .i64 1)), none⟩,
  ⟨(some 15), (some (11, true)), .mov (.t 14), none⟩,
  ⟨(some 16), (some (15, false)), .off 0 (.t 3), none⟩,
  ⟨(some 17), (some (15, false)), .load false 1 (.t 16), none⟩,
  ⟨(some 18), (some (15, false)), .bin .gtr (.t 17) (.c (.int .i64 20)), none⟩,
  ⟨(some 19), (some (11, true)), .pick (.t 15) (.c (.bool true)) (.t 18), none⟩,
  ⟨(some 20), none, .pick (.t 11) (.t 19) (.c (.bool false)), none⟩,
  ⟨(some 5), none, .mov (.t 20), none⟩]
def r86_2 : List AOp :=
  [⟨(some 4), none, .mov (.c (.bool false)), none⟩]
def r86_3 : List AOp :=
  [⟨(some 22), none, .mov (.t 0), none⟩,
  ⟨(some 23), none, .nilchk (.t 22), none⟩,
  ⟨(some 24), none, .off 3 (.t 23), none⟩,
  ⟨(some 25), none, .load false 1 (.t 24), none⟩,
  ⟨(some 26), none, .bin .lss (.t 25) (.c (.int .i64 1)), none⟩,
  ⟨(some 27), none, .mov (.t 26), none⟩,
  ⟨(some 28), (some (27, true)), .off 0 (.t 3), none⟩,
  ⟨(some 29), (some (27, true)), .load false 1 (.t 28), none⟩,
  ⟨(some 30), (some (27, true)), .bin .gtr (.t 29) (.c (.int .i64 17)), none⟩,
  ⟨(some 31), none, .pick (.t 27) (.t 30) (.c (.bool false)), none⟩,
  ⟨(some 21), none, .mov (.t 31), none⟩]
def r86_4 : List AOp :=
  [⟨(some 4), none, .mov (.c (.bool false)), none⟩]
def r86_5 : List AOp :=
  [⟨(some 32), none, .load true 6 (.t 3), none⟩,
  ⟨(some 33), none, .call 115 [.t 32], none⟩,
  ⟨(some 4), none, .mov (.t 33), none⟩]
/-- (*lockstep/check.checker).of -/
def c86 : AC :=
  .seq (.ops r86_0)
  (.seq (.block 0 (.seq (.ops r86_1)
     (.cond (.t 5) (.seq (.ops r86_2)
       (.ret)) (.seq (.ops r86_3)
       (.cond (.t 21) (.seq (.ops r86_4)
         (.ret)) (.skip))))))
   (.seq (.ops r86_5)
    (.ret)))
def a86 : AFn := { res := [.tmp 4], body := c86, keepA := false, keepR := false, pure := false }
theorem k86 : chkFn Tryz.prog Tryz.f86 a86 = true := by kernel_rfl

/-! (*lockstep/check.checker).put -/
def r87_0 : List AOp :=
  [⟨(some 5), none, .box false 4 (.t 2), none⟩,
  ⟨(some 6), none, .mov (.c (.bool false)), none⟩]
def r87_1 : List AOp :=
  [⟨(some 10), none, .mov (.t 0), none⟩,
  ⟨(some 11), none, .nilchk (.t 10), none⟩,
  ⟨(some 12), none, .off 7 (.t 11), none⟩,
  ⟨(some 13), none, .load false 1 (.t 12), none⟩,
  ⟨(some 14), none, .mov (.t 1), none⟩,
  ⟨(some 15), none, .lookup .i64 (.agg [.int .i64 0, .int .i64 0, .int .i64 0, .int .i64 0]) true (.t 13) (.t 14), none⟩,
  ⟨(some 9), none, .mov (.t 15), none⟩,
  ⟨(some 16), none, .ext (.t 9) 0, none⟩,
  ⟨(some 17), none, .ext (.t 9) 1, none⟩,
  ⟨(some 7), none, .alloc false [.int .i64 0, .int .i64 0, .int .i64 0, .int .i64 0], none⟩,
  ⟨none, none, .store 4 (.t 7) (.t 16), none⟩,
  ⟨(some 8), none, .mov (.t 17), none⟩]
def r87_2 : List AOp :=
  [⟨(some 18), none, .mov (.t 0), none⟩,
  ⟨(some 19), none, .nilchk (.t 18), none⟩,
  ⟨(some 20), none, .off 7 (.t 19), none⟩,
  ⟨(some 21), none, .load false 1 (.t 20), none⟩,
  ⟨(some 22), none, .mov (.t 1), none⟩,
  ⟨(some 23), none, .load true 4 (.t 5), (some (.t 5, .loc 5))⟩,
  ⟨none, none, .mapset .i64 (.t 21) (.t 22) (.t 23), none⟩]
def p87_2 : List (List Nat) := [[], [0], [1], [2], [], [], [3, 4, 5, 0, 1, 2, 3, 4, 5]]
def r87_3 : List AOp :=
  [⟨(some 24), none, .mov (.t 8), none⟩,
  ⟨(some 25), none, .un .not (.t 24), none⟩,
  ⟨(some 6), none, .mov (.t 25), none⟩]
/-- (*lockstep/check.checker).put -/
def c87 : AC :=
  .seq (.ops r87_0)
  (.seq (.ops r87_1)
   (.seq (.tops r87_2
       p87_2)
    (.seq (.ops r87_3)
     (.ret))))
def a87 : AFn := { res := [.tmp 6], body := c87, keepA := false, keepR := false, pure := false }
theorem k87 : chkFn Tryz.prog Tryz.f87 a87 = true := by kernel_rfl

/-! lockstep/check.scalar -/
def r88_0 : List AOp :=
  [⟨(some 2), none, .alloc false [.int .i64 0, .int .i64 0], none⟩]
def r88_1 : List AOp :=
  [⟨(some 3), none, .mov (.t 0), none⟩,
  ⟨(some 4), none, .build [.int .i64 0, .int .i64 0] [(0, 1, .t 3), (1, 1, .c (.int .i64 1))], none⟩,
  ⟨none, none, .store 2 (.t 2) (.t 4), none⟩]
/-- lockstep/check.scalar -/
def c88 : AC :=
  .seq (.ops r88_0)
  (.seq (.ops r88_1)
   (.ret))
def a88 : AFn := { res := [.cell 2 2 true], body := c88, keepA := false, keepR := false, pure := true }
theorem k88 : chkFn Tryz.prog Tryz.f88 a88 = true := by kernel_rfl

/-! lockstep/kind.Gives -/
def r89_0 : List AOp :=
  [⟨(some 1), none, .box false 6 (.t 0), none⟩,
  ⟨(some 2), none, .mov (.c (.int .i64 0)), none⟩,
  ⟨(some 3), none, .mov (.c (.int .i64 0)), none⟩]
def r89_1 : List AOp :=
  [⟨(some 5), none, .load true 6 (.t 1), none⟩,
  ⟨(some 6), none, .call 115 [.t 5], none⟩,
  ⟨(some 7), none, .un .not (.t 6), none⟩,
  ⟨(some 8), none, .mov (.t 7), none⟩,
  ⟨(some 9), (some (8, false)), .off 0 (.t 1), none⟩,
  ⟨(some 10), (some (8, false)), .load false 1 (.t 9), none⟩,
  ⟨(some 11), (some (8, false)), .call 116 [.t 10], none⟩,
  ⟨(some 12), none, .pick (.t 8) (.c (.bool true)) (.t 11), none⟩,
  ⟨(some 4), none, .mov (.t 12), none⟩]
def r89_2 : List AOp :=
  [⟨(some 2), none, .mov (.c (.int .i64 0)), none⟩,
  ⟨(some 3), none, .mov (.c (.int .i64 0)), none⟩]
def r89_3 : List AOp :=
  [⟨(some 14), none, .off 0 (.t 1), none⟩,
  ⟨(some 15), none, .load false 1 (.t 14), none⟩,
  ⟨(some 16), none, .bin .geq (.t 15) (.c (.int .i64 10)), none⟩,
  ⟨(some 17), none, .mov (.t 16), none⟩,
  ⟨(some 18), (some (17, true)), .off 0 (.t 1), none⟩,
  ⟨(some 19), (some (17, true)), .load false 1 (.t 18), none⟩,
  ⟨(some 20), (some (17, true)), .bin .leq (.t 19) (.c (.int .i64 12)), none⟩,
  ⟨(some 21), none, .pick (.t 17) (.t 20) (.c (.bool false)), none⟩,
  ⟨(some 13), none, .mov (.t 21), none⟩]
def r89_4 : List AOp :=
  [⟨(some 2), none, .mov (.c (.int .i64 1)), none⟩,
  ⟨(some 3), none, .mov (.c (.int .i64 1)), none⟩]
def r89_5 : List AOp :=
  [⟨(some 23), none, .off 0 (.t 1), none⟩,
  ⟨(some 24), none, .load false 1 (.t 23), none⟩,
  ⟨(some 25), none, .bin .eql (.t 24) (.c (.int .i64 22)), none⟩,
  ⟨(some 22), none, .mov (.t 25), none⟩]
def r89_6 : List AOp :=
  [⟨(some 26), none, .off 1 (.t 1), none⟩,
  ⟨(some 27), none, .load false 1 (.t 26), none⟩,
  ⟨(some 2), none, .mov (.t 27), none⟩,
  ⟨(some 3), none, .mov (.c (.int .i64 1)), none⟩]
def r89_7 : List AOp :=
  [⟨(some 28), none, .off 1 (.t 1), (some (.t 1, .loc 1))⟩,
  ⟨(some 29), none, .load false 1 (.t 28), (some (.t 28, .loc 1))⟩,
  ⟨(some 30), none, .off 2 (.t 1), (some (.t 1, .loc 1))⟩,
  ⟨(some 31), none, .load false 1 (.t 30), (some (.t 30, .loc 1))⟩,
  ⟨(some 2), none, .mov (.t 29), none⟩,
  ⟨(some 3), none, .mov (.t 31), none⟩]
def p89_7 : List (List Nat) := [[], [0], [], [2], [1, 0, 1], [3, 4, 0, 1, 2, 3, 4]]
/-- lockstep/kind.Gives -/
def c89 : AC :=
  .seq (.ops r89_0)
  (.seq (.block 0 (.seq (.ops r89_1)
     (.cond (.t 4) (.seq (.ops r89_2)
       (.ret)) (.seq (.ops r89_3)
       (.cond (.t 13) (.seq (.ops r89_4)
         (.ret)) (.seq (.ops r89_5)
         (.cond (.t 22) (.seq (.ops r89_6)
           (.ret)) (.skip))))))))
   (.seq (.tops r89_7
       p89_7)
    (.ret)))
def a89 : AFn := { res := [.tmp 2, .tmp 3], body := c89, keepA := false, keepR := false, pure := true }
theorem k89 : chkFn Tryz.prog Tryz.f89 a89 = true := by kernel_rfl

/-! (*lockstep/check.checker).uses -/
def r90_0 : List AOp :=
  [⟨(some 4), none, .mov (.c (.int .i64 0)), none⟩]
def r90_1 : List AOp :=
  [⟨(some 5), none, .mov (.c (.int .i64 0)), none⟩]
def r90_2 : List AOp :=
  [⟨(some 17), none, .mov (.t 0), none⟩,
  ⟨(some 18), none, .nilchk (.t 17), none⟩,
  ⟨(some 19), none, .off 0 (.t 18), none⟩,
  ⟨(some 20), none, .off 2 (.t 19), none⟩,
  ⟨(some 21), none, .load false 1 (.t 20), none⟩,
  ⟨(some 22), none, .len (.t 21), none⟩,
  ⟨(some 23), none, .mov (.c (.int .i64 0)), none⟩]
def r90_3 : List AOp :=
  [⟨(some 24), none, .bin .lss (.t 23) (.t 22), none⟩]
def r90_4 : List AOp :=
  [⟨(some 25), none, .mov (.t 23), none⟩,
  ⟨(some 26), none, .idxS 5 (.t 21) (.t 23), none⟩,
  ⟨(some 27), none, .load true 5 (.t 26), none⟩,
  ⟨(some 7), none, .alloc false [.lst .nil [], .lst .nil [], .int .i64 0, .int .i64 0, .lst .nil []], none⟩,
  ⟨(some 6), none, .mov (.t 25), none⟩,
  ⟨none, none, .store 5 (.t 7) (.t 27), none⟩]
def r90_5 : List AOp :=
  [⟨(some 28), none, .off 0 (.t 7), none⟩,
  ⟨(some 29), none, .load false 1 (.t 28), none⟩,
  ⟨(some 30), none, .len (.t 29), none⟩,
  ⟨(some 31), none, .mov (.c (.int .i64 0)), none⟩]
def r90_6 : List AOp :=
  [⟨(some 32), none, .bin .lss (.t 31) (.t 30), none⟩]
def r90_7 : List AOp :=
  [⟨(some 33), none, .idxS 4 (.t 29) (.t 31), none⟩,
  ⟨(some 34), none, .load true 4 (.t 33), none⟩,
  ⟨(some 9), none, .alloc false [.int .i64 0, .int .i64 0, .lst .nil [], .lst .nil []], none⟩,
  ⟨none, none, .store 4 (.t 9) (.t 34), none⟩]
def r90_8 : List AOp :=
  [⟨(some 35), none, .off 3 (.t 9), none⟩,
  ⟨(some 36), none, .load false 1 (.t 35), none⟩,
  ⟨(some 37), none, .len (.t 36), none⟩,
  ⟨(some 38), none, .mov (.c (.int .i64 0)), none⟩]
def r90_9 : List AOp :=
  [⟨(some 39), none, .bin .lss (.t 38) (.t 37), none⟩]
def r90_10 : List AOp :=
  [⟨(some 40), none, .mov (.t 38), none⟩,
  ⟨(some 41), none, .idxS 1 (.t 36) (.t 38), none⟩,
  ⟨(some 42), none, .load false 1 (.t 41), none⟩,
  ⟨(some 10), none, .mov (.t 40), none⟩,
  ⟨(some 11), none, .mov (.t 42), none⟩]
def r90_11 : List AOp :=
  [⟨(some 43), none, .mov (.t 1), none⟩,
  ⟨(some 44), none, .mov (.t 11), none⟩,
  ⟨(some 45), none, .off 0 (.t 9), (some (.t 9, .loc 9))⟩,
  ⟨(some 46), none, .load false 1 (.t 45), (some (.t 45, .loc 9))⟩,
  ⟨(some 47), none, .call 88 [.t 46], none⟩,
  ⟨(some 48), none, .off 2 (.t 9), (some (.t 9, .loc 9))⟩,
  ⟨(some 49), none, .load false 1 (.t 48), (some (.t 48, .loc 9))⟩,
  ⟨(some 50), none, .mov (.t 10), none⟩,
  ⟨(some 51), none, .idxS 1 (.t 49) (.t 50), (some (.t 49, .lst))⟩,
  ⟨(some 52), none, .load false 1 (.t 51), (some (.t 51, .imm))⟩,
  ⟨(some 53), none, .calld (.t 43) [.t 44, .t 47, .t 52, .c (.int .i64 1048576)], none⟩,
  ⟨(some 5), none, .mov (.t 53), none⟩]
def p90_11 : List (List Nat) := [[], [], [], [2], [3], [], [5], [], [6, 7], [8], [0, 1, 4, 9, 4], [10, 10, 0, 1, 2, 3, 4, 5, 6, 7, 8, 9, 10]]
def r90_12 : List AOp :=
  [⟨(some 54), none, .mov (.t 5), none⟩,
  ⟨(some 55), none, .bin .neq (.t 54) (.c (.int .i64 0)), none⟩]
def r90_13 : List AOp :=
  [⟨(some 56), none, .bin .add (.t 38) (.c (.int .i64 1)), none⟩,
  ⟨(some 38), none, .mov (.t 56), none⟩]
def l90_2 : AC :=
  .seq (.ops r90_9)
  (.seq (.cond (.t 39) (.skip) (.exit 4))
   (.seq (.block 5 (.seq (.ops r90_10)
      (.seq (.tops r90_11
          p90_11)
       (.seq (.ops r90_12)
        (.cond (.t 55) (.goto 0) (.skip))))))
    (.ops r90_13)))
def r90_14 : List AOp :=
  [⟨(some 57), none, .bin .add (.t 31) (.c (.int .i64 1)), none⟩,
  ⟨(some 31), none, .mov (.t 57), none⟩]
def l90_1 : AC :=
  .seq (.ops r90_6)
  (.seq (.cond (.t 32) (.skip) (.exit 2))
   (.seq (.block 3 (.seq (.ops r90_7)
      (.seq (.ops r90_8)
       (.block 4 (.loop l90_2)))))
    (.ops r90_14)))
def r90_15 : List AOp :=
  [⟨(some 58), none, .off 1 (.t 7), none⟩,
  ⟨(some 59), none, .load false 1 (.t 58), none⟩,
  ⟨(some 60), none, .len (.t 59), none⟩,
  ⟨(some 61), none, .mov (.c (.int .i64 0)), none⟩]
def r90_16 : List AOp :=
  [⟨(some 62), none, .bin .lss (.t 61) (.t 60), none⟩]
def r90_17 : List AOp :=
  [⟨(some 63), none, .mov (.t 61), none⟩,
  ⟨(some 64), none, .idxS 6 (.t 59) (.t 61), none⟩,
  ⟨(some 65), none, .load true 6 (.t 64), none⟩,
  ⟨(some 13), none, .alloc false [.int .i64 0, .int .i64 0, .int .i64 0, .int .i64 0, .lst .nil [], .int .u64 0], none⟩,
  ⟨(some 12), none, .mov (.t 63), none⟩,
  ⟨none, none, .store 6 (.t 13) (.t 65), none⟩]
def r90_18 : List AOp :=
  [⟨(some 66), none, .load true 6 (.t 13), none⟩,
  ⟨(some 67), none, .call 117 [.t 66], none⟩,
  ⟨(some 68), none, .len (.t 67), none⟩,
  ⟨(some 69), none, .mov (.c (.int .i64 0)), none⟩]
def r90_19 : List AOp :=
  [⟨(some 70), none, .bin .lss (.t 69) (.t 68), none⟩]
def r90_20 : List AOp :=
  [⟨(some 71), none, .mov (.t 69), none⟩,
  ⟨(some 72), none, .idxS 2 (.t 67) (.t 69), none⟩,
  ⟨(some 73), none, .load true 2 (.t 72), none⟩,
  ⟨(some 15), none, .alloc false [.int .i64 0, .int .i64 0], none⟩,
  ⟨(some 14), none, .mov (.t 71), none⟩,
  ⟨none, none, .store 2 (.t 15) (.t 73), none⟩]
def r90_21 : List AOp :=
  [⟨(some 74), none, .mov (.t 1), none⟩,
  ⟨(some 75), none, .off 4 (.t 13), (some (.t 13, .loc 13))⟩,
  ⟨(some 76), none, .load false 1 (.t 75), (some (.t 75, .loc 13))⟩,
  ⟨(some 77), none, .mov (.t 14), none⟩,
  ⟨(some 78), none, .idxS 1 (.t 76) (.t 77), (some (.t 76, .lst))⟩,
  ⟨(some 79), none, .load false 1 (.t 78), (some (.t 78, .imm))⟩,
  ⟨(some 80), none, .load true 2 (.t 15), (some (.t 15, .loc 15))⟩,
  ⟨(some 81), none, .mov (.t 6), none⟩,
  ⟨(some 82), none, .mov (.t 12), none⟩,
  ⟨(some 83), none, .calld (.t 74) [.t 79, .t 80, .t 81, .t 82], none⟩,
  ⟨(some 5), none, .mov (.t 83), none⟩]
def p90_21 : List (List Nat) := [[], [], [1], [], [2, 3], [4], [], [], [], [0, 5, 6, 7, 8], [9, 9, 0, 1, 2, 3, 4, 5, 6, 7, 8, 9]]
def r90_22 : List AOp :=
  [⟨(some 84), none, .mov (.t 5), none⟩,
  ⟨(some 85), none, .bin .neq (.t 84) (.c (.int .i64 0)), none⟩]
def r90_23 : List AOp :=
  [⟨(some 86), none, .bin .add (.t 69) (.c (.int .i64 1)), none⟩,
  ⟨(some 69), none, .mov (.t 86), none⟩]
def l90_4 : AC :=
  .seq (.ops r90_19)
  (.seq (.cond (.t 70) (.skip) (.exit 8))
   (.seq (.block 9 (.seq (.ops r90_20)
      (.seq (.tops r90_21
          p90_21)
       (.seq (.ops r90_22)
        (.cond (.t 85) (.goto 0) (.skip))))))
    (.ops r90_23)))
def r90_24 : List AOp :=
  [⟨(some 87), none, .bin .add (.t 61) (.c (.int .i64 1)), none⟩,
  ⟨(some 61), none, .mov (.t 87), none⟩]
def l90_3 : AC :=
  .seq (.ops r90_16)
  (.seq (.cond (.t 62) (.skip) (.exit 6))
   (.seq (.block 7 (.seq (.ops r90_17)
      (.seq (.ops r90_18)
       (.block 8 (.loop l90_4)))))
    (.ops r90_24)))
def r90_25 : List AOp :=
  [⟨(some 88), none, .mkmap .i64, none⟩,
  ⟨(some 89), none, .mov (.t 0), none⟩,
  ⟨(some 90), none, .nilchk (.t 89), none⟩,
  ⟨(some 91), none, .off 0 (.t 90), none⟩,
  ⟨(some 92), none, .off 1 (.t 91), none⟩,
  ⟨(some 93), none, .load false 1 (.t 92), none⟩,
  ⟨none, none, .mapset .i64 (.t 88) (.c (.int .i64 0)) (.t 93), none⟩,
  ⟨none, none, .mapset .i64 (.t 88) (.c (.int .i64 2)) (.c (.int .i64 1)), none⟩,
  ⟨(some 94), none, .mov (.t 88), none⟩,
  ⟨(some 95), none, .off 2 (.t 7), (some (.t 7, .loc 7))⟩,
  ⟨(some 96), none, .off 0 (.t 95), (some (.t 95, .loc 7))⟩,
  ⟨(some 97), none, .load false 1 (.t 96), (some (.t 96, .loc 7))⟩,
  ⟨(some 98), none, .lookup .i64 (.int .i64 0) false (.t 94) (.t 97), none⟩,
  ⟨(some 16), none, .mov (.t 98), none⟩]
def p90_25 : List (List Nat) := [[], [], [1], [2], [3], [4], [0, 5], [0], [0, 1, 2, 3, 4, 5, 6, 7], [], [9], [10], [8, 11], [12, 0, 1, 2, 3, 4, 5, 6, 7, 8, 9, 10, 11, 12]]
def r90_26 : List AOp :=
  [⟨(some 99), none, .mov (.t 16), none⟩,
  ⟨(some 100), none, .bin .eql (.t 99) (.c (.int .i64 0)), none⟩]
def r90_27 : List AOp :=
  [⟨(some 101), none, .mov (.t 1), none⟩,
  ⟨(some 102), none, .off 2 (.t 7), (some (.t 7, .loc 7))⟩,
  ⟨(some 103), none, .off 1 (.t 102), (some (.t 102, .loc 7))⟩,
  ⟨(some 104), none, .load false 1 (.t 103), (some (.t 103, .loc 7))⟩,
  ⟨(some 105), none, .mov (.t 16), none⟩,
  ⟨(some 106), none, .call 88 [.t 105], none⟩,
  ⟨(some 107), none, .mov (.t 6), none⟩,
  ⟨(some 108), none, .calld (.t 101) [.t 104, .t 106, .t 107, .c (.int .i64 1048576)], none⟩,
  ⟨(some 5), none, .mov (.t 108), none⟩]
def p90_27 : List (List Nat) := [[], [], [1], [2], [], [4], [], [0, 3, 5, 6, 5], [7, 7, 0, 1, 2, 3, 4, 5, 6, 7]]
def r90_28 : List AOp :=
  [⟨(some 109), none, .mov (.t 5), none⟩,
  ⟨(some 110), none, .bin .neq (.t 109) (.c (.int .i64 0)), none⟩]
def r90_29 : List AOp :=
  [⟨(some 111), none, .bin .add (.t 23) (.c (.int .i64 1)), none⟩,
  ⟨(some 23), none, .mov (.t 111), none⟩]
def l90_0 : AC :=
  .seq (.ops r90_3)
  (.seq (.cond (.t 24) (.skip) (.exit 0))
   (.seq (.block 1 (.seq (.ops r90_4)
      (.seq (.seq (.ops r90_5)
        (.block 2 (.loop l90_1)))
       (.seq (.seq (.ops r90_15)
         (.block 6 (.loop l90_3)))
        (.seq (.dops r90_25
            p90_25)
         (.seq (.seq (.ops r90_26)
           (.cond (.t 100) (.exit 1) (.skip)))
          (.seq (.tops r90_27
              p90_27)
           (.seq (.ops r90_28)
            (.cond (.t 110) (.goto 0) (.skip))))))))))
    (.ops r90_29)))
def r90_30 : List AOp :=
  [⟨(some 112), none, .mov (.t 5), none⟩,
  ⟨(some 4), none, .mov (.t 112), none⟩]
/-- (*lockstep/check.checker).uses -/
def c90 : AC :=
  .seq (.ops r90_0)
  (.scope (.seq (.ops r90_1)
    (.seq (.seq (.ops r90_2)
      (.block 0 (.loop l90_0)))
     (.seq (.label 0)
      (.seq (.ops r90_30)
       (.ret)))))
   (.seq (.ops r90_1)
    (.seq (.seq (.ops r90_2)
      (.block 0 (.loop l90_0)))
     (.seq (.label 0)
      (.seq (.ops r90_30)
       (.ret))))))
def a90 : AFn := { res := [.tmp 4], body := c90, keepA := false, keepR := false, pure := false }
theorem k90 : chkFn Tryz.prog Tryz.f90 a90 = true := by kernel_rfl

/-! (*lockstep/check.checker).defined$1 -/
def r91_0 : List AOp :=
  [⟨(some 6), none, .box false 2 (.t 1), none⟩,
  ⟨(some 9), none, .mov (.c (.int .i64 0)), none⟩]
def r91_1 : List AOp :=
  [⟨(some 13), none, .load false 1 (.t 4), none⟩,
  ⟨(some 14), none, .nilchk (.t 13), none⟩,
  ⟨(some 15), none, .off 7 (.t 14), none⟩,
  ⟨(some 16), none, .load false 1 (.t 15), none⟩,
  ⟨(some 17), none, .mov (.t 0), none⟩,
  ⟨(some 18), none, .lookup .i64 (.agg [.int .i64 0, .int .i64 0, .int .i64 0, .int .i64 0]) true (.t 16) (.t 17), none⟩,
  ⟨(some 12), none, .mov (.t 18), none⟩,
  ⟨(some 19), none, .ext (.t 12) 0, none⟩,
  ⟨(some 20), none, .ext (.t 12) 1, none⟩,
  ⟨(some 10), none, .alloc false [.int .i64 0, .int .i64 0, .int .i64 0, .int .i64 0], none⟩,
  ⟨none, none, .store 4 (.t 10) (.t 19), none⟩,
  ⟨(some 11), none, .mov (.t 20), none⟩]
def r91_2 : List AOp :=
  [⟨(some 21), none, .mov (.t 11), none⟩,
  ⟨(some 22), none, .un .not (.t 21), none⟩]
def r91_3 : List AOp :=
  [⟨(some 9), none, .mov (.c (.int .i64 7)), none⟩]
def r91_4 : List AOp :=
  [⟨(some 9), none, .mov (.c (.int .i64 0)), none⟩]
/-- (*lockstep/check.checker).defined$1 -/
def c91 : AC :=
  .seq (.ops r91_0)
  (.seq (.seq (.ops r91_1)
    (.seq (.ops r91_2)
     (.cond (.t 22) (.seq (.ops r91_3)
       (.ret)) (.skip))))
   (.seq (.ops r91_4)
    (.ret)))
def a91 : AFn := { res := [.tmp 9], body := c91, keepA := false, keepR := false, pure := true }
theorem k91 : chkFn Tryz.prog Tryz.f91 a91 = true := by kernel_rfl

/-! (*lockstep/check.checker).shapes$1 -/
def r92_0 : List AOp :=
  [⟨(some 6), none, .box false 2 (.t 1), none⟩,
  ⟨(some 9), none, .mov (.c (.int .i64 0)), none⟩]
def r92_1 : List AOp :=
  [⟨(some 10), none, .load false 1 (.t 4), none⟩,
  ⟨(some 11), none, .nilchk (.t 10), none⟩,
  ⟨(some 12), none, .off 7 (.t 11), none⟩,
  ⟨(some 13), none, .load false 1 (.t 12), none⟩,
  ⟨(some 14), none, .mov (.t 0), none⟩,
  ⟨(some 15), none, .lookup .i64 (.agg [.int .i64 0, .int .i64 0, .int .i64 0, .int .i64 0]) false (.t 13) (.t 14), none⟩,
  ⟨(some 16), none, .fieldV true 2 2 (.t 15), none⟩,
  ⟨(some 17), none, .load true 2 (.t 6), (some (.t 6, .loc 6))⟩,
  ⟨(some 18), none, .eq true (.agg 2) (.t 16) (.t 17), none⟩]
def p92_1 : List (List Nat) := [[], [0], [1], [2], [], [3, 4], [5], [], [6, 7]]
def r92_2 : List AOp :=
  [⟨(some 9), none, .mov (.c (.int .i64 6)), none⟩]
def r92_3 : List AOp :=
  [⟨(some 9), none, .mov (.c (.int .i64 0)), none⟩]
/-- (*lockstep/check.checker).shapes$1 -/
def c92 : AC :=
  .seq (.ops r92_0)
  (.seq (.seq (.tops r92_1
       p92_1)
    (.cond (.t 18) (.seq (.ops r92_2)
      (.ret)) (.skip)))
   (.seq (.ops r92_3)
    (.ret)))
def a92 : AFn := { res := [.tmp 9], body := c92, keepA := false, keepR := false, pure := true }
theorem k92 : chkFn Tryz.prog Tryz.f92 a92 = true := by kernel_rfl

/-! (*lockstep/check.checker).places$1 -/
def r93_0 : List AOp :=
  [⟨(some 6), none, .box false 2 (.t 1), none⟩,
  ⟨(some 9), none, .mov (.c (.int .i64 0)), none⟩]
def r93_1 : List AOp :=
  [⟨(some 11), none, .load false 1 (.t 4), none⟩,
  ⟨(some 12), none, .nilchk (.t 11), none⟩,
  ⟨(some 13), none, .off 7 (.t 12), none⟩,
  ⟨(some 14), none, .load false 1 (.t 13), none⟩,
  ⟨(some 15), none, .mov (.t 0), none⟩,
  ⟨(some 16), none, .lookup .i64 (.agg [.int .i64 0, .int .i64 0, .int .i64 0, .int .i64 0]) false (.t 14) (.t 15), none⟩,
  ⟨(some 10), none, .alloc false [.int .i64 0, .int .i64 0, .int .i64 0, .int .i64 0], none⟩,
  ⟨none, none, .store 4 (.t 10) (.t 16), none⟩]
def r93_2 : List AOp :=
  [⟨(some 18), none, .off 0 (.t 10), none⟩,
  ⟨(some 19), none, .load false 1 (.t 18), none⟩,
  ⟨(some 20), none, .bin .lss (.t 19) (.c (.int .i64 0)), none⟩,
  ⟨(some 17), none, .mov (.t 20), none⟩]
def r93_3 : List AOp :=
  [⟨(some 9), none, .mov (.c (.int .i64 0)), none⟩]
def r93_4 : List AOp :=
  [⟨(some 22), none, .off 0 (.t 10), none⟩,
  ⟨(some 23), none, .load false 1 (.t 22), none⟩,
  ⟨(some 24), none, .mov (.t 2), none⟩,
  ⟨(some 25), none, .bin .eql (.t 23) (.t 24), none⟩,
  ⟨(some 26), none, .mov (.t 25), none⟩,
  ⟨(some 27), (some (26, true)), .off 1 (.t 10), none⟩,
  ⟨(some 28), (some (26, true)), .load false 1 (.t 27), none⟩,
  ⟨(some 29), (some (26, true)), .mov (.t 3), none⟩,
  ⟨(some 30), (some (26, true)), .bin .lss (.t 28) (.t 29), none⟩,
  ⟨(some 31), none, .pick (.t 26) (.t 30) (.c (.bool false)), none⟩,
  ⟨(some 21), none, .mov (.t 31), none⟩]
def r93_5 : List AOp :=
  [⟨(some 32), none, .off 0 (.t 10), (some (.t 10, .loc 10))⟩,
  ⟨(some 33), none, .load false 1 (.t 32), (some (.t 32, .loc 10))⟩,
  ⟨(some 34), none, .mov (.t 2), none⟩,
  ⟨(some 35), none, .bin .neq (.t 33) (.t 34), none⟩,
  ⟨(some 36), none, .mov (.t 35), none⟩,
  ⟨(some 37), (some (36, true)), .load false 1 (.t 4), none⟩,
  ⟨(some 38), (some (36, true)), .nilchk (.t 37), none⟩,
  ⟨(some 39), (some (36, true)), .off 6 (.t 38), none⟩,
  ⟨(some 40), (some (36, true)), .load false 1 (.t 39), none⟩,
  ⟨(some 41), (some (36, true)), .off 0 (.t 10), (some (.t 10, .loc 10))⟩,
  ⟨(some 42), (some (36, true)), .load false 1 (.t 41), (some (.t 41, .loc 10))⟩,
  ⟨(some 43), (some (36, true)), .mov (.t 2), none⟩,
  ⟨(some 44), (some (36, true)), .call 77 [.t 40, .t 42, .t 43], none⟩,
  ⟨(some 45), none, .pick (.t 36) (.t 44) (.c (.bool false)), none⟩,
  ⟨(some 21), none, .mov (.t 45), none⟩]
def p93_5 : List (List Nat) := [[], [0], [], [1, 2], [3], [4], [5, 4], [6, 4], [7, 4], [4], [9, 4], [4], [8, 10, 11, 4, 4], [4, 12], [13, 12]]
def r93_6 : List AOp :=
  [⟨(some 9), none, .mov (.c (.int .i64 0)), none⟩]
def r93_7 : List AOp :=
  [⟨(some 9), none, .mov (.c (.int .i64 7)), none⟩]
/-- (*lockstep/check.checker).places$1 -/
def c93 : AC :=
  .seq (.ops r93_0)
  (.seq (.ops r93_1)
   (.seq (.block 0 (.seq (.ops r93_2)
      (.cond (.t 17) (.seq (.ops r93_3)
        (.ret)) (.seq (.seq (.ops r93_4)
         (.cond (.t 21) (.skip) (.tops r93_5
             p93_5)))
        (.cond (.t 21) (.seq (.ops r93_6)
          (.ret)) (.skip))))))
    (.seq (.ops r93_7)
     (.ret))))
def a93 : AFn := { res := [.tmp 9], body := c93, keepA := false, keepR := false, pure := true }
theorem k93 : chkFn Tryz.prog Tryz.f93 a93 = true := by kernel_rfl

/-! lockstep/code.in$1 -/
def r98_0 : List AOp :=
  [⟨(some 2), none, .mov (.c (.bool false)), none⟩]
def r98_1 : List AOp :=
  [⟨(some 3), none, .mov (.t 0), none⟩,
  ⟨(some 4), none, .bin .lss (.t 3) (.c (.int .i64 0)), none⟩,
  ⟨(some 5), none, .mov (.t 4), none⟩,
  ⟨(some 6), (some (5, false)), .mov (.t 0), none⟩,
  ⟨(some 7), (some (5, false)), .bin .gtr (.t 6) (.c (.int .i64 2147483647)), none⟩,
  ⟨(some 8), none, .pick (.t 5) (.c (.bool true)) (.t 7), none⟩,
  ⟨(some 2), none, .mov (.t 8), none⟩]
/-- lockstep/code.in$1 -/
def c98 : AC :=
  .seq (.ops r98_0)
  (.seq (.ops r98_1)
   (.ret))
def a98 : AFn := { res := [.tmp 2], body := c98, keepA := false, keepR := false, pure := true }
theorem k98 : chkFn Tryz.prog Tryz.f98 a98 = true := by kernel_rfl

/-! slices.IndexFunc[[]lockstep/api.Block,lockstep/api.Block] -/
def r99_0 : List AOp :=
  [⟨(some 4), none, .mov (.c (.int .i64 0)), none⟩]
def r99_1 : List AOp :=
  [⟨(some 6), none, .mov (.t 0), none⟩,
  ⟨(some 7), none, .len (.t 6), none⟩,
  ⟨(some 8), none, .mov (.c (.int .i64 0)), none⟩]
def r99_2 : List AOp :=
  [⟨(some 9), none, .bin .lss (.t 8) (.t 7), none⟩]
def r99_3 : List AOp :=
  [⟨(some 10), none, .mov (.t 8), none⟩,
  ⟨(some 5), none, .mov (.t 10), none⟩]
def r99_4 : List AOp :=
  [⟨(some 11), none, .mov (.t 1), none⟩,
  ⟨(some 12), none, .mov (.t 0), none⟩,
  ⟨(some 13), none, .mov (.t 5), none⟩,
  ⟨(some 14), none, .idxS 5 (.t 12) (.t 13), none⟩,
  ⟨(some 15), none, .load true 5 (.t 14), none⟩,
  ⟨(some 16), none, .calld (.t 11) [.t 15], none⟩]
def r99_5 : List AOp :=
  [⟨(some 17), none, .mov (.t 5), none⟩,
  ⟨(some 4), none, .mov (.t 17), none⟩]
def r99_6 : List AOp :=
  [⟨(some 18), none, .bin .add (.t 8) (.c (.int .i64 1)), none⟩,
  ⟨(some 8), none, .mov (.t 18), none⟩]
def l99_0 : AC :=
  .seq (.ops r99_2)
  (.seq (.cond (.t 9) (.skip) (.exit 0))
   (.seq (.block 1 (.seq (.ops r99_3)
      (.seq (.ops r99_4)
       (.cond (.t 16) (.seq (.ops r99_5)
         (.ret)) (.skip)))))
    (.ops r99_6)))
def r99_7 : List AOp :=
  [⟨(some 4), none, .mov (.c (.int .i64 (-1))), none⟩]
/-- slices.IndexFunc[[]lockstep/api.Block,lockstep/api.Block] -/
def c99 : AC :=
  .seq (.ops r99_0)
  (.seq (.seq (.ops r99_1)
    (.block 0 (.loop l99_0)))
   (.seq (.ops r99_7)
    (.ret)))
def a99 : AFn := { res := [.tmp 4], body := c99, keepA := false, keepR := false, pure := true }
theorem k99 : chkFn Tryz.prog Tryz.f99 a99 = true := by kernel_rfl

/-! lockstep/code.lists -/
def r100_0 : List AOp :=
  [⟨(some 2), none, .mov (.c (.bool false)), none⟩]
def r100_1 : List AOp :=
  [⟨(some 5), none, .mov (.t 0), none⟩,
  ⟨(some 6), none, .len (.t 5), none⟩,
  ⟨(some 7), none, .mov (.c (.int .i64 0)), none⟩]
def r100_2 : List AOp :=
  [⟨(some 8), none, .bin .lss (.t 7) (.t 6), none⟩]
def r100_3 : List AOp :=
  [⟨(some 9), none, .idxS 1 (.t 5) (.t 7), none⟩,
  ⟨(some 10), none, .load false 1 (.t 9), none⟩,
  ⟨(some 4), none, .mov (.t 10), none⟩]
def r100_4 : List AOp :=
  [⟨(some 11), none, .mov (.t 4), none⟩,
  ⟨(some 12), none, .len (.t 11), none⟩,
  ⟨(some 13), none, .bin .gtr (.t 12) (.c (.int .i64 64)), none⟩,
  ⟨(some 14), none, .mov (.t 13), none⟩,
  ⟨(some 15), (some (14, false)), .mov (.t 4), none⟩,
  ⟨(some 16), (some (14, false)), .call 71 [.t 15], none⟩,
  ⟨(some 17), (some (14, false)), .un .not (.t 16), none⟩,
  ⟨(some 18), none, .pick (.t 14) (.c (.bool true)) (.t 17), none⟩]
def r100_5 : List AOp :=
  [⟨(some 2), none, .mov (.c (.bool false)), none⟩]
def r100_6 : List AOp :=
  [⟨(some 19), none, .bin .add (.t 7) (.c (.int .i64 1)), none⟩,
  ⟨(some 7), none, .mov (.t 19), none⟩]
def l100_0 : AC :=
  .seq (.ops r100_2)
  (.seq (.cond (.t 8) (.skip) (.exit 0))
   (.seq (.block 1 (.seq (.ops r100_3)
      (.seq (.ops r100_4)
       (.cond (.t 18) (.seq (.ops r100_5)
         (.ret)) (.skip)))))
    (.ops r100_6)))
def r100_7 : List AOp :=
  [⟨(some 2), none, .mov (.c (.bool true)), none⟩]
/-- lockstep/code.lists -/
def c100 : AC :=
  .seq (.ops r100_0)
  (.seq (.seq (.ops r100_1)
    (.block 0 (.loop l100_0)))
   (.seq (.ops r100_7)
    (.ret)))
def a100 : AFn := { res := [.tmp 2], body := c100, keepA := false, keepR := false, pure := true }
theorem k100 : chkFn Tryz.prog Tryz.f100 a100 = true := by kernel_rfl

/-! lockstep/graph.goes -/
def r101_0 : List AOp :=
  [⟨(some 2), none, .mov (.c (.int .i64 0)), none⟩]
def r101_1 : List AOp :=
  [⟨(some 3), none, .mov (.t 0), none⟩]
def r101_2 : List AOp :=
  [⟨(some 5), none, .bin .eql (.t 3) (.c (.int .i64 0)), none⟩,
  ⟨(some 4), none, .mov (.t 5), none⟩]
def r101_3 : List AOp :=
  [⟨(some 6), none, .bin .eql (.t 3) (.c (.int .i64 3)), none⟩,
  ⟨(some 4), none, .mov (.t 6), none⟩]
def r101_4 : List AOp :=
  [⟨(some 2), none, .mov (.c (.int .i64 0)), none⟩]
def r101_5 : List AOp :=
  [⟨(some 8), none, .bin .eql (.t 3) (.c (.int .i64 1)), none⟩,
  ⟨(some 7), none, .mov (.t 8), none⟩]
def r101_6 : List AOp :=
  [⟨(some 2), none, .mov (.c (.int .i64 1)), none⟩]
def r101_7 : List AOp :=
  [⟨(some 10), none, .bin .eql (.t 3) (.c (.int .i64 2)), none⟩,
  ⟨(some 9), none, .mov (.t 10), none⟩]
def r101_8 : List AOp :=
  [⟨(some 2), none, .mov (.c (.int .i64 2)), none⟩]
def r101_9 : List AOp :=
  [⟨(some 2), none, .mov (.c (.int .i64 (-1))), none⟩]
/-- lockstep/graph.goes -/
def c101 : AC :=
  .seq (.ops r101_0)
  (.seq (.seq (.ops r101_1)
    (.block 0 (.seq (.seq (.ops r101_2)
       (.cond (.t 4) (.skip) (.ops r101_3)))
      (.cond (.t 4) (.seq (.ops r101_4)
        (.ret)) (.seq (.ops r101_5)
        (.cond (.t 7) (.seq (.ops r101_6)
          (.ret)) (.seq (.ops r101_7)
          (.cond (.t 9) (.seq (.ops r101_8)
            (.ret)) (.skip)))))))))
   (.seq (.ops r101_9)
    (.ret)))
def a101 : AFn := { res := [.tmp 2], body := c101, keepA := false, keepR := false, pure := true }
theorem k101 : chkFn Tryz.prog Tryz.f101 a101 = true := by kernel_rfl

/-! lockstep/graph.Of$1 -/
def r102_0 : List AOp :=
  [⟨(some 3), none, .mov (.c (.bool false)), none⟩]
def r102_1 : List AOp :=
  [⟨(some 4), none, .mov (.t 0), none⟩,
  ⟨(some 5), none, .bin .lss (.t 4) (.c (.int .i64 1)), none⟩,
  ⟨(some 6), none, .mov (.t 5), none⟩,
  ⟨(some 7), (some (6, false)), .mov (.t 0), none⟩,
  ⟨(some 8), (some (6, false)), .load false 1 (.t 1), none⟩,
  ⟨(some 9), (some (6, false)), .bin .geq (.t 7) (.t 8), none⟩,
  ⟨(some 10), none, .pick (.t 6) (.c (.bool true)) (.t 9), none⟩,
  ⟨(some 3), none, .mov (.t 10), none⟩]
/-- lockstep/graph.Of$1 -/
def c102 : AC :=
  .seq (.ops r102_0)
  (.seq (.ops r102_1)
   (.ret))
def a102 : AFn := { res := [.tmp 3], body := c102, keepA := false, keepR := false, pure := true }
theorem k102 : chkFn Tryz.prog Tryz.f102 a102 = true := by kernel_rfl

/-! slices.Compact[[]int,int] -/
def r103_0 : List AOp :=
  [⟨(some 2), none, .mov (.c (.lst .nil [])), none⟩]
def r103_1 : List AOp :=
  [⟨(some 6), none, .mov (.t 0), none⟩,
  ⟨(some 7), none, .len (.t 6), none⟩,
  ⟨(some 8), none, .bin .lss (.t 7) (.c (.int .i64 2)), none⟩]
def r103_2 : List AOp :=
  [⟨(some 9), none, .mov (.t 0), none⟩,
  ⟨(some 2), none, .mov (.t 9), none⟩]
def r103_3 : List AOp :=
  [⟨(some 3), none, .mov (.c (.int .i64 1)), none⟩]
def r103_4 : List AOp :=
  [⟨(some 10), none, .mov (.t 3), none⟩,
  ⟨(some 11), none, .mov (.t 0), none⟩,
  ⟨(some 12), none, .len (.t 11), none⟩,
  ⟨(some 13), none, .bin .lss (.t 10) (.t 12), none⟩]
def r103_6 : List AOp :=
  [⟨(some 16), none, .mov (.t 0), none⟩,
  ⟨(some 17), none, .mov (.t 3), none⟩,
  ⟨(some 18), none, .idxS 1 (.t 16) (.t 17), (some (.t 16, .lst))⟩,
  ⟨(some 19), none, .load false 1 (.t 18), (some (.t 18, .imm))⟩,
  ⟨(some 20), none, .mov (.t 0), none⟩,
  ⟨(some 21), none, .mov (.t 3), none⟩,
  ⟨(some 22), none, .bin .sub (.t 21) (.c (.int .i64 1)), none⟩,
  ⟨(some 23), none, .idxS 1 (.t 20) (.t 22), (some (.t 20, .lst))⟩,
  ⟨(some 24), none, .load false 1 (.t 23), (some (.t 23, .imm))⟩,
  ⟨(some 25), none, .bin .eql (.t 19) (.t 24), none⟩]
def p103_6 : List (List Nat) := [[], [], [0, 1], [2], [], [], [5], [4, 6], [7], [3, 8]]
def r103_7 : List AOp :=
  [⟨(some 26), none, .mov (.t 0), none⟩,
  ⟨(some 27), none, .mov (.t 3), none⟩,
  ⟨(some 28), none, .slice 1 (.t 26) (some (.t 27)) none none, none⟩,
  ⟨(some 4), none, .mov (.t 28), none⟩]
def r103_8 : List AOp :=
  [⟨(some 5), none, .mov (.c (.int .i64 1)), none⟩]
def r103_9 : List AOp :=
  [⟨(some 29), none, .mov (.t 5), none⟩,
  ⟨(some 30), none, .mov (.t 4), none⟩,
  ⟨(some 31), none, .len (.t 30), none⟩,
  ⟨(some 32), none, .bin .lss (.t 29) (.t 31), none⟩]
def r103_11 : List AOp :=
  [⟨(some 35), none, .mov (.t 4), none⟩,
  ⟨(some 36), none, .mov (.t 5), none⟩,
  ⟨(some 37), none, .idxS 1 (.t 35) (.t 36), (some (.t 35, .lst))⟩,
  ⟨(some 38), none, .load false 1 (.t 37), (some (.t 37, .imm))⟩,
  ⟨(some 39), none, .mov (.t 4), none⟩,
  ⟨(some 40), none, .mov (.t 5), none⟩,
  ⟨(some 41), none, .bin .sub (.t 40) (.c (.int .i64 1)), none⟩,
  ⟨(some 42), none, .idxS 1 (.t 39) (.t 41), (some (.t 39, .lst))⟩,
  ⟨(some 43), none, .load false 1 (.t 42), (some (.t 42, .imm))⟩,
  ⟨(some 44), none, .bin .neq (.t 38) (.t 43), none⟩]
def p103_11 : List (List Nat) := [[], [], [0, 1], [2], [], [], [5], [4, 6], [7], [3, 8]]
def r103_12 : List AOp :=
  [⟨(some 45), none, .mov (.t 0), none⟩,
  ⟨(some 46), none, .mov (.t 3), none⟩,
  ⟨(some 47), none, .mov (.t 4), none⟩,
  ⟨(some 48), none, .mov (.t 5), none⟩,
  ⟨(some 49), none, .idxS 1 (.t 47) (.t 48), none⟩,
  ⟨(some 50), none, .load false 1 (.t 49), none⟩,
  ⟨(some 51), none, .idxS 1 (.t 45) (.t 46), none⟩,
  ⟨none, none, .store 1 (.t 51) (.t 50), none⟩]
def r103_13 : List AOp :=
  [⟨(some 52), none, .mov (.t 3), none⟩,
  ⟨(some 53), none, .bin .add (.t 52) (.c (.int .i64 1)), none⟩,
  ⟨(some 3), none, .mov (.t 53), none⟩]
def r103_10 : List AOp :=
  [⟨(some 33), none, .mov (.t 5), none⟩,
  ⟨(some 34), none, .bin .add (.t 33) (.c (.int .i64 1)), none⟩,
  ⟨(some 5), none, .mov (.t 34), none⟩]
def l103_1 : AC :=
  .seq (.seq (.ops r103_9)
   (.cond (.t 32) (.skip) (.exit 2)))
  (.seq (.block 3 (.seq (.tops r103_11
        p103_11)
     (.cond (.t 44) (.seq (.ops r103_12)
       (.ops r103_13)) (.skip))))
   (.ops r103_10))
def r103_14 : List AOp :=
  [⟨(some 54), none, .mov (.t 0), none⟩,
  ⟨(some 55), none, .mov (.t 3), none⟩,
  ⟨(some 56), none, .slice 1 (.t 54) (some (.t 55)) none none, none⟩,
  ⟨none, none, .clear 1 [.int .i64 0] (.t 56), none⟩]
def r103_15 : List AOp :=
  [⟨(some 57), none, .mov (.t 0), none⟩,
  ⟨(some 58), none, .mov (.t 3), none⟩,
  ⟨(some 59), none, .slice 1 (.t 57) none (some (.t 58)) none, none⟩,
  ⟨(some 2), none, .mov (.t 59), none⟩]
def r103_5 : List AOp :=
  [⟨(some 14), none, .mov (.t 3), none⟩,
  ⟨(some 15), none, .bin .add (.t 14) (.c (.int .i64 1)), none⟩,
  ⟨(some 3), none, .mov (.t 15), none⟩]
def l103_0 : AC :=
  .seq (.seq (.ops r103_4)
   (.cond (.t 13) (.skip) (.exit 0)))
  (.seq (.block 1 (.seq (.tops r103_6
        p103_6)
     (.cond (.t 25) (.seq (.ops r103_7)
       (.seq (.seq (.ops r103_8)
         (.block 2 (.loop l103_1)))
        (.seq (.ops r103_14)
         (.seq (.ops r103_15)
          (.ret))))) (.skip))))
   (.ops r103_5))
def r103_16 : List AOp :=
  [⟨(some 60), none, .mov (.t 0), none⟩,
  ⟨(some 2), none, .mov (.t 60), none⟩]
/-- slices.Compact[[]int,int] -/
def c103 : AC :=
  .seq (.ops r103_0)
  (.seq (.seq (.ops r103_1)
    (.cond (.t 8) (.seq (.ops r103_2)
      (.ret)) (.skip)))
   (.seq (.seq (.ops r103_3)
     (.block 0 (.loop l103_0)))
    (.seq (.ops r103_16)
     (.ret))))
def a103 : AFn := { res := [.tmp 2], body := c103, keepA := true, keepR := true, pure := false }
theorem k103 : chkFn Tryz.prog Tryz.f103 a103 = true := by kernel_rfl

/-! slices.Sorted[int] -/
def r104_0 : List AOp :=
  [⟨(some 2), none, .mov (.c (.lst .nil [])), none⟩]
def r104_1 : List AOp :=
  [⟨(some 4), none, .mov (.t 0), none⟩,
  ⟨(some 5), none, .call 119 [.t 4], none⟩,
  ⟨(some 3), none, .mov (.t 5), none⟩]
def r104_2 : List AOp :=
  [⟨(some 6), none, .mov (.t 3), none⟩,
  ⟨(some 7), none, .call 120 [.t 6], none⟩]
def r104_3 : List AOp :=
  [⟨(some 8), none, .mov (.t 3), none⟩,
  ⟨(some 2), none, .mov (.t 8), none⟩]
/-- slices.Sorted[int] -/
def c104 : AC :=
  .seq (.ops r104_0)
  (.seq (.ops r104_1)
   (.seq (.ops r104_2)
    (.seq (.ops r104_3)
     (.ret))))
def a104 : AFn := { res := [.tmp 2], body := c104, keepA := false, keepR := true, pure := false }
theorem k104 : chkFn Tryz.prog Tryz.f104 a104 = true := by kernel_rfl

/-! slices.Values[[]int,int] -/
def r105_0 : List AOp :=
  [⟨(some 1), none, .box true 1 (.t 0), none⟩,
  ⟨(some 2), none, .mov (.c (.nilFn)), none⟩]
def r105_1 : List AOp :=
  [⟨(some 3), none, .mkfn 121 [] [.t 1], none⟩,
  ⟨(some 2), none, .mov (.t 3), none⟩]
/-- slices.Values[[]int,int] -/
def c105 : AC :=
  .seq (.ops r105_0)
  (.seq (.ops r105_1)
   (.ret))
def a105 : AFn := { res := [.tmp 2], body := c105, keepA := false, keepR := false, pure := false }
theorem k105 : chkFn Tryz.prog Tryz.f105 a105 = true := by kernel_rfl

/-! lockstep/graph.Make -/
def r106_0 : List AOp :=
  [⟨(some 2), none, .alloc false [.lst .nil [], .lst .nil []], none⟩,
  ⟨(some 3), none, .mov (.c (.int .i64 0)), none⟩]
def r106_1 : List AOp :=
  [⟨(some 8), none, .mov (.t 0), none⟩,
  ⟨(some 9), none, .len (.t 8), none⟩,
  ⟨(some 4), none, .alloc true [.int .i64 0], none⟩,
  ⟨none, none, .store 1 (.t 4) (.t 9), none⟩]
def r106_2 : List AOp :=
  [⟨(some 10), none, .load false 1 (.t 4), none⟩,
  ⟨(some 11), none, .bin .lss (.t 10) (.c (.int .i64 1)), none⟩,
  ⟨(some 12), none, .mov (.t 11), none⟩,
  ⟨(some 13), (some (12, false)), .load false 1 (.t 4), none⟩,
  ⟨(some 14), (some (12, false)), .bin .gtr (.t 13) (.c (.int .i64 64)), none⟩,
  ⟨(some 15), none, .pick (.t 12) (.c (.bool true)) (.t 14), none⟩,
  ⟨(some 16), none, .mov (.t 15), none⟩,
  ⟨(some 17), (some (16, false)), .mov (.t 0), none⟩,
  ⟨(some 18), (some (16, false)), .mkfn 123 [] [.t 4], none⟩,
  ⟨(some 19), (some (16, false)), .call 122 [.t 17, .t 18], none⟩,
  ⟨(some 20), none, .pick (.t 16) (.c (.bool true)) (.t 19), none⟩]
def r106_3 : List AOp :=
  [⟨(some 21), none, .build [.lst .nil [], .lst .nil []] [], none⟩,
  ⟨none, none, .store 2 (.t 2) (.t 21), none⟩,
  ⟨(some 3), none, .mov (.c (.int .i64 5)), none⟩]
def r106_4 : List AOp :=
  [⟨(some 22), none, .load false 1 (.t 4), none⟩,
  ⟨(some 23), none, .mkslice false 1 24 [.lst .nil []] (.c (.int .i64 0)) (.t 22), none⟩,
  ⟨(some 5), none, .mov (.t 23), none⟩]
def r106_5 : List AOp :=
  [⟨(some 24), none, .mov (.t 0), none⟩,
  ⟨(some 25), none, .len (.t 24), none⟩,
  ⟨(some 26), none, .mov (.c (.int .i64 0)), none⟩]
def r106_6 : List AOp :=
  [⟨(some 27), none, .bin .lss (.t 26) (.t 25), none⟩]
def r106_7 : List AOp :=
  [⟨(some 28), none, .idxS 1 (.t 24) (.t 26), none⟩,
  ⟨(some 29), none, .load false 1 (.t 28), none⟩,
  ⟨(some 7), none, .mov (.t 29), none⟩]
def r106_8 : List AOp :=
  [⟨(some 30), none, .mov (.t 5), none⟩,
  ⟨(some 31), none, .mov (.t 7), none⟩,
  ⟨(some 32), none, .call 125 [.t 31], none⟩,
  ⟨(some 33), none, .bslice false 1 1 [.lst .nil []] [(0, .t 32)], none⟩,
  ⟨(some 34), none, .append false 1 24 (.t 30) (.t 33), none⟩,
  ⟨(some 5), none, .mov (.t 34), none⟩]
def r106_9 : List AOp :=
  [⟨(some 35), none, .bin .add (.t 26) (.c (.int .i64 1)), none⟩,
  ⟨(some 26), none, .mov (.t 35), none⟩]
def l106_0 : AC :=
  .seq (.ops r106_6)
  (.seq (.cond (.t 27) (.skip) (.exit 0))
   (.seq (.block 1 (.seq (.ops r106_7)
      (.ops r106_8)))
    (.ops r106_9)))
def r106_10 : List AOp :=
  [⟨(some 36), none, .mov (.t 5), none⟩,
  ⟨(some 36), none, .freeze (.t 36), none⟩,
  ⟨(some 37), none, .mov (.t 5), none⟩,
  ⟨(some 38), none, .call 126 [.t 37], none⟩,
  ⟨(some 39), none, .build [.lst .nil [], .lst .nil []] [(0, 1, .t 36), (1, 1, .t 38)], none⟩,
  ⟨none, none, .store 2 (.t 2) (.t 39), none⟩,
  ⟨(some 3), none, .mov (.c (.int .i64 0)), none⟩]
/-- lockstep/graph.Make -/
def c106 : AC :=
  .seq (.ops r106_0)
  (.seq (.ops r106_1)
   (.seq (.seq (.ops r106_2)
     (.cond (.t 20) (.seq (.ops r106_3)
       (.ret)) (.skip)))
    (.seq (.ops r106_4)
     (.seq (.seq (.ops r106_5)
       (.block 0 (.loop l106_0)))
      (.seq (.ops r106_10)
       (.ret))))))
def a106 : AFn := { res := [.cell 2 2 true, .tmp 3], body := c106, keepA := true, keepR := true, pure := true }
theorem k106 : chkFn Tryz.prog Tryz.f106 a106 = true := by kernel_rfl

/-! lockstep/graph.Order -/
def r107_0 : List AOp :=
  [⟨(some 2), none, .box false 2 (.t 0), none⟩,
  ⟨(some 4), none, .mov (.c (.lst .nil [])), none⟩]
def r107_1 : List AOp :=
  [⟨(some 11), none, .load true 2 (.t 2), none⟩,
  ⟨(some 12), none, .call 127 [.t 11], none⟩,
  ⟨(some 13), none, .un .not (.t 12), none⟩,
  ⟨(some 14), none, .mov (.t 13), none⟩,
  ⟨(some 15), (some (14, false)), .mov (.t 1), none⟩,
  ⟨(some 16), (some (14, false)), .bin .lss (.t 15) (.c (.int .i64 0)), none⟩,
  ⟨(some 17), none, .pick (.t 14) (.c (.bool true)) (.t 16), none⟩,
  ⟨(some 18), none, .mov (.t 17), none⟩,
  ⟨(some 19), (some (18, false)), .mov (.t 1), none⟩,
  ⟨(some 20), (some (18, false)), .off 0 (.t 2), none⟩,
  ⟨(some 21), (some (18, false)), .load false 1 (.t 20), none⟩,
  ⟨(some 22), (some (18, false)), .len (.t 21), none⟩,
  ⟨(some 23), (some (18, false)), .bin .geq (.t 19) (.t 22), none⟩,
  ⟨(some 24), none, .pick (.t 18) (.c (.bool true)) (.t 23), none⟩]
def r107_2 : List AOp :=
  [⟨(some 4), none, .mov (.c (.lst .nil [])), none⟩]
def r107_3 : List AOp :=
  [⟨(some 5), none, .alloc false (List.replicate 64 (.bool false)), none⟩]
def r107_4 : List AOp :=
  [⟨(some 6), none, .alloc false (List.replicate 64 (.int .i64 0)), none⟩]
def r107_5 : List AOp :=
  [⟨(some 7), none, .mov (.c (.lst .nil [])), none⟩]
def r107_6 : List AOp :=
  [⟨(some 25), none, .mov (.t 1), none⟩,
  ⟨(some 26), none, .bslice false 1 1 [.int .i64 0] [(0, .t 25)], none⟩,
  ⟨(some 8), none, .mov (.t 26), none⟩]
def r107_7 : List AOp :=
  [⟨(some 27), none, .mov (.t 1), none⟩,
  ⟨(some 28), none, .idxA 64 1 (.t 5) (.t 27), none⟩,
  ⟨none, none, .store 1 (.t 28) (.c (.bool true)), none⟩]
def r107_8 : List AOp :=
  [⟨(some 29), none, .mov (.t 8), none⟩,
  ⟨(some 30), none, .mov (.t 8), none⟩,
  ⟨(some 31), none, .len (.t 30), none⟩,
  ⟨(some 32), none, .bin .sub (.t 31) (.c (.int .i64 1)), none⟩,
  ⟨(some 33), none, .idxS 1 (.t 29) (.t 32), none⟩,
  ⟨(some 34), none, .load false 1 (.t 33), none⟩,
  ⟨(some 9), none, .mov (.t 34), none⟩]
def r107_9 : List AOp :=
  [⟨(some 35), none, .mov (.t 9), none⟩,
  ⟨(some 36), none, .idxA 64 1 (.t 6) (.t 35), (some (.t 6, .loc 6))⟩,
  ⟨(some 37), none, .load false 1 (.t 36), (some (.t 36, .loc 6))⟩,
  ⟨(some 38), none, .off 0 (.t 2), (some (.t 2, .loc 2))⟩,
  ⟨(some 39), none, .load false 1 (.t 38), (some (.t 38, .loc 2))⟩,
  ⟨(some 40), none, .mov (.t 9), none⟩,
  ⟨(some 41), none, .idxS 1 (.t 39) (.t 40), (some (.t 39, .lst))⟩,
  ⟨(some 42), none, .load false 1 (.t 41), (some (.t 41, .imm))⟩,
  ⟨(some 43), none, .len (.t 42), none⟩,
  ⟨(some 44), none, .bin .lss (.t 37) (.t 43), none⟩]
def p107_9 : List (List Nat) := [[], [0], [1], [], [3], [], [4, 5], [6], [7], [2, 8]]
def r107_10 : List AOp :=
  [⟨(some 45), none, .off 0 (.t 2), (some (.t 2, .loc 2))⟩,
  ⟨(some 46), none, .load false 1 (.t 45), (some (.t 45, .loc 2))⟩,
  ⟨(some 47), none, .mov (.t 9), none⟩,
  ⟨(some 48), none, .idxS 1 (.t 46) (.t 47), (some (.t 46, .lst))⟩,
  ⟨(some 49), none, .load false 1 (.t 48), (some (.t 48, .imm))⟩,
  ⟨(some 50), none, .mov (.t 9), none⟩,
  ⟨(some 51), none, .idxA 64 1 (.t 6) (.t 50), (some (.t 6, .loc 6))⟩,
  ⟨(some 52), none, .load false 1 (.t 51), (some (.t 51, .loc 6))⟩,
  ⟨(some 53), none, .idxS 1 (.t 49) (.t 52), (some (.t 49, .lst))⟩,
  ⟨(some 54), none, .load false 1 (.t 53), (some (.t 53, .imm))⟩,
  ⟨(some 10), none, .mov (.t 54), none⟩]
def p107_10 : List (List Nat) := [[], [0], [], [1, 2], [3], [], [5], [6], [4, 7], [8], [9, 0, 1, 2, 3, 4, 5, 6, 7, 8, 9]]
def r107_11 : List AOp :=
  [⟨(some 55), none, .mov (.t 9), none⟩,
  ⟨(some 56), none, .idxA 64 1 (.t 6) (.t 55), none⟩,
  ⟨(some 57), none, .load false 1 (.t 56), none⟩,
  ⟨(some 58), none, .bin .add (.t 57) (.c (.int .i64 1)), none⟩,
  ⟨(some 59), none, .idxA 64 1 (.t 6) (.t 55), none⟩,
  ⟨none, none, .store 1 (.t 59) (.t 58), none⟩]
def r107_12 : List AOp :=
  [⟨(some 60), none, .mov (.t 10), none⟩,
  ⟨(some 61), none, .idxA 64 1 (.t 5) (.t 60), none⟩,
  ⟨(some 62), none, .load false 1 (.t 61), none⟩,
  ⟨(some 63), none, .un .not (.t 62), none⟩]
def r107_13 : List AOp :=
  [⟨(some 64), none, .mov (.t 10), none⟩,
  ⟨(some 65), none, .idxA 64 1 (.t 5) (.t 64), none⟩,
  ⟨none, none, .store 1 (.t 65) (.c (.bool true)), none⟩]
def r107_14 : List AOp :=
  [⟨(some 66), none, .mov (.t 8), none⟩,
  ⟨(some 67), none, .mov (.t 10), none⟩,
  ⟨(some 68), none, .bslice false 1 1 [.int .i64 0] [(0, .t 67)], none⟩,
  ⟨(some 69), none, .append false 1 8 (.t 66) (.t 68), none⟩,
  ⟨(some 8), none, .mov (.t 69), none⟩]
def l107_0 : AC :=
  .seq (.seq (.tops r107_9
      p107_9)
   (.cond (.t 44) (.skip) (.exit 0)))
  (.block 1 (.seq (.tops r107_10
       p107_10)
    (.seq (.ops r107_11)
     (.seq (.ops r107_12)
      (.cond (.t 63) (.seq (.ops r107_13)
        (.seq (.ops r107_14)
         (.goto 0))) (.skip))))))
def r107_15 : List AOp :=
  [⟨(some 70), none, .mov (.t 7), none⟩,
  ⟨(some 71), none, .mov (.t 9), none⟩,
  ⟨(some 72), none, .bslice false 1 1 [.int .i64 0] [(0, .t 71)], none⟩,
  ⟨(some 73), none, .append false 1 8 (.t 70) (.t 72), none⟩,
  ⟨(some 7), none, .mov (.t 73), none⟩]
def r107_16 : List AOp :=
  [⟨(some 74), none, .mov (.t 8), none⟩,
  ⟨(some 75), none, .mov (.t 8), none⟩,
  ⟨(some 76), none, .len (.t 75), none⟩,
  ⟨(some 77), none, .bin .sub (.t 76) (.c (.int .i64 1)), none⟩,
  ⟨(some 78), none, .slice 1 (.t 74) none (some (.t 77)) none, none⟩,
  ⟨(some 8), none, .mov (.t 78), none⟩]
def r107_17 : List AOp :=
  [⟨(some 79), none, .mov (.t 8), none⟩,
  ⟨(some 80), none, .len (.t 79), none⟩,
  ⟨(some 81), none, .bin .gtr (.t 80) (.c (.int .i64 0)), none⟩]
def r107_18 : List AOp :=
  [⟨(some 82), none, .mov (.t 7), none⟩,
  ⟨(some 83), none, .call 128 [.t 82], none⟩]
def r107_19 : List AOp :=
  [⟨(some 84), none, .mov (.t 7), none⟩,
  ⟨(some 4), none, .mov (.t 84), none⟩]
/-- lockstep/graph.Order -/
def c107 : AC :=
  .seq (.ops r107_0)
  (.scope (.seq (.seq (.ops r107_1)
     (.cond (.t 24) (.seq (.ops r107_2)
       (.ret)) (.skip)))
    (.seq (.ops r107_3)
     (.seq (.ops r107_4)
      (.seq (.ops r107_5)
       (.seq (.ops r107_6)
        (.seq (.ops r107_7)
         (.seq (.label 0)
          (.seq (.ops r107_8)
           (.seq (.block 0 (.loop l107_0))
            (.seq (.ops r107_15)
             (.seq (.ops r107_16)
              (.seq (.seq (.ops r107_17)
                (.cond (.t 81) (.goto 0) (.skip)))
               (.seq (.ops r107_18)
                (.seq (.ops r107_19)
                 (.ret)))))))))))))))
   (.seq (.seq (.ops r107_1)
     (.cond (.t 24) (.seq (.ops r107_2)
       (.ret)) (.skip)))
    (.seq (.ops r107_3)
     (.seq (.ops r107_4)
      (.seq (.ops r107_5)
       (.seq (.ops r107_6)
        (.seq (.ops r107_7)
         (.seq (.label 0)
          (.seq (.ops r107_8)
           (.seq (.block 0 (.loop l107_0))
            (.seq (.ops r107_15)
             (.seq (.ops r107_16)
              (.seq (.seq (.ops r107_17)
                (.cond (.t 81) (.goto 0) (.skip)))
               (.seq (.ops r107_18)
                (.seq (.ops r107_19)
                 (.ret))))))))))))))))
def a107 : AFn := { res := [.tmp 4], body := c107, keepA := true, keepR := false, pure := true }
theorem k107 : chkFn Tryz.prog Tryz.f107 a107 = true := by kernel_rfl

/-! slices.Repeat[[]int,int] -/
def r108_0 : List AOp :=
  [⟨(some 4), none, .mov (.c (.lst .nil [])), none⟩]
def r108_1 : List AOp :=
  [⟨(some 9), none, .mov (.t 1), none⟩,
  ⟨(some 10), none, .bin .lss (.t 9) (.c (.int .i64 0)), none⟩]
def r108_2 : List AOp :=
  [⟨(some 11), none, .bad, none⟩,
  ⟨none, none, .bad, none⟩]
def r108_3 : List AOp :=
  [⟨(some 13), none, .mov (.t 0), none⟩,
  ⟨(some 14), none, .len (.t 13), none⟩,
  ⟨(some 15), none, .conv .u64 (.t 14), none⟩,
  ⟨(some 16), none, .mov (.t 1), none⟩,
  ⟨(some 17), none, .conv .u64 (.t 16), none⟩,
  ⟨(some 18), none, .call 129 [.t 15, .t 17], none⟩,
  ⟨(some 12), none, .mov (.t 18), none⟩,
  ⟨(some 19), none, .ext (.t 12) 0, none⟩,
  ⟨(some 20), none, .ext (.t 12) 1, none⟩,
  ⟨(some 5), none, .mov (.t 19), none⟩,
  ⟨(some 6), none, .mov (.t 20), none⟩]
def r108_4 : List AOp :=
  [⟨(some 21), none, .mov (.t 5), none⟩,
  ⟨(some 22), none, .bin .gtr (.t 21) (.c (.int .u64 0)), none⟩,
  ⟨(some 23), none, .mov (.t 22), none⟩,
  ⟨(some 24), (some (23, false)), .mov (.t 6), none⟩,
  ⟨(some 25), (some (23, false)), .bin .gtr (.t 24) (.c (.int .u64 9223372036854775807)), none⟩,
  ⟨(some 26), none, .pick (.t 23) (.c (.bool true)) (.t 25), none⟩]
def r108_5 : List AOp :=
  [⟨(some 27), none, .bad, none⟩,
  ⟨none, none, .bad, none⟩]
def r108_6 : List AOp :=
  [⟨(some 28), none, .mov (.t 6), none⟩,
  ⟨(some 29), none, .conv .i64 (.t 28), none⟩,
  ⟨(some 30), none, .mkslice true 1 8 [.int .i64 0] (.t 29) (.t 29), none⟩,
  ⟨(some 7), none, .mov (.t 30), none⟩]
def r108_7 : List AOp :=
  [⟨(some 31), none, .mov (.t 7), none⟩,
  ⟨(some 32), none, .mov (.t 0), none⟩,
  ⟨(some 33), none, .copy 1 (.t 31) (.t 32), none⟩,
  ⟨(some 8), none, .mov (.t 33), none⟩]
def r108_8 : List AOp :=
  [⟨(some 34), none, .mov (.t 8), none⟩,
  ⟨(some 35), none, .mov (.t 7), none⟩,
  ⟨(some 36), none, .len (.t 35), none⟩,
  ⟨(some 37), none, .bin .lss (.t 34) (.t 36), none⟩]
def r108_9 : List AOp :=
  [⟨(some 38), none, .mov (.t 8), none⟩,
  ⟨(some 39), none, .mov (.t 7), none⟩,
  ⟨(some 40), none, .mov (.t 8), none⟩,
  ⟨(some 41), none, .slice 1 (.t 39) (some (.t 40)) none none, (some (.t 39, .lst))⟩,
  ⟨(some 42), none, .mov (.t 7), none⟩,
  ⟨(some 43), none, .mov (.t 8), none⟩,
  ⟨(some 44), none, .slice 1 (.t 42) none (some (.t 43)) none, (some (.t 42, .lst))⟩,
  ⟨(some 45), none, .copy 1 (.t 41) (.t 44), none⟩,
  ⟨(some 46), none, .bin .add (.t 38) (.t 45), none⟩,
  ⟨(some 8), none, .mov (.t 46), none⟩]
def p108_9 : List (List Nat) := [[], [], [], [1, 2], [], [], [4, 5], [3, 6], [0, 7], [8, 7, 0, 1, 2, 3, 4, 5, 6, 7, 8]]
def l108_0 : AC :=
  .seq (.seq (.ops r108_8)
   (.cond (.t 37) (.skip) (.exit 0)))
  (.block 1 (.tops r108_9
      p108_9))
def r108_10 : List AOp :=
  [⟨(some 47), none, .mov (.t 7), none⟩,
  ⟨(some 4), none, .mov (.t 47), none⟩]
/-- slices.Repeat[[]int,int] -/
def c108 : AC :=
  .seq (.ops r108_0)
  (.seq (.seq (.ops r108_1)
    (.cond (.t 10) (.ops r108_2) (.skip)))
   (.seq (.ops r108_3)
    (.seq (.seq (.ops r108_4)
      (.cond (.t 26) (.ops r108_5) (.skip)))
     (.seq (.ops r108_6)
      (.seq (.ops r108_7)
       (.seq (.block 0 (.loop l108_0))
        (.seq (.ops r108_10)
         (.ret))))))))
def a108 : AFn := { res := [.tmp 4], body := c108, keepA := false, keepR := false, pure := false }
theorem k108 : chkFn Tryz.prog Tryz.f108 a108 = true := by kernel_rfl

/-! lockstep/dom.meet -/
def r109_0 : List AOp :=
  [⟨(some 8), none, .mov (.c (.int .i64 0)), none⟩]
def r109_1 : List AOp :=
  [⟨(some 9), none, .mov (.t 2), none⟩,
  ⟨(some 10), none, .mov (.t 3), none⟩,
  ⟨(some 11), none, .bin .neq (.t 9) (.t 10), none⟩]
def r109_2 : List AOp :=
  [⟨(some 12), none, .mov (.t 1), none⟩,
  ⟨(some 13), none, .mov (.t 2), none⟩,
  ⟨(some 14), none, .idxS 1 (.t 12) (.t 13), (some (.t 12, .lst))⟩,
  ⟨(some 15), none, .load false 1 (.t 14), (some (.t 14, .imm))⟩,
  ⟨(some 16), none, .mov (.t 1), none⟩,
  ⟨(some 17), none, .mov (.t 3), none⟩,
  ⟨(some 18), none, .idxS 1 (.t 16) (.t 17), (some (.t 16, .lst))⟩,
  ⟨(some 19), none, .load false 1 (.t 18), (some (.t 18, .imm))⟩,
  ⟨(some 20), none, .bin .gtr (.t 15) (.t 19), none⟩]
def p109_2 : List (List Nat) := [[], [], [0, 1], [2], [], [], [4, 5], [6], [3, 7]]
def r109_3 : List AOp :=
  [⟨(some 21), none, .mov (.t 0), none⟩,
  ⟨(some 22), none, .mov (.t 2), none⟩,
  ⟨(some 23), none, .idxS 1 (.t 21) (.t 22), none⟩,
  ⟨(some 24), none, .load false 1 (.t 23), none⟩,
  ⟨(some 2), none, .mov (.t 24), none⟩]
def l109_1 : AC :=
  .seq (.seq (.tops r109_2
      p109_2)
   (.cond (.t 20) (.skip) (.exit 2)))
  (.block 3 (.ops r109_3))
def r109_4 : List AOp :=
  [⟨(some 25), none, .mov (.t 1), none⟩,
  ⟨(some 26), none, .mov (.t 3), none⟩,
  ⟨(some 27), none, .idxS 1 (.t 25) (.t 26), (some (.t 25, .lst))⟩,
  ⟨(some 28), none, .load false 1 (.t 27), (some (.t 27, .imm))⟩,
  ⟨(some 29), none, .mov (.t 1), none⟩,
  ⟨(some 30), none, .mov (.t 2), none⟩,
  ⟨(some 31), none, .idxS 1 (.t 29) (.t 30), (some (.t 29, .lst))⟩,
  ⟨(some 32), none, .load false 1 (.t 31), (some (.t 31, .imm))⟩,
  ⟨(some 33), none, .bin .gtr (.t 28) (.t 32), none⟩]
def p109_4 : List (List Nat) := [[], [], [0, 1], [2], [], [], [4, 5], [6], [3, 7]]
def r109_5 : List AOp :=
  [⟨(some 34), none, .mov (.t 0), none⟩,
  ⟨(some 35), none, .mov (.t 3), none⟩,
  ⟨(some 36), none, .idxS 1 (.t 34) (.t 35), none⟩,
  ⟨(some 37), none, .load false 1 (.t 36), none⟩,
  ⟨(some 3), none, .mov (.t 37), none⟩]
def l109_2 : AC :=
  .seq (.seq (.tops r109_4
      p109_4)
   (.cond (.t 33) (.skip) (.exit 4)))
  (.block 5 (.ops r109_5))
def l109_0 : AC :=
  .seq (.seq (.ops r109_1)
   (.cond (.t 11) (.skip) (.exit 0)))
  (.block 1 (.seq (.block 2 (.loop l109_1))
    (.block 4 (.loop l109_2))))
def r109_6 : List AOp :=
  [⟨(some 38), none, .mov (.t 2), none⟩,
  ⟨(some 8), none, .mov (.t 38), none⟩]
/-- lockstep/dom.meet -/
def c109 : AC :=
  .seq (.ops r109_0)
  (.seq (.block 0 (.loop l109_0))
   (.seq (.ops r109_6)
    (.ret)))
def a109 : AFn := { res := [.tmp 8], body := c109, keepA := false, keepR := false, pure := true }
theorem k109 : chkFn Tryz.prog Tryz.f109 a109 = true := by kernel_rfl

/-! lockstep/dom.in -/
def r110_0 : List AOp :=
  [⟨(some 2), none, .box true 1 (.t 0), none⟩,
  ⟨(some 4), none, .mov (.c (.bool false)), none⟩]
def r110_1 : List AOp :=
  [⟨(some 5), none, .load false 1 (.t 2), none⟩,
  ⟨(some 6), none, .call 130 [.t 5], none⟩,
  ⟨(some 7), none, .mov (.t 6), none⟩,
  ⟨(some 8), (some (7, true)), .mov (.t 1), none⟩,
  ⟨(some 9), (some (7, true)), .mkfn 131 [] [.t 2], none⟩,
  ⟨(some 10), (some (7, true)), .call 80 [.t 8, .t 9], none⟩,
  ⟨(some 11), (some (7, true)), .un .not (.t 10), none⟩,
  ⟨(some 12), none, .pick (.t 7) (.t 11) (.c (.bool false)), none⟩,
  ⟨(some 4), none, .mov (.t 12), none⟩]
/-- lockstep/dom.in -/
def c110 : AC :=
  .seq (.ops r110_0)
  (.seq (.ops r110_1)
   (.ret))
def a110 : AFn := { res := [.tmp 4], body := c110, keepA := false, keepR := false, pure := true }
theorem k110 : chkFn Tryz.prog Tryz.f110 a110 = true := by kernel_rfl

/-! lockstep/dom.Meet -/
def r111_0 : List AOp :=
  [⟨(some 6), none, .mov (.c (.int .i64 0)), none⟩]
def r111_1 : List AOp :=
  [⟨(some 7), none, .mov (.t 0), none⟩,
  ⟨(some 8), none, .mov (.t 1), none⟩,
  ⟨(some 9), none, .mov (.t 2), none⟩,
  ⟨(some 10), none, .bslice false 2 1 [.int .i64 0] [(0, .t 8), (1, .t 9)], none⟩,
  ⟨(some 11), none, .call 110 [.t 7, .t 10], none⟩,
  ⟨(some 12), none, .un .not (.t 11), none⟩]
def r111_2 : List AOp :=
  [⟨(some 6), none, .mov (.c (.int .i64 (-2))), none⟩]
def r111_3 : List AOp :=
  [⟨(some 13), none, .mov (.t 1), none⟩,
  ⟨(some 14), none, .mov (.t 2), none⟩,
  ⟨(some 15), none, .bin .neq (.t 13) (.t 14), none⟩]
def r111_4 : List AOp :=
  [⟨(some 16), none, .mov (.t 0), none⟩,
  ⟨(some 17), none, .mov (.t 1), none⟩,
  ⟨(some 18), none, .call 132 [.t 16, .t 17], none⟩,
  ⟨(some 19), none, .mov (.t 0), none⟩,
  ⟨(some 20), none, .mov (.t 2), none⟩,
  ⟨(some 21), none, .call 132 [.t 19, .t 20], none⟩,
  ⟨(some 22), none, .bin .geq (.t 18) (.t 21), none⟩]
def r111_5 : List AOp :=
  [⟨(some 23), none, .mov (.t 0), none⟩,
  ⟨(some 24), none, .mov (.t 1), none⟩,
  ⟨(some 25), none, .idxS 1 (.t 23) (.t 24), none⟩,
  ⟨(some 26), none, .load false 1 (.t 25), none⟩,
  ⟨(some 1), none, .mov (.t 26), none⟩]
def r111_6 : List AOp :=
  [⟨(some 27), none, .mov (.t 0), none⟩,
  ⟨(some 28), none, .mov (.t 2), none⟩,
  ⟨(some 29), none, .idxS 1 (.t 27) (.t 28), none⟩,
  ⟨(some 30), none, .load false 1 (.t 29), none⟩,
  ⟨(some 2), none, .mov (.t 30), none⟩]
def l111_0 : AC :=
  .seq (.seq (.ops r111_3)
   (.cond (.t 15) (.skip) (.exit 0)))
  (.block 1 (.seq (.ops r111_4)
    (.cond (.t 22) (.ops r111_5) (.ops r111_6))))
def r111_7 : List AOp :=
  [⟨(some 31), none, .mov (.t 1), none⟩,
  ⟨(some 6), none, .mov (.t 31), none⟩]
/-- lockstep/dom.Meet -/
def c111 : AC :=
  .seq (.ops r111_0)
  (.seq (.seq (.ops r111_1)
    (.cond (.t 12) (.seq (.ops r111_2)
      (.ret)) (.skip)))
   (.seq (.block 0 (.loop l111_0))
    (.seq (.ops r111_7)
     (.ret))))
def a111 : AFn := { res := [.tmp 6], body := c111, keepA := false, keepR := false, pure := true }
theorem k111 : chkFn Tryz.prog Tryz.f111 a111 = true := by kernel_rfl

/-! slices.IndexFunc[[]int,int] -/
def r112_0 : List AOp :=
  [⟨(some 4), none, .mov (.c (.int .i64 0)), none⟩]
def r112_1 : List AOp :=
  [⟨(some 6), none, .mov (.t 0), none⟩,
  ⟨(some 7), none, .len (.t 6), none⟩,
  ⟨(some 8), none, .mov (.c (.int .i64 0)), none⟩]
def r112_2 : List AOp :=
  [⟨(some 9), none, .bin .lss (.t 8) (.t 7), none⟩]
def r112_3 : List AOp :=
  [⟨(some 10), none, .mov (.t 8), none⟩,
  ⟨(some 5), none, .mov (.t 10), none⟩]
def r112_4 : List AOp :=
  [⟨(some 11), none, .mov (.t 1), none⟩,
  ⟨(some 12), none, .mov (.t 0), none⟩,
  ⟨(some 13), none, .mov (.t 5), none⟩,
  ⟨(some 14), none, .idxS 1 (.t 12) (.t 13), none⟩,
  ⟨(some 15), none, .load false 1 (.t 14), none⟩,
  ⟨(some 16), none, .calld (.t 11) [.t 15], none⟩]
def r112_5 : List AOp :=
  [⟨(some 17), none, .mov (.t 5), none⟩,
  ⟨(some 4), none, .mov (.t 17), none⟩]
def r112_6 : List AOp :=
  [⟨(some 18), none, .bin .add (.t 8) (.c (.int .i64 1)), none⟩,
  ⟨(some 8), none, .mov (.t 18), none⟩]
def l112_0 : AC :=
  .seq (.ops r112_2)
  (.seq (.cond (.t 9) (.skip) (.exit 0))
   (.seq (.block 1 (.seq (.ops r112_3)
      (.seq (.ops r112_4)
       (.cond (.t 16) (.seq (.ops r112_5)
         (.ret)) (.skip)))))
    (.ops r112_6)))
def r112_7 : List AOp :=
  [⟨(some 4), none, .mov (.c (.int .i64 (-1))), none⟩]
/-- slices.IndexFunc[[]int,int] -/
def c112 : AC :=
  .seq (.ops r112_0)
  (.seq (.seq (.ops r112_1)
    (.block 0 (.loop l112_0)))
   (.seq (.ops r112_7)
    (.ret)))
def a112 : AFn := { res := [.tmp 4], body := c112, keepA := false, keepR := false, pure := true }
theorem k112 : chkFn Tryz.prog Tryz.f112 a112 = true := by kernel_rfl

/-! slices.IndexFunc[[]lockstep/api.Phi,lockstep/api.Phi] -/
def r113_0 : List AOp :=
  [⟨(some 4), none, .mov (.c (.int .i64 0)), none⟩]
def r113_1 : List AOp :=
  [⟨(some 6), none, .mov (.t 0), none⟩,
  ⟨(some 7), none, .len (.t 6), none⟩,
  ⟨(some 8), none, .mov (.c (.int .i64 0)), none⟩]
def r113_2 : List AOp :=
  [⟨(some 9), none, .bin .lss (.t 8) (.t 7), none⟩]
def r113_3 : List AOp :=
  [⟨(some 10), none, .mov (.t 8), none⟩,
  ⟨(some 5), none, .mov (.t 10), none⟩]
def r113_4 : List AOp :=
  [⟨(some 11), none, .mov (.t 1), none⟩,
  ⟨(some 12), none, .mov (.t 0), none⟩,
  ⟨(some 13), none, .mov (.t 5), none⟩,
  ⟨(some 14), none, .idxS 4 (.t 12) (.t 13), none⟩,
  ⟨(some 15), none, .load true 4 (.t 14), none⟩,
  ⟨(some 16), none, .calld (.t 11) [.t 15], none⟩]
def r113_5 : List AOp :=
  [⟨(some 17), none, .mov (.t 5), none⟩,
  ⟨(some 4), none, .mov (.t 17), none⟩]
def r113_6 : List AOp :=
  [⟨(some 18), none, .bin .add (.t 8) (.c (.int .i64 1)), none⟩,
  ⟨(some 8), none, .mov (.t 18), none⟩]
def l113_0 : AC :=
  .seq (.ops r113_2)
  (.seq (.cond (.t 9) (.skip) (.exit 0))
   (.seq (.block 1 (.seq (.ops r113_3)
      (.seq (.ops r113_4)
       (.cond (.t 16) (.seq (.ops r113_5)
         (.ret)) (.skip)))))
    (.ops r113_6)))
def r113_7 : List AOp :=
  [⟨(some 4), none, .mov (.c (.int .i64 (-1))), none⟩]
/-- slices.IndexFunc[[]lockstep/api.Phi,lockstep/api.Phi] -/
def c113 : AC :=
  .seq (.ops r113_0)
  (.seq (.seq (.ops r113_1)
    (.block 0 (.loop l113_0)))
   (.seq (.ops r113_7)
    (.ret)))
def a113 : AFn := { res := [.tmp 4], body := c113, keepA := false, keepR := false, pure := true }
theorem k113 : chkFn Tryz.prog Tryz.f113 a113 = true := by kernel_rfl

/-! slices.IndexFunc[[]lockstep/api.Op,lockstep/api.Op] -/
def r114_0 : List AOp :=
  [⟨(some 4), none, .mov (.c (.int .i64 0)), none⟩]
def r114_1 : List AOp :=
  [⟨(some 6), none, .mov (.t 0), none⟩,
  ⟨(some 7), none, .len (.t 6), none⟩,
  ⟨(some 8), none, .mov (.c (.int .i64 0)), none⟩]
def r114_2 : List AOp :=
  [⟨(some 9), none, .bin .lss (.t 8) (.t 7), none⟩]
def r114_3 : List AOp :=
  [⟨(some 10), none, .mov (.t 8), none⟩,
  ⟨(some 5), none, .mov (.t 10), none⟩]
def r114_4 : List AOp :=
  [⟨(some 11), none, .mov (.t 1), none⟩,
  ⟨(some 12), none, .mov (.t 0), none⟩,
  ⟨(some 13), none, .mov (.t 5), none⟩,
  ⟨(some 14), none, .idxS 6 (.t 12) (.t 13), none⟩,
  ⟨(some 15), none, .load true 6 (.t 14), none⟩,
  ⟨(some 16), none, .calld (.t 11) [.t 15], none⟩]
def r114_5 : List AOp :=
  [⟨(some 17), none, .mov (.t 5), none⟩,
  ⟨(some 4), none, .mov (.t 17), none⟩]
def r114_6 : List AOp :=
  [⟨(some 18), none, .bin .add (.t 8) (.c (.int .i64 1)), none⟩,
  ⟨(some 8), none, .mov (.t 18), none⟩]
def l114_0 : AC :=
  .seq (.ops r114_2)
  (.seq (.cond (.t 9) (.skip) (.exit 0))
   (.seq (.block 1 (.seq (.ops r114_3)
      (.seq (.ops r114_4)
       (.cond (.t 16) (.seq (.ops r114_5)
         (.ret)) (.skip)))))
    (.ops r114_6)))
def r114_7 : List AOp :=
  [⟨(some 4), none, .mov (.c (.int .i64 (-1))), none⟩]
/-- slices.IndexFunc[[]lockstep/api.Op,lockstep/api.Op] -/
def c114 : AC :=
  .seq (.ops r114_0)
  (.seq (.seq (.ops r114_1)
    (.block 0 (.loop l114_0)))
   (.seq (.ops r114_7)
    (.ret)))
def a114 : AFn := { res := [.tmp 4], body := c114, keepA := false, keepR := false, pure := true }
theorem k114 : chkFn Tryz.prog Tryz.f114 a114 = true := by kernel_rfl

/-! lockstep/kind.May -/
def r115_0 : List AOp :=
  [⟨(some 1), none, .box false 6 (.t 0), none⟩,
  ⟨(some 2), none, .mov (.c (.bool false)), none⟩]
def r115_1 : List AOp :=
  [⟨(some 6), none, .off 1 (.t 1), none⟩,
  ⟨(some 7), none, .load false 1 (.t 6), none⟩,
  ⟨(some 8), none, .off 2 (.t 1), none⟩,
  ⟨(some 9), none, .load false 1 (.t 8), none⟩,
  ⟨(some 10), none, .call 133 [.t 7, .t 9], none⟩,
  ⟨(some 11), none, .un .not (.t 10), none⟩]
def r115_2 : List AOp :=
  [⟨(some 2), none, .mov (.c (.bool false)), none⟩]
def r115_3 : List AOp :=
  [⟨(some 13), none, .load true 6 (.t 1), none⟩,
  ⟨(some 14), none, .call 134 [.t 13], none⟩,
  ⟨(some 12), none, .mov (.t 14), none⟩,
  ⟨(some 15), none, .ext (.t 12) 0, none⟩,
  ⟨(some 16), none, .ext (.t 12) 1, none⟩,
  ⟨(some 3), none, .mov (.t 15), none⟩,
  ⟨(some 4), none, .mov (.t 16), none⟩]
def r115_4 : List AOp :=
  [⟨(some 17), none, .off 3 (.t 1), none⟩,
  ⟨(some 18), none, .load false 1 (.t 17), none⟩,
  ⟨(some 19), none, .call 135 [.t 18], none⟩,
  ⟨(some 5), none, .mov (.t 19), none⟩]
def r115_5 : List AOp :=
  [⟨(some 20), none, .off 0 (.t 1), none⟩,
  ⟨(some 21), none, .load false 1 (.t 20), none⟩,
  ⟨(some 22), none, .call 116 [.t 21], none⟩]
def r115_6 : List AOp :=
  [⟨(some 23), none, .off 3 (.t 1), none⟩,
  ⟨(some 24), none, .load false 1 (.t 23), none⟩,
  ⟨(some 25), none, .bin .eql (.t 24) (.c (.int .i64 0)), none⟩,
  ⟨(some 5), none, .mov (.t 25), none⟩]
def r115_7 : List AOp :=
  [⟨(some 26), none, .mov (.t 4), none⟩,
  ⟨(some 27), none, .mov (.t 26), none⟩,
  ⟨(some 28), (some (27, true)), .mov (.t 5), none⟩,
  ⟨(some 29), none, .pick (.t 27) (.t 28) (.c (.bool false)), none⟩,
  ⟨(some 30), none, .mov (.t 29), none⟩,
  ⟨(some 31), (some (30, true)), .mov (.t 3), none⟩,
  ⟨(some 32), (some (30, true)), .len (.t 31), none⟩,
  ⟨(some 33), (some (30, true)), .off 4 (.t 1), none⟩,
  ⟨(some 34), (some (30, true)), .load false 1 (.t 33), none⟩,
  ⟨(some 35), (some (30, true)), .len (.t 34), none⟩,
  ⟨(some 36), (some (30, true)), .bin .eql (.t 32) (.t 35), none⟩,
  ⟨(some 37), none, .pick (.t 30) (.t 36) (.c (.bool false)), none⟩,
  ⟨(some 38), none, .mov (.t 37), none⟩,
  ⟨(some 39), (some (38, true)), .off 4 (.t 1), none⟩,
  ⟨(some 40), (some (38, true)), .load false 1 (.t 39), none⟩,
  ⟨(some 41), (some (38, true)), .call 80 [.t 40, .c (.fn 136 [] [])], none⟩,
  ⟨(some 42), (some (38, true)), .un .not (.t 41), none⟩,
  ⟨(some 43), none, .pick (.t 38) (.t 42) (.c (.bool false)), none⟩,
  ⟨(some 2), none, .mov (.t 43), none⟩]
/-- lockstep/kind.May -/
def c115 : AC :=
  .seq (.ops r115_0)
  (.seq (.seq (.ops r115_1)
    (.cond (.t 11) (.seq (.ops r115_2)
      (.ret)) (.skip)))
   (.seq (.ops r115_3)
    (.seq (.ops r115_4)
     (.seq (.seq (.ops r115_5)
       (.cond (.t 22) (.ops r115_6) (.skip)))
      (.seq (.ops r115_7)
       (.ret))))))
def a115 : AFn := { res := [.tmp 2], body := c115, keepA := false, keepR := false, pure := true }
theorem k115 : chkFn Tryz.prog Tryz.f115 a115 = true := by kernel_rfl

/-! lockstep/kind.stores -/
def r116_0 : List AOp :=
  [⟨(some 2), none, .mov (.c (.bool false)), none⟩]
def r116_1 : List AOp :=
  [⟨(some 3), none, .mov (.t 0), none⟩,
  ⟨(some 4), none, .bin .eql (.t 3) (.c (.int .i64 17)), none⟩,
  ⟨(some 5), none, .mov (.t 4), none⟩,
  ⟨(some 6), (some (5, false)), .mov (.t 0), none⟩,
  ⟨(some 7), (some (5, false)), .bin .eql (.t 6) (.c (.int .i64 19)), none⟩,
  ⟨(some 8), none, .pick (.t 5) (.c (.bool true)) (.t 7), none⟩,
  ⟨(some 2), none, .mov (.t 8), none⟩]
/-- lockstep/kind.stores -/
def c116 : AC :=
  .seq (.ops r116_0)
  (.seq (.ops r116_1)
   (.ret))
def a116 : AFn := { res := [.tmp 2], body := c116, keepA := false, keepR := false, pure := true }
theorem k116 : chkFn Tryz.prog Tryz.f116 a116 = true := by kernel_rfl

/-! lockstep/kind.Takes -/
def r117_0 : List AOp :=
  [⟨(some 1), none, .box false 6 (.t 0), none⟩,
  ⟨(some 2), none, .mov (.c (.lst .nil [])), none⟩]
def r117_1 : List AOp :=
  [⟨(some 5), none, .load true 6 (.t 1), none⟩,
  ⟨(some 6), none, .call 115 [.t 5], none⟩,
  ⟨(some 7), none, .un .not (.t 6), none⟩]
def r117_2 : List AOp :=
  [⟨(some 2), none, .mov (.c (.lst .nil [])), none⟩]
def r117_3 : List AOp :=
  [⟨(some 9), none, .load true 6 (.t 1), none⟩,
  ⟨(some 10), none, .call 134 [.t 9], none⟩,
  ⟨(some 8), none, .mov (.t 10), none⟩,
  ⟨(some 11), none, .ext (.t 8) 0, none⟩,
  ⟨(some 12), none, .ext (.t 8) 1, none⟩,
  ⟨(some 3), none, .mov (.t 11), none⟩,
  ⟨(some 4), none, .mov (.t 12), none⟩]
def r117_4 : List AOp :=
  [⟨(some 13), none, .mov (.t 3), none⟩,
  ⟨(some 2), none, .mov (.t 13), none⟩]
/-- lockstep/kind.Takes -/
def c117 : AC :=
  .seq (.ops r117_0)
  (.seq (.seq (.ops r117_1)
    (.cond (.t 7) (.seq (.ops r117_2)
      (.ret)) (.skip)))
   (.seq (.ops r117_3)
    (.seq (.ops r117_4)
     (.ret))))
def a117 : AFn := { res := [.tmp 2], body := c117, keepA := false, keepR := false, pure := true }
theorem k117 : chkFn Tryz.prog Tryz.f117 a117 = true := by kernel_rfl

/-! slices.Collect[int] -/
def r119_0 : List AOp :=
  [⟨(some 2), none, .mov (.c (.lst .nil [])), none⟩]
def r119_1 : List AOp :=
  [⟨(some 3), none, .mov (.t 0), none⟩,
  ⟨(some 4), none, .call 137 [.c (.lst .nil []), .t 3], none⟩,
  ⟨(some 2), none, .mov (.t 4), none⟩]
/-- slices.Collect[int] -/
def c119 : AC :=
  .seq (.ops r119_0)
  (.seq (.ops r119_1)
   (.ret))
def a119 : AFn := { res := [.tmp 2], body := c119, keepA := false, keepR := true, pure := false }
theorem k119 : chkFn Tryz.prog Tryz.f119 a119 = true := by kernel_rfl

/-! slices.Sort[[]int,int] -/
def r120_0 : List AOp :=
  [⟨(some 3), none, .mov (.t 0), none⟩,
  ⟨(some 4), none, .len (.t 3), none⟩,
  ⟨(some 2), none, .mov (.t 4), none⟩]
def r120_1 : List AOp :=
  [⟨(some 5), none, .mov (.t 0), none⟩,
  ⟨(some 6), none, .mov (.t 2), none⟩,
  ⟨(some 7), none, .mov (.t 2), none⟩,
  ⟨(some 8), none, .conv .u64 (.t 7), none⟩,
  ⟨(some 9), none, .call 139 [.t 8], none⟩,
  ⟨(some 10), none, .call 138 [.t 5, .c (.int .i64 0), .t 6, .t 9], none⟩]
/-- slices.Sort[[]int,int] -/
def c120 : AC :=
  .seq (.ops r120_0)
  (.ops r120_1)
def a120 : AFn := { res := [], body := c120, keepA := false, keepR := false, pure := false }
theorem k120 : chkFn Tryz.prog Tryz.f120 a120 = true := by kernel_rfl

/-! slices.Values[[]int,int]$1 -/
def r121_0 : List AOp :=
  [⟨(some 5), none, .load false 1 (.t 1), none⟩,
  ⟨(some 6), none, .len (.t 5), none⟩,
  ⟨(some 7), none, .mov (.c (.int .i64 0)), none⟩]
def r121_1 : List AOp :=
  [⟨(some 8), none, .bin .lss (.t 7) (.t 6), none⟩]
def r121_2 : List AOp :=
  [⟨(some 9), none, .idxS 1 (.t 5) (.t 7), none⟩,
  ⟨(some 10), none, .load false 1 (.t 9), none⟩,
  ⟨(some 4), none, .mov (.t 10), none⟩]
def r121_3 : List AOp :=
  [⟨(some 11), none, .mov (.t 0), none⟩,
  ⟨(some 12), none, .mov (.t 4), none⟩,
  ⟨(some 13), none, .calld (.t 11) [.t 12], none⟩,
  ⟨(some 14), none, .un .not (.t 13), none⟩]
def r121_4 : List AOp :=
  [⟨(some 15), none, .bin .add (.t 7) (.c (.int .i64 1)), none⟩,
  ⟨(some 7), none, .mov (.t 15), none⟩]
def l121_0 : AC :=
  .seq (.ops r121_1)
  (.seq (.cond (.t 8) (.skip) (.exit 0))
   (.seq (.block 1 (.seq (.ops r121_2)
      (.seq (.ops r121_3)
       (.cond (.t 14) (.ret) (.skip)))))
    (.ops r121_4)))
/-- slices.Values[[]int,int]$1 -/
def c121 : AC :=
  .seq (.ops r121_0)
  (.block 0 (.loop l121_0))
def a121 : AFn := { res := [], body := c121, keepA := false, keepR := false, pure := true }
theorem k121 : chkFn Tryz.prog Tryz.f121 a121 = true := by kernel_rfl

/-! slices.ContainsFunc[[][]int,[]int] -/
def r122_0 : List AOp :=
  [⟨(some 4), none, .mov (.c (.bool false)), none⟩]
def r122_1 : List AOp :=
  [⟨(some 5), none, .mov (.t 0), none⟩,
  ⟨(some 6), none, .mov (.t 1), none⟩,
  ⟨(some 7), none, .call 140 [.t 5, .t 6], none⟩,
  ⟨(some 8), none, .bin .geq (.t 7) (.c (.int .i64 0)), none⟩,
  ⟨(some 4), none, .mov (.t 8), none⟩]
/-- slices.ContainsFunc[[][]int,[]int] -/
def c122 : AC :=
  .seq (.ops r122_0)
  (.seq (.ops r122_1)
   (.ret))
def a122 : AFn := { res := [.tmp 4], body := c122, keepA := false, keepR := false, pure := true }
theorem k122 : chkFn Tryz.prog Tryz.f122 a122 = true := by kernel_rfl

/-! lockstep/graph.Make$1 -/
def r123_0 : List AOp :=
  [⟨(some 3), none, .mov (.c (.bool false)), none⟩]
def r123_1 : List AOp :=
  [⟨(some 4), none, .mov (.t 0), none⟩,
  ⟨(some 5), none, .load false 1 (.t 1), none⟩,
  ⟨(some 6), none, .call 124 [.t 4, .t 5], none⟩,
  ⟨(some 7), none, .un .not (.t 6), none⟩,
  ⟨(some 3), none, .mov (.t 7), none⟩]
/-- lockstep/graph.Make$1 -/
def c123 : AC :=
  .seq (.ops r123_0)
  (.seq (.ops r123_1)
   (.ret))
def a123 : AFn := { res := [.tmp 3], body := c123, keepA := false, keepR := false, pure := true }
theorem k123 : chkFn Tryz.prog Tryz.f123 a123 = true := by kernel_rfl

/-! lockstep/graph.rising -/
def r124_0 : List AOp :=
  [⟨(some 4), none, .mov (.c (.bool false)), none⟩]
def r124_1 : List AOp :=
  [⟨(some 5), none, .mov (.c (.int .i64 (-1))), none⟩]
def r124_2 : List AOp :=
  [⟨(some 8), none, .mov (.t 0), none⟩,
  ⟨(some 9), none, .len (.t 8), none⟩,
  ⟨(some 10), none, .mov (.c (.int .i64 0)), none⟩]
def r124_3 : List AOp :=
  [⟨(some 11), none, .bin .lss (.t 10) (.t 9), none⟩]
def r124_4 : List AOp :=
  [⟨(some 12), none, .idxS 1 (.t 8) (.t 10), none⟩,
  ⟨(some 13), none, .load false 1 (.t 12), none⟩,
  ⟨(some 7), none, .mov (.t 13), none⟩]
def r124_5 : List AOp :=
  [⟨(some 14), none, .mov (.t 7), none⟩,
  ⟨(some 15), none, .mov (.t 5), none⟩,
  ⟨(some 16), none, .bin .leq (.t 14) (.t 15), none⟩,
  ⟨(some 17), none, .mov (.t 16), none⟩,
  ⟨(some 18), (some (17, false)), .mov (.t 7), none⟩,
  ⟨(some 19), (some (17, false)), .mov (.t 1), none⟩,
  ⟨(some 20), (some (17, false)), .bin .geq (.t 18) (.t 19), none⟩,
  ⟨(some 21), none, .pick (.t 17) (.c (.bool true)) (.t 20), none⟩]
def r124_6 : List AOp :=
  [⟨(some 4), none, .mov (.c (.bool false)), none⟩]
def r124_7 : List AOp :=
  [⟨(some 22), none, .mov (.t 7), none⟩,
  ⟨(some 5), none, .mov (.t 22), none⟩]
def r124_8 : List AOp :=
  [⟨(some 23), none, .bin .add (.t 10) (.c (.int .i64 1)), none⟩,
  ⟨(some 10), none, .mov (.t 23), none⟩]
def l124_0 : AC :=
  .seq (.ops r124_3)
  (.seq (.cond (.t 11) (.skip) (.exit 0))
   (.seq (.block 1 (.seq (.ops r124_4)
      (.seq (.seq (.ops r124_5)
        (.cond (.t 21) (.seq (.ops r124_6)
          (.ret)) (.skip)))
       (.ops r124_7))))
    (.ops r124_8)))
def r124_9 : List AOp :=
  [⟨(some 4), none, .mov (.c (.bool true)), none⟩]
/-- lockstep/graph.rising -/
def c124 : AC :=
  .seq (.ops r124_0)
  (.seq (.ops r124_1)
   (.seq (.seq (.ops r124_2)
     (.block 0 (.loop l124_0)))
    (.seq (.ops r124_9)
     (.ret))))
def a124 : AFn := { res := [.tmp 4], body := c124, keepA := false, keepR := false, pure := true }
theorem k124 : chkFn Tryz.prog Tryz.f124 a124 = true := by kernel_rfl

/-! slices.Clone[[]int,int] -/
def r125_0 : List AOp :=
  [⟨(some 2), none, .mov (.c (.lst .nil [])), none⟩]
def r125_1 : List AOp :=
  [⟨(some 3), none, .mov (.t 0), none⟩,
  ⟨(some 4), none, .eq false .slice (.t 3) (.c (.lst .nil [])), none⟩]
def r125_2 : List AOp :=
  [⟨(some 2), none, .mov (.c (.lst .nil [])), none⟩]
def r125_3 : List AOp :=
  [⟨(some 5), none, .bslice false 0 1 [.int .i64 0] [], none⟩,
  ⟨(some 6), none, .mov (.t 0), none⟩,
  ⟨(some 7), none, .append false 1 8 (.t 5) (.t 6), none⟩,
  ⟨(some 7), none, .freeze (.t 7), none⟩,
  ⟨(some 2), none, .mov (.t 7), none⟩]
/-- slices.Clone[[]int,int] -/
def c125 : AC :=
  .seq (.ops r125_0)
  (.seq (.seq (.ops r125_1)
    (.cond (.t 4) (.seq (.ops r125_2)
      (.ret)) (.skip)))
   (.seq (.ops r125_3)
    (.ret)))
def a125 : AFn := { res := [.tmp 2], body := c125, keepA := true, keepR := true, pure := true }
theorem k125 : chkFn Tryz.prog Tryz.f125 a125 = true := by kernel_rfl

/-! lockstep/graph.preds -/
def r126_0 : List AOp :=
  [⟨(some 2), none, .mov (.c (.lst .nil [])), none⟩]
def r126_1 : List AOp :=
  [⟨(some 8), none, .mov (.t 0), none⟩,
  ⟨(some 9), none, .len (.t 8), none⟩,
  ⟨(some 10), none, .mkslice true 1 24 [.lst .nil []] (.t 9) (.t 9), none⟩,
  ⟨(some 3), none, .mov (.t 10), none⟩]
def r126_2 : List AOp :=
  [⟨(some 11), none, .mov (.t 0), none⟩,
  ⟨(some 12), none, .len (.t 11), none⟩,
  ⟨(some 13), none, .mov (.c (.int .i64 0)), none⟩]
def r126_3 : List AOp :=
  [⟨(some 14), none, .bin .lss (.t 13) (.t 12), none⟩]
def r126_4 : List AOp :=
  [⟨(some 15), none, .mov (.t 13), none⟩,
  ⟨(some 16), none, .idxS 1 (.t 11) (.t 13), none⟩,
  ⟨(some 17), none, .load false 1 (.t 16), none⟩,
  ⟨(some 4), none, .mov (.t 15), none⟩,
  ⟨(some 5), none, .mov (.t 17), none⟩]
def r126_5 : List AOp :=
  [⟨(some 18), none, .mov (.t 5), none⟩,
  ⟨(some 19), none, .len (.t 18), none⟩,
  ⟨(some 20), none, .mov (.c (.int .i64 0)), none⟩]
def r126_6 : List AOp :=
  [⟨(some 21), none, .bin .lss (.t 20) (.t 19), none⟩]
def r126_7 : List AOp :=
  [⟨(some 22), none, .idxS 1 (.t 18) (.t 20), none⟩,
  ⟨(some 23), none, .load false 1 (.t 22), none⟩,
  ⟨(some 7), none, .mov (.t 23), none⟩]
def r126_8 : List AOp :=
  [⟨(some 24), none, .mov (.t 3), none⟩,
  ⟨(some 25), none, .mov (.t 7), none⟩,
  ⟨(some 26), none, .mov (.t 3), none⟩,
  ⟨(some 27), none, .mov (.t 7), none⟩,
  ⟨(some 28), none, .idxS 1 (.t 26) (.t 27), none⟩,
  ⟨(some 29), none, .load false 1 (.t 28), none⟩,
  ⟨(some 30), none, .mov (.t 4), none⟩,
  ⟨(some 31), none, .bslice false 1 1 [.int .i64 0] [(0, .t 30)], none⟩,
  ⟨(some 32), none, .append false 1 8 (.t 29) (.t 31), none⟩,
  ⟨(some 33), none, .idxS 1 (.t 24) (.t 25), none⟩,
  ⟨none, none, .store 1 (.t 33) (.t 32), none⟩]
def r126_9 : List AOp :=
  [⟨(some 34), none, .bin .add (.t 20) (.c (.int .i64 1)), none⟩,
  ⟨(some 20), none, .mov (.t 34), none⟩]
def l126_1 : AC :=
  .seq (.ops r126_6)
  (.seq (.cond (.t 21) (.skip) (.exit 2))
   (.seq (.block 3 (.seq (.ops r126_7)
      (.ops r126_8)))
    (.ops r126_9)))
def r126_10 : List AOp :=
  [⟨(some 35), none, .bin .add (.t 13) (.c (.int .i64 1)), none⟩,
  ⟨(some 13), none, .mov (.t 35), none⟩]
def l126_0 : AC :=
  .seq (.ops r126_3)
  (.seq (.cond (.t 14) (.skip) (.exit 0))
   (.seq (.block 1 (.seq (.ops r126_4)
      (.seq (.ops r126_5)
       (.block 2 (.loop l126_1)))))
    (.ops r126_10)))
def r126_11 : List AOp :=
  [⟨(some 36), none, .mov (.t 3), none⟩,
  ⟨(some 36), none, .freeze (.t 36), none⟩,
  ⟨(some 2), none, .mov (.t 36), none⟩]
/-- lockstep/graph.preds -/
def c126 : AC :=
  .seq (.ops r126_0)
  (.seq (.ops r126_1)
   (.seq (.seq (.ops r126_2)
     (.block 0 (.loop l126_0)))
    (.seq (.ops r126_11)
     (.ret))))
def a126 : AFn := { res := [.tmp 2], body := c126, keepA := false, keepR := false, pure := true }
theorem k126 : chkFn Tryz.prog Tryz.f126 a126 = true := by kernel_rfl

/-! lockstep/graph.May -/
def r127_0 : List AOp :=
  [⟨(some 1), none, .box false 2 (.t 0), none⟩,
  ⟨(some 2), none, .mov (.c (.bool false)), none⟩]
def r127_1 : List AOp :=
  [⟨(some 6), none, .off 0 (.t 1), none⟩,
  ⟨(some 7), none, .load false 1 (.t 6), none⟩,
  ⟨(some 8), none, .call 106 [.t 7], none⟩,
  ⟨(some 5), none, .mov (.t 8), none⟩,
  ⟨(some 9), none, .ext (.t 5) 0, none⟩,
  ⟨(some 10), none, .ext (.t 5) 1, none⟩,
  ⟨(some 3), none, .alloc false [.lst .nil [], .lst .nil []], none⟩,
  ⟨none, none, .store 2 (.t 3) (.t 9), none⟩,
  ⟨(some 4), none, .mov (.t 10), none⟩]
def r127_2 : List AOp :=
  [⟨(some 11), none, .mov (.t 4), none⟩,
  ⟨(some 12), none, .bin .eql (.t 11) (.c (.int .i64 0)), none⟩,
  ⟨(some 13), none, .mov (.t 12), none⟩,
  ⟨(some 14), (some (13, true)), .off 1 (.t 3), none⟩,
  ⟨(some 15), (some (13, true)), .load false 1 (.t 14), none⟩,
  ⟨(some 16), (some (13, true)), .off 1 (.t 1), none⟩,
  ⟨(some 17), (some (13, true)), .load false 1 (.t 16), none⟩,
  ⟨(some 18), (some (13, true)), .call 141 [.t 15, .t 17, .c (.fn 78 [] [])], none⟩,
  ⟨(some 19), none, .pick (.t 13) (.t 18) (.c (.bool false)), none⟩,
  ⟨(some 2), none, .mov (.t 19), none⟩]
/-- lockstep/graph.May -/
def c127 : AC :=
  .seq (.ops r127_0)
  (.seq (.ops r127_1)
   (.seq (.ops r127_2)
    (.ret)))
def a127 : AFn := { res := [.tmp 2], body := c127, keepA := true, keepR := false, pure := true }
theorem k127 : chkFn Tryz.prog Tryz.f127 a127 = true := by kernel_rfl

/-! slices.Reverse[[]int,int] -/
def r128_0 : List AOp :=
  [⟨(some 4), none, .mov (.t 0), none⟩,
  ⟨(some 5), none, .len (.t 4), none⟩,
  ⟨(some 6), none, .bin .sub (.t 5) (.c (.int .i64 1)), none⟩,
  ⟨(some 2), none, .mov (.c (.int .i64 0)), none⟩,
  ⟨(some 3), none, .mov (.t 6), none⟩]
def r128_1 : List AOp :=
  [⟨(some 7), none, .mov (.t 2), none⟩,
  ⟨(some 8), none, .mov (.t 3), none⟩,
  ⟨(some 9), none, .bin .lss (.t 7) (.t 8), none⟩]
def r128_3 : List AOp :=
  [⟨(some 14), none, .mov (.t 0), none⟩,
  ⟨(some 15), none, .mov (.t 2), none⟩,
  ⟨(some 16), none, .mov (.t 0), none⟩,
  ⟨(some 17), none, .mov (.t 3), none⟩,
  ⟨(some 18), none, .mov (.t 0), none⟩,
  ⟨(some 19), none, .mov (.t 3), none⟩,
  ⟨(some 20), none, .idxS 1 (.t 18) (.t 19), (some (.t 18, .lst))⟩,
  ⟨(some 21), none, .load false 1 (.t 20), (some (.t 20, .imm))⟩,
  ⟨(some 22), none, .mov (.t 0), none⟩,
  ⟨(some 23), none, .mov (.t 2), none⟩,
  ⟨(some 24), none, .idxS 1 (.t 22) (.t 23), (some (.t 22, .lst))⟩,
  ⟨(some 25), none, .load false 1 (.t 24), (some (.t 24, .imm))⟩,
  ⟨(some 26), none, .idxS 1 (.t 14) (.t 15), (some (.t 14, .lst))⟩,
  ⟨none, none, .store 1 (.t 26) (.t 21), none⟩,
  ⟨(some 27), none, .idxS 1 (.t 16) (.t 17), (some (.t 16, .lst))⟩,
  ⟨none, none, .store 1 (.t 27) (.t 25), none⟩]
def p128_3 : List (List Nat) := [[], [], [], [], [], [], [4, 5], [6], [], [], [8, 9], [10], [0, 1, 0, 1, 4, 5, 6, 7, 11], [12, 7, 0, 1, 4, 5, 6, 7, 11], [2, 3, 0, 1, 2, 3, 4, 5, 6, 7, 8, 9, 10, 11, 12, 13], [14, 11, 13, 0, 1, 2, 3, 4, 5, 6, 7, 8, 9, 10, 11, 12, 13]]
def r128_2 : List AOp :=
  [⟨(some 10), none, .mov (.t 2), none⟩,
  ⟨(some 11), none, .bin .add (.t 10) (.c (.int .i64 1)), none⟩,
  ⟨(some 12), none, .mov (.t 3), none⟩,
  ⟨(some 13), none, .bin .sub (.t 12) (.c (.int .i64 1)), none⟩,
  ⟨(some 2), none, .mov (.t 11), none⟩,
  ⟨(some 3), none, .mov (.t 13), none⟩]
def l128_0 : AC :=
  .seq (.seq (.ops r128_1)
   (.cond (.t 9) (.skip) (.exit 0)))
  (.seq (.block 1 (.tops r128_3
       p128_3))
   (.ops r128_2))
/-- slices.Reverse[[]int,int] -/
def c128 : AC :=
  .seq (.ops r128_0)
  (.block 0 (.loop l128_0))
def a128 : AFn := { res := [], body := c128, keepA := false, keepR := false, pure := false }
theorem k128 : chkFn Tryz.prog Tryz.f128 a128 = true := by kernel_rfl

/-! math/bits.Mul -/
def r129_0 : List AOp :=
  [⟨(some 4), none, .mov (.c (.int .u64 0)), none⟩,
  ⟨(some 5), none, .mov (.c (.int .u64 0)), none⟩]
def r129_1 : List AOp :=
  [⟨(some 11), none, .mov (.t 0), none⟩,
  ⟨(some 12), none, .conv .u32 (.t 11), none⟩,
  ⟨(some 13), none, .mov (.t 1), none⟩,
  ⟨(some 14), none, .conv .u32 (.t 13), none⟩,
  ⟨(some 15), none, .call 142 [.t 12, .t 14], none⟩,
  ⟨(some 10), none, .mov (.t 15), none⟩,
  ⟨(some 16), none, .ext (.t 10) 0, none⟩,
  ⟨(some 17), none, .ext (.t 10) 1, none⟩,
  ⟨(some 6), none, .mov (.t 16), none⟩,
  ⟨(some 7), none, .mov (.t 17), none⟩]
def r129_2 : List AOp :=
  [⟨(some 18), none, .mov (.t 6), none⟩,
  ⟨(some 19), none, .conv .u64 (.t 18), none⟩,
  ⟨(some 20), none, .mov (.t 7), none⟩,
  ⟨(some 21), none, .conv .u64 (.t 20), none⟩,
  ⟨(some 4), none, .mov (.t 19), none⟩,
  ⟨(some 5), none, .mov (.t 21), none⟩]
def r129_3 : List AOp :=
  [⟨(some 23), none, .mov (.t 0), none⟩,
  ⟨(some 24), none, .mov (.t 1), none⟩,
  ⟨(some 25), none, .call 143 [.t 23, .t 24], none⟩,
  ⟨(some 22), none, .mov (.t 25), none⟩,
  ⟨(some 26), none, .ext (.t 22) 0, none⟩,
  ⟨(some 27), none, .ext (.t 22) 1, none⟩,
  ⟨(some 8), none, .mov (.t 26), none⟩,
  ⟨(some 9), none, .mov (.t 27), none⟩]
def r129_4 : List AOp :=
  [⟨(some 28), none, .mov (.t 8), none⟩,
  ⟨(some 29), none, .mov (.t 9), none⟩,
  ⟨(some 4), none, .mov (.t 28), none⟩,
  ⟨(some 5), none, .mov (.t 29), none⟩]
/-- math/bits.Mul -/
def c129 : AC :=
  .seq (.ops r129_0)
  (.seq (.cond (.c (.bool false)) (.seq (.ops r129_1)
     (.seq (.ops r129_2)
      (.ret))) (.skip))
   (.seq (.ops r129_3)
    (.seq (.ops r129_4)
     (.ret))))
def a129 : AFn := { res := [.tmp 4, .tmp 5], body := c129, keepA := false, keepR := false, pure := true }
theorem k129 : chkFn Tryz.prog Tryz.f129 a129 = true := by kernel_rfl

/-! lockstep/dom.right -/
def r130_0 : List AOp :=
  [⟨(some 2), none, .mov (.c (.bool false)), none⟩]
def r130_1 : List AOp :=
  [⟨(some 3), none, .mov (.c (.int .i64 0)), none⟩]
def r130_2 : List AOp :=
  [⟨(some 6), none, .mov (.t 0), none⟩,
  ⟨(some 7), none, .len (.t 6), none⟩,
  ⟨(some 8), none, .mov (.c (.int .i64 0)), none⟩]
def r130_3 : List AOp :=
  [⟨(some 9), none, .bin .lss (.t 8) (.t 7), none⟩]
def r130_4 : List AOp :=
  [⟨(some 10), none, .mov (.t 8), none⟩,
  ⟨(some 11), none, .idxS 1 (.t 6) (.t 8), none⟩,
  ⟨(some 12), none, .load false 1 (.t 11), none⟩,
  ⟨(some 4), none, .mov (.t 10), none⟩,
  ⟨(some 5), none, .mov (.t 12), none⟩]
def r130_5 : List AOp :=
  [⟨(some 13), none, .mov (.t 5), none⟩,
  ⟨(some 14), none, .bin .eql (.t 13) (.c (.int .i64 (-1))), none⟩]
def r130_6 : List AOp :=
  [⟨(some 15), none, .mov (.t 3), none⟩,
  ⟨(some 16), none, .bin .add (.t 15) (.c (.int .i64 1)), none⟩,
  ⟨(some 3), none, .mov (.t 16), none⟩]
def r130_7 : List AOp :=
  [⟨(some 17), none, .mov (.t 5), none⟩,
  ⟨(some 18), none, .bin .neq (.t 17) (.c (.int .i64 (-2))), none⟩,
  ⟨(some 19), none, .mov (.t 18), none⟩,
  ⟨(some 20), (some (19, true)), .mov (.t 0), none⟩,
  ⟨(some 21), (some (19, true)), .mov (.t 4), none⟩,
  ⟨(some 22), (some (19, true)), .call 132 [.t 20, .t 21], none⟩,
  ⟨(some 23), (some (19, true)), .bin .lss (.t 22) (.c (.int .i64 0)), none⟩,
  ⟨(some 24), none, .pick (.t 19) (.t 23) (.c (.bool false)), none⟩]
def r130_8 : List AOp :=
  [⟨(some 2), none, .mov (.c (.bool false)), none⟩]
def r130_9 : List AOp :=
  [⟨(some 25), none, .bin .add (.t 8) (.c (.int .i64 1)), none⟩,
  ⟨(some 8), none, .mov (.t 25), none⟩]
def l130_0 : AC :=
  .seq (.ops r130_3)
  (.seq (.cond (.t 9) (.skip) (.exit 0))
   (.seq (.block 1 (.seq (.ops r130_4)
      (.seq (.seq (.ops r130_5)
        (.cond (.t 14) (.ops r130_6) (.skip)))
       (.seq (.ops r130_7)
        (.cond (.t 24) (.seq (.ops r130_8)
          (.ret)) (.skip))))))
    (.ops r130_9)))
def r130_10 : List AOp :=
  [⟨(some 26), none, .mov (.t 3), none⟩,
  ⟨(some 27), none, .bin .eql (.t 26) (.c (.int .i64 1)), none⟩,
  ⟨(some 2), none, .mov (.t 27), none⟩]
/-- lockstep/dom.right -/
def c130 : AC :=
  .seq (.ops r130_0)
  (.seq (.ops r130_1)
   (.seq (.seq (.ops r130_2)
     (.block 0 (.loop l130_0)))
    (.seq (.ops r130_10)
     (.ret))))
def a130 : AFn := { res := [.tmp 2], body := c130, keepA := false, keepR := false, pure := true }
theorem k130 : chkFn Tryz.prog Tryz.f130 a130 = true := by kernel_rfl

/-! lockstep/dom.in$1 -/
def r131_0 : List AOp :=
  [⟨(some 3), none, .mov (.c (.bool false)), none⟩]
def r131_1 : List AOp :=
  [⟨(some 4), none, .load false 1 (.t 1), none⟩,
  ⟨(some 5), none, .mov (.t 0), none⟩,
  ⟨(some 6), none, .call 132 [.t 4, .t 5], none⟩,
  ⟨(some 7), none, .bin .lss (.t 6) (.c (.int .i64 0)), none⟩,
  ⟨(some 3), none, .mov (.t 7), none⟩]
/-- lockstep/dom.in$1 -/
def c131 : AC :=
  .seq (.ops r131_0)
  (.seq (.ops r131_1)
   (.ret))
def a131 : AFn := { res := [.tmp 3], body := c131, keepA := false, keepR := false, pure := true }
theorem k131 : chkFn Tryz.prog Tryz.f131 a131 = true := by kernel_rfl

/-! lockstep/dom.depth -/
def r132_0 : List AOp :=
  [⟨(some 4), none, .mov (.c (.int .i64 0)), none⟩]
def r132_1 : List AOp :=
  [⟨(some 6), none, .mov (.t 0), none⟩,
  ⟨(some 7), none, .len (.t 6), none⟩,
  ⟨(some 8), none, .mov (.c (.int .i64 0)), none⟩]
def r132_2 : List AOp :=
  [⟨(some 9), none, .bin .lss (.t 8) (.t 7), none⟩]
def r132_3 : List AOp :=
  [⟨(some 10), none, .mov (.t 8), none⟩,
  ⟨(some 5), none, .mov (.t 10), none⟩]
def r132_4 : List AOp :=
  [⟨(some 11), none, .mov (.t 1), none⟩,
  ⟨(some 12), none, .bin .lss (.t 11) (.c (.int .i64 0)), none⟩,
  ⟨(some 13), none, .mov (.t 12), none⟩,
  ⟨(some 14), (some (13, false)), .mov (.t 1), none⟩,
  ⟨(some 15), (some (13, false)), .mov (.t 0), none⟩,
  ⟨(some 16), (some (13, false)), .len (.t 15), none⟩,
  ⟨(some 17), (some (13, false)), .bin .geq (.t 14) (.t 16), none⟩,
  ⟨(some 18), none, .pick (.t 13) (.c (.bool true)) (.t 17), none⟩]
def r132_5 : List AOp :=
  [⟨(some 4), none, .mov (.c (.int .i64 (-1))), none⟩]
def r132_6 : List AOp :=
  [⟨(some 19), none, .mov (.t 0), none⟩,
  ⟨(some 20), none, .mov (.t 1), none⟩,
  ⟨(some 21), none, .idxS 1 (.t 19) (.t 20), none⟩,
  ⟨(some 22), none, .load false 1 (.t 21), none⟩,
  ⟨(some 23), none, .bin .eql (.t 22) (.c (.int .i64 (-1))), none⟩]
def r132_7 : List AOp :=
  [⟨(some 24), none, .mov (.t 5), none⟩,
  ⟨(some 4), none, .mov (.t 24), none⟩]
def r132_8 : List AOp :=
  [⟨(some 25), none, .mov (.t 0), none⟩,
  ⟨(some 26), none, .mov (.t 1), none⟩,
  ⟨(some 27), none, .idxS 1 (.t 25) (.t 26), none⟩,
  ⟨(some 28), none, .load false 1 (.t 27), none⟩,
  ⟨(some 1), none, .mov (.t 28), none⟩]
def r132_9 : List AOp :=
  [⟨(some 29), none, .bin .add (.t 8) (.c (.int .i64 1)), none⟩,
  ⟨(some 8), none, .mov (.t 29), none⟩]
def l132_0 : AC :=
  .seq (.ops r132_2)
  (.seq (.cond (.t 9) (.skip) (.exit 0))
   (.seq (.block 1 (.seq (.ops r132_3)
      (.seq (.seq (.ops r132_4)
        (.cond (.t 18) (.seq (.ops r132_5)
          (.ret)) (.skip)))
       (.seq (.seq (.ops r132_6)
         (.cond (.t 23) (.seq (.ops r132_7)
           (.ret)) (.skip)))
        (.ops r132_8)))))
    (.ops r132_9)))
def r132_10 : List AOp :=
  [⟨(some 4), none, .mov (.c (.int .i64 (-1))), none⟩]
/-- lockstep/dom.depth -/
def c132 : AC :=
  .seq (.ops r132_0)
  (.seq (.seq (.ops r132_1)
    (.block 0 (.loop l132_0)))
   (.seq (.ops r132_10)
    (.ret)))
def a132 : AFn := { res := [.tmp 4], body := c132, keepA := false, keepR := false, pure := true }
theorem k132 : chkFn Tryz.prog Tryz.f132 a132 = true := by kernel_rfl

/-! lockstep/kind.Shape -/
def r133_0 : List AOp :=
  [⟨(some 4), none, .mov (.c (.bool false)), none⟩]
def r133_1 : List AOp :=
  [⟨(some 5), none, .mov (.t 0), none⟩,
  ⟨(some 6), none, .call 79 [.t 5], none⟩,
  ⟨(some 7), none, .un .not (.t 6), none⟩]
def r133_2 : List AOp :=
  [⟨(some 4), none, .mov (.c (.bool false)), none⟩]
def r133_3 : List AOp :=
  [⟨(some 8), none, .mov (.t 1), none⟩]
def r133_4 : List AOp :=
  [⟨(some 10), none, .bin .eql (.t 8) (.c (.int .i64 1)), none⟩,
  ⟨(some 9), none, .mov (.t 10), none⟩]
def r133_5 : List AOp :=
  [⟨(some 4), none, .mov (.c (.bool true)), none⟩]
def r133_6 : List AOp :=
  [⟨(some 12), none, .bin .eql (.t 8) (.c (.int .i64 2)), none⟩,
  ⟨(some 11), none, .mov (.t 12), none⟩]
def r133_7 : List AOp :=
  [⟨(some 13), none, .bin .eql (.t 8) (.c (.int .i64 4)), none⟩,
  ⟨(some 11), none, .mov (.t 13), none⟩]
def r133_8 : List AOp :=
  [⟨(some 14), none, .bin .eql (.t 8) (.c (.int .i64 8)), none⟩,
  ⟨(some 11), none, .mov (.t 14), none⟩]
def r133_9 : List AOp :=
  [⟨(some 15), none, .bin .eql (.t 8) (.c (.int .i64 16)), none⟩,
  ⟨(some 11), none, .mov (.t 15), none⟩]
def r133_10 : List AOp :=
  [⟨(some 16), none, .mov (.t 0), none⟩,
  ⟨(some 17), none, .bin .geq (.t 16) (.c (.int .i64 8)), none⟩,
  ⟨(some 18), none, .mov (.t 17), none⟩,
  ⟨(some 19), (some (18, true)), .mov (.t 0), none⟩,
  ⟨(some 20), (some (18, true)), .mov (.t 1), none⟩,
  ⟨(some 21), (some (18, true)), .bin .mul (.t 19) (.t 20), none⟩,
  ⟨(some 22), (some (18, true)), .bin .leq (.t 21) (.c (.int .i64 128)), none⟩,
  ⟨(some 23), none, .pick (.t 18) (.t 22) (.c (.bool false)), none⟩,
  ⟨(some 4), none, .mov (.t 23), none⟩]
def r133_11 : List AOp :=
  [⟨(some 4), none, .mov (.c (.bool false)), none⟩]
/-- lockstep/kind.Shape -/
def c133 : AC :=
  .seq (.ops r133_0)
  (.seq (.seq (.ops r133_1)
    (.cond (.t 7) (.seq (.ops r133_2)
      (.ret)) (.skip)))
   (.seq (.seq (.ops r133_3)
     (.block 0 (.seq (.ops r133_4)
       (.cond (.t 9) (.seq (.ops r133_5)
         (.ret)) (.seq (.seq (.ops r133_6)
          (.cond (.t 11) (.skip) (.seq (.ops r133_7)
            (.cond (.t 11) (.skip) (.seq (.ops r133_8)
              (.cond (.t 11) (.skip) (.ops r133_9)))))))
         (.cond (.t 11) (.seq (.ops r133_10)
           (.ret)) (.skip)))))))
    (.seq (.ops r133_11)
     (.ret))))
def a133 : AFn := { res := [.tmp 4], body := c133, keepA := false, keepR := false, pure := true }
theorem k133 : chkFn Tryz.prog Tryz.f133 a133 = true := by kernel_rfl

end Go.Proofs.YtcngflmnbdcppaaGreat
