/- A part of the proof: an abstract machine for the program's code and what each of its functions comes to there. No conditions. -/
import Derived.Test.YtcngflmnbdcppaaGreatP06
import Derived.Test.YtcngflmnbdcppaaGreatChecked
import Derived.KernelRfl
import Derived.RangeFuncGives
import Derived.RangeFuncLeaves
import Derived.WalkKit
import Derived.OwnWalkIn
import Derived.TacticsInMore
import Derived.RegionIn

set_option linter.unusedSimpArgs false
set_option linter.unusedVariables false

/- Compact code of the program's functions, each checked against the program's form: printed by mkcode.py. -/
namespace Go.Proofs.YtcngflmnbdcppaaGreat
open Go.LS

/-! lockstep/kind.takes -/
def r134_0 : List AOp :=
  [⟨(some 1), none, .box false 6 (.t 0), none⟩,
  ⟨(some 2), none, .mov (.c (.lst .nil [])), none⟩,
  ⟨(some 3), none, .mov (.c (.bool false)), none⟩]
def r134_1 : List AOp :=
  [⟨(some 10), none, .off 1 (.t 1), (some (.t 1, .loc 1))⟩,
  ⟨(some 11), none, .load false 1 (.t 10), (some (.t 10, .loc 1))⟩,
  ⟨(some 12), none, .off 2 (.t 1), (some (.t 1, .loc 1))⟩,
  ⟨(some 13), none, .load false 1 (.t 12), (some (.t 12, .loc 1))⟩,
  ⟨(some 14), none, .build [.int .i64 0, .int .i64 0] [(0, 1, .t 11), (1, 1, .t 13)], none⟩,
  ⟨(some 15), none, .off 1 (.t 1), (some (.t 1, .loc 1))⟩,
  ⟨(some 16), none, .load false 1 (.t 15), (some (.t 15, .loc 1))⟩,
  ⟨(some 17), none, .build [.int .i64 0, .int .i64 0] [(0, 1, .t 16), (1, 1, .c (.int .i64 1))], none⟩,
  ⟨(some 18), none, .build [.int .i64 0, .int .i64 0] [(0, 1, .c (.int .i64 1)), (1, 1, .c (.int .i64 1))], none⟩,
  ⟨(some 19), none, .build [.int .i64 0, .int .i64 0] [(0, 1, .c (.int .i64 64)), (1, 1, .c (.int .i64 1))], none⟩,
  ⟨(some 4), none, .alloc false [.int .i64 0, .int .i64 0], none⟩,
  ⟨(some 5), none, .alloc false [.int .i64 0, .int .i64 0], none⟩,
  ⟨(some 6), none, .alloc false [.int .i64 0, .int .i64 0], none⟩,
  ⟨(some 7), none, .alloc false [.int .i64 0, .int .i64 0], none⟩,
  ⟨none, none, .store 2 (.t 4) (.t 14), (some (.t 4, .loc 4))⟩,
  ⟨none, none, .store 2 (.t 5) (.t 17), (some (.t 5, .loc 5))⟩,
  ⟨none, none, .store 2 (.t 6) (.t 18), (some (.t 6, .loc 6))⟩,
  ⟨none, none, .store 2 (.t 7) (.t 19), (some (.t 7, .loc 7))⟩]
def p134_1 : List (List Nat) := [[], [0], [], [2], [1, 3], [], [5], [6], [], [], [], [], [], [], [10, 4, 0, 1, 2, 3, 4, 10, 11, 12, 13], [11, 7, 14, 0, 1, 2, 3, 4, 5, 6, 7, 10, 11, 12, 13, 14], [12, 8, 15, 0, 1, 2, 3, 4, 5, 6, 7, 8, 10, 11, 12, 13, 14, 15], [13, 9, 16, 0, 1, 2, 3, 4, 5, 6, 7, 8, 9, 10, 11, 12, 13, 14, 15, 16]]
def r134_2 : List AOp :=
  [⟨(some 20), none, .off 2 (.t 1), (some (.t 1, .loc 1))⟩,
  ⟨(some 21), none, .load false 1 (.t 20), (some (.t 20, .loc 1))⟩,
  ⟨(some 22), none, .bin .eql (.t 21) (.c (.int .i64 1)), none⟩,
  ⟨(some 23), none, .off 1 (.t 1), (some (.t 1, .loc 1))⟩,
  ⟨(some 24), none, .load false 1 (.t 23), (some (.t 23, .loc 1))⟩,
  ⟨(some 25), none, .bin .geq (.t 24) (.c (.int .i64 8)), none⟩,
  ⟨(some 8), none, .mov (.t 22), none⟩,
  ⟨(some 9), none, .mov (.t 25), none⟩]
def p134_2 : List (List Nat) := [[], [0], [1], [], [3], [4], [2, 0, 1, 2], [5, 6, 0, 1, 2, 3, 4, 5, 6]]
def r134_3 : List AOp :=
  [⟨(some 26), none, .off 0 (.t 1), none⟩,
  ⟨(some 27), none, .load false 1 (.t 26), none⟩]
def r134_4 : List AOp :=
  [⟨(some 29), none, .bin .eql (.t 27) (.c (.int .i64 0)), none⟩,
  ⟨(some 28), none, .mov (.t 29), none⟩]
def r134_5 : List AOp :=
  [⟨(some 30), none, .off 5 (.t 1), (some (.t 1, .loc 1))⟩,
  ⟨(some 31), none, .load false 1 (.t 30), (some (.t 30, .loc 1))⟩,
  ⟨(some 32), none, .off 1 (.t 1), (some (.t 1, .loc 1))⟩,
  ⟨(some 33), none, .load false 1 (.t 32), (some (.t 32, .loc 1))⟩,
  ⟨(some 34), none, .call 144 [.t 31, .t 33], none⟩,
  ⟨(some 35), none, .off 5 (.t 1), (some (.t 1, .loc 1))⟩,
  ⟨(some 36), none, .load false 1 (.t 35), (some (.t 35, .loc 1))⟩,
  ⟨(some 37), none, .bin .eql (.t 34) (.t 36), none⟩,
  ⟨(some 2), none, .mov (.c (.lst .nil [])), none⟩,
  ⟨(some 3), none, .mov (.t 37), none⟩]
def p134_5 : List (List Nat) := [[], [0], [], [2], [1, 3], [], [5], [4, 6], [4], [7, 8, 0, 1, 2, 3, 4, 5, 6, 7, 8]]
def r134_6 : List AOp :=
  [⟨(some 39), none, .bin .eql (.t 27) (.c (.int .i64 1)), none⟩,
  ⟨(some 38), none, .mov (.t 39), none⟩]
def r134_7 : List AOp :=
  [⟨(some 40), none, .bin .eql (.t 27) (.c (.int .i64 2)), none⟩,
  ⟨(some 38), none, .mov (.t 40), none⟩]
def r134_8 : List AOp :=
  [⟨(some 41), none, .bin .eql (.t 27) (.c (.int .i64 3)), none⟩,
  ⟨(some 38), none, .mov (.t 41), none⟩]
def r134_9 : List AOp :=
  [⟨(some 42), none, .bin .eql (.t 27) (.c (.int .i64 5)), none⟩,
  ⟨(some 38), none, .mov (.t 42), none⟩]
def r134_10 : List AOp :=
  [⟨(some 43), none, .bin .eql (.t 27) (.c (.int .i64 6)), none⟩,
  ⟨(some 38), none, .mov (.t 43), none⟩]
def r134_11 : List AOp :=
  [⟨(some 44), none, .bin .eql (.t 27) (.c (.int .i64 7)), none⟩,
  ⟨(some 38), none, .mov (.t 44), none⟩]
def r134_12 : List AOp :=
  [⟨(some 45), none, .bin .eql (.t 27) (.c (.int .i64 8)), none⟩,
  ⟨(some 38), none, .mov (.t 45), none⟩]
def r134_13 : List AOp :=
  [⟨(some 46), none, .bin .eql (.t 27) (.c (.int .i64 9)), none⟩,
  ⟨(some 38), none, .mov (.t 46), none⟩]
def r134_14 : List AOp :=
  [⟨(some 47), none, .load true 2 (.t 4), (some (.t 4, .loc 4))⟩,
  ⟨(some 48), none, .load true 2 (.t 4), (some (.t 4, .loc 4))⟩,
  ⟨(some 49), none, .bslice false 2 2 [.int .i64 0, .int .i64 0] [(0, .t 47), (1, .t 48)], none⟩,
  ⟨(some 50), none, .call 145 [.t 49], none⟩,
  ⟨(some 51), none, .off 5 (.t 1), (some (.t 1, .loc 1))⟩,
  ⟨(some 52), none, .load false 1 (.t 51), (some (.t 51, .loc 1))⟩,
  ⟨(some 53), none, .bin .eql (.t 52) (.c (.int .u64 0)), none⟩,
  ⟨(some 2), none, .mov (.t 50), none⟩,
  ⟨(some 3), none, .mov (.t 53), none⟩]
def p134_14 : List (List Nat) := [[], [], [0, 1], [2], [], [4], [5], [3, 3, 0, 1, 2, 3], [6, 7, 0, 1, 2, 3, 4, 5, 6, 7]]
def r134_15 : List AOp :=
  [⟨(some 55), none, .bin .eql (.t 27) (.c (.int .i64 4)), none⟩,
  ⟨(some 54), none, .mov (.t 55), none⟩]
def r134_16 : List AOp :=
  [⟨(some 56), none, .bin .eql (.t 27) (.c (.int .i64 10)), none⟩,
  ⟨(some 54), none, .mov (.t 56), none⟩]
def r134_17 : List AOp :=
  [⟨(some 57), none, .bin .eql (.t 27) (.c (.int .i64 11)), none⟩,
  ⟨(some 54), none, .mov (.t 57), none⟩]
def r134_18 : List AOp :=
  [⟨(some 58), none, .bin .eql (.t 27) (.c (.int .i64 12)), none⟩,
  ⟨(some 54), none, .mov (.t 58), none⟩]
def r134_19 : List AOp :=
  [⟨(some 59), none, .load true 2 (.t 4), (some (.t 4, .loc 4))⟩,
  ⟨(some 60), none, .load true 2 (.t 4), (some (.t 4, .loc 4))⟩,
  ⟨(some 61), none, .bslice false 2 2 [.int .i64 0, .int .i64 0] [(0, .t 59), (1, .t 60)], none⟩,
  ⟨(some 62), none, .call 145 [.t 61], none⟩,
  ⟨(some 63), none, .off 5 (.t 1), (some (.t 1, .loc 1))⟩,
  ⟨(some 64), none, .load false 1 (.t 63), (some (.t 63, .loc 1))⟩,
  ⟨(some 65), none, .bin .eql (.t 64) (.c (.int .u64 0)), none⟩,
  ⟨(some 66), none, .mov (.t 65), none⟩,
  ⟨(some 67), (some (66, true)), .mov (.t 8), none⟩,
  ⟨(some 68), none, .pick (.t 66) (.t 67) (.c (.bool false)), none⟩,
  ⟨(some 2), none, .mov (.t 62), none⟩,
  ⟨(some 3), none, .mov (.t 68), none⟩]
def p134_19 : List (List Nat) := [[], [], [0, 1], [2], [], [4], [5], [6, 3], [7], [7, 8], [3, 7, 0, 1, 2, 3], [9, 10, 0, 1, 2, 3, 4, 5, 6, 7, 8, 9, 10]]
def r134_20 : List AOp :=
  [⟨(some 70), none, .bin .eql (.t 27) (.c (.int .i64 13)), none⟩,
  ⟨(some 69), none, .mov (.t 70), none⟩]
def r134_21 : List AOp :=
  [⟨(some 71), none, .load true 2 (.t 6), (some (.t 6, .loc 6))⟩,
  ⟨(some 72), none, .load true 2 (.t 4), (some (.t 4, .loc 4))⟩,
  ⟨(some 73), none, .load true 2 (.t 4), (some (.t 4, .loc 4))⟩,
  ⟨(some 74), none, .bslice false 3 2 [.int .i64 0, .int .i64 0] [(0, .t 71), (1, .t 72), (2, .t 73)], none⟩,
  ⟨(some 75), none, .call 145 [.t 74], none⟩,
  ⟨(some 76), none, .off 5 (.t 1), (some (.t 1, .loc 1))⟩,
  ⟨(some 77), none, .load false 1 (.t 76), (some (.t 76, .loc 1))⟩,
  ⟨(some 78), none, .bin .eql (.t 77) (.c (.int .u64 0)), none⟩,
  ⟨(some 2), none, .mov (.t 75), none⟩,
  ⟨(some 3), none, .mov (.t 78), none⟩]
def p134_21 : List (List Nat) := [[], [], [], [0, 1, 2], [3], [], [5], [6], [4, 4, 0, 1, 2, 3, 4], [7, 8, 0, 1, 2, 3, 4, 5, 6, 7, 8]]
def r134_22 : List AOp :=
  [⟨(some 80), none, .bin .eql (.t 27) (.c (.int .i64 14)), none⟩,
  ⟨(some 79), none, .mov (.t 80), none⟩]
def r134_23 : List AOp :=
  [⟨(some 81), none, .off 5 (.t 1), none⟩,
  ⟨(some 82), none, .load false 1 (.t 81), none⟩,
  ⟨(some 83), none, .minmax false (.t 82) [.c (.int .u64 128)], none⟩,
  ⟨(some 84), none, .conv .i64 (.t 83), none⟩,
  ⟨(some 85), none, .build [.int .i64 0, .int .i64 0] [(0, 1, .t 84), (1, 1, .c (.int .i64 1))], none⟩,
  ⟨(some 86), none, .bslice false 1 2 [.int .i64 0, .int .i64 0] [(0, .t 85)], none⟩,
  ⟨(some 87), none, .call 145 [.t 86], none⟩,
  ⟨(some 88), none, .mov (.t 8), none⟩,
  ⟨(some 89), none, .mov (.t 88), none⟩,
  ⟨(some 90), (some (89, true)), .off 5 (.t 1), none⟩,
  ⟨(some 91), (some (89, true)), .load false 1 (.t 90), none⟩,
  ⟨(some 92), (some (89, true)), .off 1 (.t 1), none⟩,
  ⟨(some 93), (some (89, true)), .load false 1 (.t 92), none⟩,
  ⟨(some 94), (some (89, true)), .conv .u64 (.t 93), none⟩,
  ⟨(some 95), (some (89, true)), .bin .lss (.t 91) (.t 94), none⟩,
  ⟨(some 96), none, .pick (.t 89) (.t 95) (.c (.bool false)), none⟩,
  ⟨(some 97), none, .mov (.t 96), none⟩,
  ⟨(some 98), (some (97, true)), .off 5 (.t 1), none⟩,
  ⟨(some 99), (some (97, true)), .load false 1 (.t 98), none⟩,
  ⟨(some 100), (some (97, true)), .conv .i64 (.t 99), none⟩,
  ⟨(some 101), (some (97, true)), .call 79 [.t 100], none⟩,
  ⟨(some 102), none, .pick (.t 97) (.t 101) (.c (.bool false)), none⟩,
  ⟨(some 2), none, .mov (.t 87), none⟩,
  ⟨(some 3), none, .mov (.t 102), none⟩]
def r134_24 : List AOp :=
  [⟨(some 104), none, .bin .eql (.t 27) (.c (.int .i64 15)), none⟩,
  ⟨(some 103), none, .mov (.t 104), none⟩]
def r134_25 : List AOp :=
  [⟨(some 105), none, .off 5 (.t 1), none⟩,
  ⟨(some 106), none, .load false 1 (.t 105), none⟩,
  ⟨(some 107), none, .minmax false (.t 106) [.c (.int .u64 128)], none⟩,
  ⟨(some 108), none, .conv .i64 (.t 107), none⟩,
  ⟨(some 109), none, .build [.int .i64 0, .int .i64 0] [(0, 1, .t 108), (1, 1, .c (.int .i64 1))], none⟩,
  ⟨(some 110), none, .bslice false 1 2 [.int .i64 0, .int .i64 0] [(0, .t 109)], none⟩,
  ⟨(some 111), none, .call 145 [.t 110], none⟩,
  ⟨(some 112), none, .mov (.t 8), none⟩,
  ⟨(some 113), none, .mov (.t 112), none⟩,
  ⟨(some 114), (some (113, true)), .off 5 (.t 1), none⟩,
  ⟨(some 115), (some (113, true)), .load false 1 (.t 114), none⟩,
  ⟨(some 116), (some (113, true)), .off 1 (.t 1), none⟩,
  ⟨(some 117), (some (113, true)), .load false 1 (.t 116), none⟩,
  ⟨(some 118), (some (113, true)), .conv .u64 (.t 117), none⟩,
  ⟨(some 119), (some (113, true)), .bin .gtr (.t 115) (.t 118), none⟩,
  ⟨(some 120), none, .pick (.t 113) (.t 119) (.c (.bool false)), none⟩,
  ⟨(some 121), none, .mov (.t 120), none⟩,
  ⟨(some 122), (some (121, true)), .off 5 (.t 1), none⟩,
  ⟨(some 123), (some (121, true)), .load false 1 (.t 122), none⟩,
  ⟨(some 124), (some (121, true)), .bin .leq (.t 123) (.c (.int .u64 64)), none⟩,
  ⟨(some 125), none, .pick (.t 121) (.t 124) (.c (.bool false)), none⟩,
  ⟨(some 126), none, .mov (.t 125), none⟩,
  ⟨(some 127), (some (126, true)), .off 5 (.t 1), none⟩,
  ⟨(some 128), (some (126, true)), .load false 1 (.t 127), none⟩,
  ⟨(some 129), (some (126, true)), .conv .i64 (.t 128), none⟩,
  ⟨(some 130), (some (126, true)), .call 79 [.t 129], none⟩,
  ⟨(some 131), none, .pick (.t 126) (.t 130) (.c (.bool false)), none⟩,
  ⟨(some 2), none, .mov (.t 111), none⟩,
  ⟨(some 3), none, .mov (.t 131), none⟩]
def r134_26 : List AOp :=
  [⟨(some 133), none, .bin .eql (.t 27) (.c (.int .i64 16)), none⟩,
  ⟨(some 132), none, .mov (.t 133), none⟩]
def r134_27 : List AOp :=
  [⟨(some 134), none, .load true 2 (.t 7), (some (.t 7, .loc 7))⟩,
  ⟨(some 135), none, .bslice false 1 2 [.int .i64 0, .int .i64 0] [(0, .t 134)], none⟩,
  ⟨(some 136), none, .call 145 [.t 135], none⟩,
  ⟨(some 137), none, .off 5 (.t 1), (some (.t 1, .loc 1))⟩,
  ⟨(some 138), none, .load false 1 (.t 137), (some (.t 137, .loc 1))⟩,
  ⟨(some 139), none, .bin .eql (.t 138) (.c (.int .u64 0)), none⟩,
  ⟨(some 140), none, .mov (.t 139), none⟩,
  ⟨(some 141), (some (140, true)), .mov (.t 9), none⟩,
  ⟨(some 142), none, .pick (.t 140) (.t 141) (.c (.bool false)), none⟩,
  ⟨(some 2), none, .mov (.t 136), none⟩,
  ⟨(some 3), none, .mov (.t 142), none⟩]
def p134_27 : List (List Nat) := [[], [0], [1], [], [3], [4], [5, 2], [6], [6, 7], [2, 6, 0, 1, 2], [8, 9, 0, 1, 2, 3, 4, 5, 6, 7, 8, 9]]
def r134_28 : List AOp :=
  [⟨(some 144), none, .bin .eql (.t 27) (.c (.int .i64 17)), none⟩,
  ⟨(some 143), none, .mov (.t 144), none⟩]
def r134_29 : List AOp :=
  [⟨(some 145), none, .load true 2 (.t 7), (some (.t 7, .loc 7))⟩,
  ⟨(some 146), none, .load true 2 (.t 4), (some (.t 4, .loc 4))⟩,
  ⟨(some 147), none, .bslice false 2 2 [.int .i64 0, .int .i64 0] [(0, .t 145), (1, .t 146)], none⟩,
  ⟨(some 148), none, .call 145 [.t 147], none⟩,
  ⟨(some 149), none, .off 5 (.t 1), (some (.t 1, .loc 1))⟩,
  ⟨(some 150), none, .load false 1 (.t 149), (some (.t 149, .loc 1))⟩,
  ⟨(some 151), none, .bin .eql (.t 150) (.c (.int .u64 0)), none⟩,
  ⟨(some 152), none, .mov (.t 151), none⟩,
  ⟨(some 153), (some (152, true)), .mov (.t 9), none⟩,
  ⟨(some 154), none, .pick (.t 152) (.t 153) (.c (.bool false)), none⟩,
  ⟨(some 2), none, .mov (.t 148), none⟩,
  ⟨(some 3), none, .mov (.t 154), none⟩]
def p134_29 : List (List Nat) := [[], [], [0, 1], [2], [], [4], [5], [6, 3], [7], [7, 8], [3, 7, 0, 1, 2, 3], [9, 10, 0, 1, 2, 3, 4, 5, 6, 7, 8, 9, 10]]
def r134_30 : List AOp :=
  [⟨(some 156), none, .bin .eql (.t 27) (.c (.int .i64 18)), none⟩,
  ⟨(some 155), none, .mov (.t 156), none⟩]
def r134_31 : List AOp :=
  [⟨(some 157), none, .bin .eql (.t 27) (.c (.int .i64 19)), none⟩,
  ⟨(some 155), none, .mov (.t 157), none⟩]
def r134_32 : List AOp :=
  [⟨(some 158), none, .load true 2 (.t 6), (some (.t 6, .loc 6))⟩,
  ⟨(some 159), none, .load true 2 (.t 7), (some (.t 7, .loc 7))⟩,
  ⟨(some 160), none, .load true 2 (.t 4), (some (.t 4, .loc 4))⟩,
  ⟨(some 161), none, .bslice false 3 2 [.int .i64 0, .int .i64 0] [(0, .t 158), (1, .t 159), (2, .t 160)], none⟩,
  ⟨(some 162), none, .call 145 [.t 161], none⟩,
  ⟨(some 163), none, .off 5 (.t 1), (some (.t 1, .loc 1))⟩,
  ⟨(some 164), none, .load false 1 (.t 163), (some (.t 163, .loc 1))⟩,
  ⟨(some 165), none, .bin .eql (.t 164) (.c (.int .u64 0)), none⟩,
  ⟨(some 166), none, .mov (.t 165), none⟩,
  ⟨(some 167), (some (166, true)), .mov (.t 8), none⟩,
  ⟨(some 168), none, .pick (.t 166) (.t 167) (.c (.bool false)), none⟩,
  ⟨(some 169), none, .mov (.t 168), none⟩,
  ⟨(some 170), (some (169, true)), .mov (.t 9), none⟩,
  ⟨(some 171), none, .pick (.t 169) (.t 170) (.c (.bool false)), none⟩,
  ⟨(some 2), none, .mov (.t 162), none⟩,
  ⟨(some 3), none, .mov (.t 171), none⟩]
def p134_32 : List (List Nat) := [[], [], [], [0, 1, 2], [3], [], [5], [6], [7, 4], [8], [8, 9], [10, 8], [11], [11, 12], [4, 11, 0, 1, 2, 3, 4], [13, 14, 0, 1, 2, 3, 4, 5, 6, 7, 8, 9, 10, 11, 12, 13, 14]]
def r134_33 : List AOp :=
  [⟨(some 173), none, .bin .eql (.t 27) (.c (.int .i64 20)), none⟩,
  ⟨(some 172), none, .mov (.t 173), none⟩]
def r134_34 : List AOp :=
  [⟨(some 174), none, .load true 2 (.t 6), (some (.t 6, .loc 6))⟩,
  ⟨(some 175), none, .load true 2 (.t 4), (some (.t 4, .loc 4))⟩,
  ⟨(some 176), none, .load true 2 (.t 4), (some (.t 4, .loc 4))⟩,
  ⟨(some 177), none, .load true 2 (.t 4), (some (.t 4, .loc 4))⟩,
  ⟨(some 178), none, .bslice false 4 2 [.int .i64 0, .int .i64 0] [(0, .t 174), (1, .t 175), (2, .t 176), (3, .t 177)], none⟩,
  ⟨(some 179), none, .call 145 [.t 178], none⟩,
  ⟨(some 180), none, .off 5 (.t 1), (some (.t 1, .loc 1))⟩,
  ⟨(some 181), none, .load false 1 (.t 180), (some (.t 180, .loc 1))⟩,
  ⟨(some 182), none, .bin .eql (.t 181) (.c (.int .u64 0)), none⟩,
  ⟨(some 183), none, .mov (.t 182), none⟩,
  ⟨(some 184), (some (183, true)), .mov (.t 8), none⟩,
  ⟨(some 185), none, .pick (.t 183) (.t 184) (.c (.bool false)), none⟩,
  ⟨(some 2), none, .mov (.t 179), none⟩,
  ⟨(some 3), none, .mov (.t 185), none⟩]
def p134_34 : List (List Nat) := [[], [], [], [], [0, 1, 2, 3], [4], [], [6], [7], [8, 5], [9], [9, 10], [5, 9, 0, 1, 2, 3, 4, 5], [11, 12, 0, 1, 2, 3, 4, 5, 6, 7, 8, 9, 10, 11, 12]]
def r134_35 : List AOp :=
  [⟨(some 187), none, .bin .eql (.t 27) (.c (.int .i64 21)), none⟩,
  ⟨(some 186), none, .mov (.t 187), none⟩]
def r134_36 : List AOp :=
  [⟨(some 188), none, .load true 2 (.t 5), (some (.t 5, .loc 5))⟩,
  ⟨(some 189), none, .bslice false 1 2 [.int .i64 0, .int .i64 0] [(0, .t 188)], none⟩,
  ⟨(some 190), none, .call 145 [.t 189], none⟩,
  ⟨(some 191), none, .off 2 (.t 1), (some (.t 1, .loc 1))⟩,
  ⟨(some 192), none, .load false 1 (.t 191), (some (.t 191, .loc 1))⟩,
  ⟨(some 193), none, .call 146 [.t 190, .t 192], none⟩,
  ⟨(some 194), none, .off 5 (.t 1), (some (.t 1, .loc 1))⟩,
  ⟨(some 195), none, .load false 1 (.t 194), (some (.t 194, .loc 1))⟩,
  ⟨(some 196), none, .bin .eql (.t 195) (.c (.int .u64 0)), none⟩,
  ⟨(some 197), none, .mov (.t 196), none⟩,
  ⟨(some 198), (some (197, true)), .mov (.t 8), none⟩,
  ⟨(some 199), (some (197, true)), .un .not (.t 198), none⟩,
  ⟨(some 200), none, .pick (.t 197) (.t 199) (.c (.bool false)), none⟩,
  ⟨(some 2), none, .mov (.t 193), none⟩,
  ⟨(some 3), none, .mov (.t 200), none⟩]
def p134_36 : List (List Nat) := [[], [0], [1], [], [3], [2, 4, 2], [], [6], [7], [8, 5], [9], [10, 9], [9, 11], [5, 9, 0, 1, 2, 3, 4, 5], [12, 13, 0, 1, 2, 3, 4, 5, 6, 7, 8, 9, 10, 11, 12, 13]]
def r134_37 : List AOp :=
  [⟨(some 202), none, .bin .eql (.t 27) (.c (.int .i64 22)), none⟩,
  ⟨(some 201), none, .mov (.t 202), none⟩]
def r134_38 : List AOp :=
  [⟨(some 203), none, .load true 2 (.t 4), (some (.t 4, .loc 4))⟩,
  ⟨(some 204), none, .bslice false 1 2 [.int .i64 0, .int .i64 0] [(0, .t 203)], none⟩,
  ⟨(some 205), none, .call 145 [.t 204], none⟩,
  ⟨(some 206), none, .mov (.t 8), none⟩,
  ⟨(some 207), none, .un .not (.t 206), none⟩,
  ⟨(some 208), none, .mov (.t 207), none⟩,
  ⟨(some 209), (some (208, true)), .off 5 (.t 1), (some (.t 1, .loc 1))⟩,
  ⟨(some 210), (some (208, true)), .load false 1 (.t 209), (some (.t 209, .loc 1))⟩,
  ⟨(some 211), (some (208, true)), .off 2 (.t 1), (some (.t 1, .loc 1))⟩,
  ⟨(some 212), (some (208, true)), .load false 1 (.t 211), (some (.t 211, .loc 1))⟩,
  ⟨(some 213), (some (208, true)), .conv .u64 (.t 212), none⟩,
  ⟨(some 214), (some (208, true)), .bin .lss (.t 210) (.t 213), none⟩,
  ⟨(some 215), none, .pick (.t 208) (.t 214) (.c (.bool false)), none⟩,
  ⟨(some 2), none, .mov (.t 205), none⟩,
  ⟨(some 3), none, .mov (.t 215), none⟩]
def p134_38 : List (List Nat) := [[], [0], [1], [], [3], [4, 2], [5], [6, 5], [5], [8, 5], [9, 5], [7, 10, 5], [5, 11], [2, 5, 0, 1, 2], [12, 13, 0, 1, 2, 3, 4, 5, 6, 7, 8, 9, 10, 11, 12, 13]]
def r134_39 : List AOp :=
  [⟨(some 2), none, .mov (.c (.lst .nil [])), none⟩,
  ⟨(some 3), none, .mov (.c (.bool false)), none⟩]
/-- lockstep/kind.takes -/
def c134 : AC :=
  .seq (.ops r134_0)
  (.seq (.tops r134_1
      p134_1)
   (.seq (.tops r134_2
       p134_2)
    (.seq (.seq (.ops r134_3)
      (.block 0 (.seq (.ops r134_4)
        (.cond (.t 28) (.seq (.tops r134_5
             p134_5)
          (.ret)) (.seq (.seq (.ops r134_6)
           (.cond (.t 38) (.skip) (.seq (.ops r134_7)
             (.cond (.t 38) (.skip) (.seq (.ops r134_8)
               (.cond (.t 38) (.skip) (.seq (.ops r134_9)
                 (.cond (.t 38) (.skip) (.seq (.ops r134_10)
                   (.cond (.t 38) (.skip) (.seq (.ops r134_11)
                     (.cond (.t 38) (.skip) (.seq (.ops r134_12)
                       (.cond (.t 38) (.skip) (.ops r134_13)))))))))))))))
          (.cond (.t 38) (.seq (.tops r134_14
               p134_14)
            (.ret)) (.seq (.seq (.ops r134_15)
             (.cond (.t 54) (.skip) (.seq (.ops r134_16)
               (.cond (.t 54) (.skip) (.seq (.ops r134_17)
                 (.cond (.t 54) (.skip) (.ops r134_18)))))))
            (.cond (.t 54) (.seq (.tops r134_19
                 p134_19)
              (.ret)) (.seq (.ops r134_20)
              (.cond (.t 69) (.seq (.tops r134_21
                   p134_21)
                (.ret)) (.seq (.ops r134_22)
                (.cond (.t 79) (.seq (.ops r134_23)
                  (.ret)) (.seq (.ops r134_24)
                  (.cond (.t 103) (.seq (.ops r134_25)
                    (.ret)) (.seq (.ops r134_26)
                    (.cond (.t 132) (.seq (.tops r134_27
                         p134_27)
                      (.ret)) (.seq (.ops r134_28)
                      (.cond (.t 143) (.seq (.tops r134_29
                           p134_29)
                        (.ret)) (.seq (.seq (.ops r134_30)
                         (.cond (.t 155) (.skip) (.ops r134_31)))
                        (.cond (.t 155) (.seq (.tops r134_32
                             p134_32)
                          (.ret)) (.seq (.ops r134_33)
                          (.cond (.t 172) (.seq (.tops r134_34
                               p134_34)
                            (.ret)) (.seq (.ops r134_35)
                            (.cond (.t 186) (.seq (.tops r134_36
                                 p134_36)
                              (.ret)) (.seq (.ops r134_37)
                              (.cond (.t 201) (.seq (.tops r134_38
                                   p134_38)
                                (.ret)) (.skip)))))))))))))))))))))))))))
     (.seq (.ops r134_39)
      (.ret)))))
def a134 : AFn := { res := [.tmp 2, .tmp 3], body := c134, keepA := false, keepR := false, pure := true }
theorem k134 : chkFn Tryz.prog Tryz.f134 a134 = true := by kernel_rfl

/-! lockstep/kind.value -/
def r135_0 : List AOp :=
  [⟨(some 2), none, .mov (.c (.bool false)), none⟩]
def r135_1 : List AOp :=
  [⟨(some 3), none, .mov (.t 0), none⟩,
  ⟨(some 4), none, .bin .geq (.t 3) (.c (.int .i64 1)), none⟩,
  ⟨(some 5), none, .mov (.t 4), none⟩,
  ⟨(some 6), (some (5, true)), .mov (.t 0), none⟩,
  ⟨(some 7), (some (5, true)), .bin .leq (.t 6) (.c (.int .i64 1023)), none⟩,
  ⟨(some 8), none, .pick (.t 5) (.t 7) (.c (.bool false)), none⟩,
  ⟨(some 2), none, .mov (.t 8), none⟩]
/-- lockstep/kind.value -/
def c135 : AC :=
  .seq (.ops r135_0)
  (.seq (.ops r135_1)
   (.ret))
def a135 : AFn := { res := [.tmp 2], body := c135, keepA := false, keepR := false, pure := true }
theorem k135 : chkFn Tryz.prog Tryz.f135 a135 = true := by kernel_rfl

/-! lockstep/kind.May$1 -/
def r136_0 : List AOp :=
  [⟨(some 2), none, .mov (.c (.bool false)), none⟩]
def r136_1 : List AOp :=
  [⟨(some 3), none, .mov (.t 0), none⟩,
  ⟨(some 4), none, .call 135 [.t 3], none⟩,
  ⟨(some 5), none, .un .not (.t 4), none⟩,
  ⟨(some 2), none, .mov (.t 5), none⟩]
/-- lockstep/kind.May$1 -/
def c136 : AC :=
  .seq (.ops r136_0)
  (.seq (.ops r136_1)
   (.ret))
def a136 : AFn := { res := [.tmp 2], body := c136, keepA := false, keepR := false, pure := true }
theorem k136 : chkFn Tryz.prog Tryz.f136 a136 = true := by kernel_rfl

/-! slices.AppendSeq[[]int,int] -/
def r137_0 : List AOp :=
  [⟨(some 2), none, .box false 1 (.t 0), none⟩,
  ⟨(some 4), none, .mov (.c (.lst .nil [])), none⟩]
def r137_1 : List AOp :=
  [⟨(some 6), none, .mov (.t 1), none⟩]
def r137_4 : List AOp :=
  [⟨(some 12), none, .load false 1 (.t 2), none⟩,
  ⟨(some 4), none, .mov (.t 12), none⟩]
/-- slices.AppendSeq[[]int,int] -/
def c137 : AC :=
  .seq (.ops r137_0)
  (.seq (.seq (.ops r137_1)
    (.block 0 (.bad)))
   (.seq (.ops r137_4)
    (.ret)))
def a137 : AFn := { res := [.tmp 4], body := c137, keepA := false, keepR := false, pure := false }
theorem k137 : chkFn Tryz.prog Tryz.f137 a137 = true := by kernel_rfl

/-! slices.pdqsortOrdered[int] -/
def r138_0 : List AOp :=
  [⟨(some 8), none, .mov (.c (.bool true)), none⟩]
def r138_1 : List AOp :=
  [⟨(some 9), none, .mov (.c (.bool true)), none⟩]
def r138_2 : List AOp :=
  [⟨(some 19), none, .mov (.t 2), none⟩,
  ⟨(some 20), none, .mov (.t 1), none⟩,
  ⟨(some 21), none, .bin .sub (.t 19) (.t 20), none⟩,
  ⟨(some 10), none, .mov (.t 21), none⟩]
def r138_3 : List AOp :=
  [⟨(some 22), none, .mov (.t 10), none⟩,
  ⟨(some 23), none, .bin .leq (.t 22) (.c (.int .i64 12)), none⟩]
def r138_4 : List AOp :=
  [⟨(some 24), none, .mov (.t 0), none⟩,
  ⟨(some 25), none, .mov (.t 1), none⟩,
  ⟨(some 26), none, .mov (.t 2), none⟩,
  ⟨(some 27), none, .call 147 [.t 24, .t 25, .t 26], none⟩]
def r138_5 : List AOp :=
  [⟨(some 28), none, .mov (.t 3), none⟩,
  ⟨(some 29), none, .bin .eql (.t 28) (.c (.int .i64 0)), none⟩]
def r138_6 : List AOp :=
  [⟨(some 30), none, .mov (.t 0), none⟩,
  ⟨(some 31), none, .mov (.t 1), none⟩,
  ⟨(some 32), none, .mov (.t 2), none⟩,
  ⟨(some 33), none, .call 148 [.t 30, .t 31, .t 32], none⟩]
def r138_7 : List AOp :=
  [⟨(some 34), none, .mov (.t 8), none⟩,
  ⟨(some 35), none, .un .not (.t 34), none⟩]
def r138_8 : List AOp :=
  [⟨(some 36), none, .mov (.t 0), none⟩,
  ⟨(some 37), none, .mov (.t 1), none⟩,
  ⟨(some 38), none, .mov (.t 2), none⟩,
  ⟨(some 39), none, .call 149 [.t 36, .t 37, .t 38], none⟩]
def r138_9 : List AOp :=
  [⟨(some 40), none, .mov (.t 3), none⟩,
  ⟨(some 41), none, .bin .sub (.t 40) (.c (.int .i64 1)), none⟩,
  ⟨(some 3), none, .mov (.t 41), none⟩]
def r138_10 : List AOp :=
  [⟨(some 43), none, .mov (.t 0), none⟩,
  ⟨(some 44), none, .mov (.t 1), none⟩,
  ⟨(some 45), none, .mov (.t 2), none⟩,
  ⟨(some 46), none, .call 150 [.t 43, .t 44, .t 45], none⟩,
  ⟨(some 42), none, .mov (.t 46), none⟩,
  ⟨(some 47), none, .ext (.t 42) 0, none⟩,
  ⟨(some 48), none, .ext (.t 42) 1, none⟩,
  ⟨(some 11), none, .mov (.t 47), none⟩,
  ⟨(some 12), none, .mov (.t 48), none⟩]
def r138_11 : List AOp :=
  [⟨(some 49), none, .mov (.t 12), none⟩,
  ⟨(some 50), none, .bin .eql (.t 49) (.c (.int .i64 2)), none⟩]
def r138_12 : List AOp :=
  [⟨(some 51), none, .mov (.t 0), none⟩,
  ⟨(some 52), none, .mov (.t 1), none⟩,
  ⟨(some 53), none, .mov (.t 2), none⟩,
  ⟨(some 54), none, .call 151 [.t 51, .t 52, .t 53], none⟩]
def r138_13 : List AOp :=
  [⟨(some 55), none, .mov (.t 2), none⟩,
  ⟨(some 56), none, .bin .sub (.t 55) (.c (.int .i64 1)), none⟩,
  ⟨(some 57), none, .mov (.t 11), none⟩,
  ⟨(some 58), none, .mov (.t 1), none⟩,
  ⟨(some 59), none, .bin .sub (.t 57) (.t 58), none⟩,
  ⟨(some 60), none, .bin .sub (.t 56) (.t 59), none⟩,
  ⟨(some 11), none, .mov (.t 60), none⟩]
def r138_14 : List AOp :=
  [⟨(some 12), none, .mov (.c (.int .i64 1)), none⟩]
def r138_15 : List AOp :=
  [⟨(some 61), none, .mov (.t 8), none⟩,
  ⟨(some 62), none, .mov (.t 61), none⟩,
  ⟨(some 63), (some (62, true)), .mov (.t 9), none⟩,
  ⟨(some 64), none, .pick (.t 62) (.t 63) (.c (.bool false)), none⟩,
  ⟨(some 65), none, .mov (.t 64), none⟩,
  ⟨(some 66), (some (65, true)), .mov (.t 12), none⟩,
  ⟨(some 67), (some (65, true)), .bin .eql (.t 66) (.c (.int .i64 1)), none⟩,
  ⟨(some 68), none, .pick (.t 65) (.t 67) (.c (.bool false)), none⟩]
def r138_16 : List AOp :=
  [⟨(some 69), none, .mov (.t 0), none⟩,
  ⟨(some 70), none, .mov (.t 1), none⟩,
  ⟨(some 71), none, .mov (.t 2), none⟩,
  ⟨(some 72), none, .call 152 [.t 69, .t 70, .t 71], none⟩]
def r138_17 : List AOp :=
  [⟨(some 73), none, .mov (.t 1), none⟩,
  ⟨(some 74), none, .bin .gtr (.t 73) (.c (.int .i64 0)), none⟩,
  ⟨(some 75), none, .mov (.t 74), none⟩,
  ⟨(some 76), (some (75, true)), .mov (.t 0), none⟩,
  ⟨(some 77), (some (75, true)), .mov (.t 1), none⟩,
  ⟨(some 78), (some (75, true)), .bin .sub (.t 77) (.c (.int .i64 1)), none⟩,
  ⟨(some 79), (some (75, true)), .idxS 1 (.t 76) (.t 78), (some (.t 76, .lst))⟩,
  ⟨(some 80), (some (75, true)), .load false 1 (.t 79), (some (.t 79, .imm))⟩,
  ⟨(some 81), (some (75, true)), .mov (.t 0), none⟩,
  ⟨(some 82), (some (75, true)), .mov (.t 11), none⟩,
  ⟨(some 83), (some (75, true)), .idxS 1 (.t 81) (.t 82), (some (.t 81, .lst))⟩,
  ⟨(some 84), (some (75, true)), .load false 1 (.t 83), (some (.t 83, .imm))⟩,
  ⟨(some 85), (some (75, true)), .call 153 [.t 80, .t 84], none⟩,
  ⟨(some 86), (some (75, true)), .un .not (.t 85), none⟩,
  ⟨(some 87), none, .pick (.t 75) (.t 86) (.c (.bool false)), none⟩]
def p138_17 : List (List Nat) := [[], [0], [1], [2], [2], [4, 2], [3, 5, 2], [6, 2], [2], [2], [8, 9, 2], [10, 2], [7, 11, 2, 2], [12, 2], [2, 13]]
def r138_18 : List AOp :=
  [⟨(some 88), none, .mov (.t 0), none⟩,
  ⟨(some 89), none, .mov (.t 1), none⟩,
  ⟨(some 90), none, .mov (.t 2), none⟩,
  ⟨(some 91), none, .mov (.t 11), none⟩,
  ⟨(some 92), none, .call 154 [.t 88, .t 89, .t 90, .t 91], none⟩,
  ⟨(some 13), none, .mov (.t 92), none⟩]
def r138_19 : List AOp :=
  [⟨(some 93), none, .mov (.t 13), none⟩,
  ⟨(some 1), none, .mov (.t 93), none⟩]
def r138_20 : List AOp :=
  [⟨(some 95), none, .mov (.t 0), none⟩,
  ⟨(some 96), none, .mov (.t 1), none⟩,
  ⟨(some 97), none, .mov (.t 2), none⟩,
  ⟨(some 98), none, .mov (.t 11), none⟩,
  ⟨(some 99), none, .call 155 [.t 95, .t 96, .t 97, .t 98], none⟩,
  ⟨(some 94), none, .mov (.t 99), none⟩,
  ⟨(some 100), none, .ext (.t 94) 0, none⟩,
  ⟨(some 101), none, .ext (.t 94) 1, none⟩,
  ⟨(some 14), none, .mov (.t 100), none⟩,
  ⟨(some 15), none, .mov (.t 101), none⟩]
def r138_21 : List AOp :=
  [⟨(some 102), none, .mov (.t 15), none⟩,
  ⟨(some 9), none, .mov (.t 102), none⟩]
def r138_22 : List AOp :=
  [⟨(some 103), none, .mov (.t 14), none⟩,
  ⟨(some 104), none, .mov (.t 1), none⟩,
  ⟨(some 105), none, .bin .sub (.t 103) (.t 104), none⟩,
  ⟨(some 106), none, .mov (.t 2), none⟩,
  ⟨(some 107), none, .mov (.t 14), none⟩,
  ⟨(some 108), none, .bin .sub (.t 106) (.t 107), none⟩,
  ⟨(some 16), none, .mov (.t 105), none⟩,
  ⟨(some 17), none, .mov (.t 108), none⟩]
def r138_23 : List AOp :=
  [⟨(some 109), none, .mov (.t 10), none⟩,
  ⟨(some 110), none, .bin .quo (.t 109) (.c (.int .i64 8)), none⟩,
  ⟨(some 18), none, .mov (.t 110), none⟩]
def r138_24 : List AOp :=
  [⟨(some 111), none, .mov (.t 16), none⟩,
  ⟨(some 112), none, .mov (.t 17), none⟩,
  ⟨(some 113), none, .bin .lss (.t 111) (.t 112), none⟩]
def r138_25 : List AOp :=
  [⟨(some 114), none, .mov (.t 16), none⟩,
  ⟨(some 115), none, .mov (.t 18), none⟩,
  ⟨(some 116), none, .bin .geq (.t 114) (.t 115), none⟩,
  ⟨(some 8), none, .mov (.t 116), none⟩]
def r138_26 : List AOp :=
  [⟨(some 117), none, .mov (.t 0), none⟩,
  ⟨(some 118), none, .mov (.t 1), none⟩,
  ⟨(some 119), none, .mov (.t 14), none⟩,
  ⟨(some 120), none, .mov (.t 3), none⟩,
  ⟨(some 121), none, .call 138 [.t 117, .t 118, .t 119, .t 120], none⟩]
def r138_27 : List AOp :=
  [⟨(some 122), none, .mov (.t 14), none⟩,
  ⟨(some 123), none, .bin .add (.t 122) (.c (.int .i64 1)), none⟩,
  ⟨(some 1), none, .mov (.t 123), none⟩]
def r138_28 : List AOp :=
  [⟨(some 124), none, .mov (.t 17), none⟩,
  ⟨(some 125), none, .mov (.t 18), none⟩,
  ⟨(some 126), none, .bin .geq (.t 124) (.t 125), none⟩,
  ⟨(some 8), none, .mov (.t 126), none⟩]
def r138_29 : List AOp :=
  [⟨(some 127), none, .mov (.t 0), none⟩,
  ⟨(some 128), none, .mov (.t 14), none⟩,
  ⟨(some 129), none, .bin .add (.t 128) (.c (.int .i64 1)), none⟩,
  ⟨(some 130), none, .mov (.t 2), none⟩,
  ⟨(some 131), none, .mov (.t 3), none⟩,
  ⟨(some 132), none, .call 138 [.t 127, .t 129, .t 130, .t 131], none⟩]
def r138_30 : List AOp :=
  [⟨(some 133), none, .mov (.t 14), none⟩,
  ⟨(some 2), none, .mov (.t 133), none⟩]
def l138_0 : AC :=
  .block 1 (.seq (.ops r138_2)
   (.seq (.seq (.ops r138_3)
     (.cond (.t 23) (.seq (.ops r138_4)
       (.ret)) (.skip)))
    (.seq (.seq (.ops r138_5)
      (.cond (.t 29) (.seq (.ops r138_6)
        (.ret)) (.skip)))
     (.seq (.seq (.ops r138_7)
       (.cond (.t 35) (.seq (.ops r138_8)
         (.ops r138_9)) (.skip)))
      (.seq (.ops r138_10)
       (.seq (.seq (.ops r138_11)
         (.cond (.t 50) (.seq (.ops r138_12)
           (.seq (.ops r138_13)
            (.ops r138_14))) (.skip)))
        (.seq (.seq (.ops r138_15)
          (.cond (.t 68) (.seq (.ops r138_16)
            (.cond (.t 72) (.ret) (.skip))) (.skip)))
         (.seq (.seq (.tops r138_17
              p138_17)
           (.cond (.t 87) (.seq (.ops r138_18)
             (.seq (.ops r138_19)
              (.exit 1))) (.skip)))
          (.seq (.ops r138_20)
           (.seq (.ops r138_21)
            (.seq (.ops r138_22)
             (.seq (.ops r138_23)
              (.seq (.ops r138_24)
               (.cond (.t 113) (.seq (.ops r138_25)
                 (.seq (.ops r138_26)
                  (.ops r138_27))) (.seq (.ops r138_28)
                 (.seq (.ops r138_29)
                  (.ops r138_30)))))))))))))))))
/-- slices.pdqsortOrdered[int] -/
def c138 : AC :=
  .seq (.ops r138_0)
  (.seq (.ops r138_1)
   (.block 0 (.loop l138_0)))
def a138 : AFn := { res := [], body := c138, keepA := false, keepR := false, pure := false }
theorem k138 : chkFn Tryz.prog Tryz.f138 a138 = true := by kernel_rfl

/-! math/bits.Len -/
def r139_0 : List AOp :=
  [⟨(some 2), none, .mov (.c (.int .i64 0)), none⟩]
def r139_1 : List AOp :=
  [⟨(some 3), none, .mov (.t 0), none⟩,
  ⟨(some 4), none, .conv .u32 (.t 3), none⟩,
  ⟨(some 5), none, .call 156 [.t 4], none⟩,
  ⟨(some 2), none, .mov (.t 5), none⟩]
def r139_2 : List AOp :=
  [⟨(some 6), none, .mov (.t 0), none⟩,
  ⟨(some 7), none, .call 157 [.t 6], none⟩,
  ⟨(some 2), none, .mov (.t 7), none⟩]
/-- math/bits.Len -/
def c139 : AC :=
  .seq (.ops r139_0)
  (.seq (.cond (.c (.bool false)) (.seq (.ops r139_1)
     (.ret)) (.skip))
   (.seq (.ops r139_2)
    (.ret)))
def a139 : AFn := { res := [.tmp 2], body := c139, keepA := false, keepR := false, pure := true }
theorem k139 : chkFn Tryz.prog Tryz.f139 a139 = true := by kernel_rfl

/-! slices.IndexFunc[[][]int,[]int] -/
def r140_0 : List AOp :=
  [⟨(some 4), none, .mov (.c (.int .i64 0)), none⟩]
def r140_1 : List AOp :=
  [⟨(some 6), none, .mov (.t 0), none⟩,
  ⟨(some 7), none, .len (.t 6), none⟩,
  ⟨(some 8), none, .mov (.c (.int .i64 0)), none⟩]
def r140_2 : List AOp :=
  [⟨(some 9), none, .bin .lss (.t 8) (.t 7), none⟩]
def r140_3 : List AOp :=
  [⟨(some 10), none, .mov (.t 8), none⟩,
  ⟨(some 5), none, .mov (.t 10), none⟩]
def r140_4 : List AOp :=
  [⟨(some 11), none, .mov (.t 1), none⟩,
  ⟨(some 12), none, .mov (.t 0), none⟩,
  ⟨(some 13), none, .mov (.t 5), none⟩,
  ⟨(some 14), none, .idxS 1 (.t 12) (.t 13), none⟩,
  ⟨(some 15), none, .load false 1 (.t 14), none⟩,
  ⟨(some 16), none, .calld (.t 11) [.t 15], none⟩]
def r140_5 : List AOp :=
  [⟨(some 17), none, .mov (.t 5), none⟩,
  ⟨(some 4), none, .mov (.t 17), none⟩]
def r140_6 : List AOp :=
  [⟨(some 18), none, .bin .add (.t 8) (.c (.int .i64 1)), none⟩,
  ⟨(some 8), none, .mov (.t 18), none⟩]
def l140_0 : AC :=
  .seq (.ops r140_2)
  (.seq (.cond (.t 9) (.skip) (.exit 0))
   (.seq (.block 1 (.seq (.ops r140_3)
      (.seq (.ops r140_4)
       (.cond (.t 16) (.seq (.ops r140_5)
         (.ret)) (.skip)))))
    (.ops r140_6)))
def r140_7 : List AOp :=
  [⟨(some 4), none, .mov (.c (.int .i64 (-1))), none⟩]
/-- slices.IndexFunc[[][]int,[]int] -/
def c140 : AC :=
  .seq (.ops r140_0)
  (.seq (.seq (.ops r140_1)
    (.block 0 (.loop l140_0)))
   (.seq (.ops r140_7)
    (.ret)))
def a140 : AFn := { res := [.tmp 4], body := c140, keepA := false, keepR := false, pure := true }
theorem k140 : chkFn Tryz.prog Tryz.f140 a140 = true := by kernel_rfl

/-! slices.EqualFunc[[][]int,[][]int,[]int,[]int] -/
def r141_0 : List AOp :=
  [⟨(some 6), none, .mov (.c (.bool false)), none⟩]
def r141_1 : List AOp :=
  [⟨(some 10), none, .mov (.t 0), none⟩,
  ⟨(some 11), none, .len (.t 10), none⟩,
  ⟨(some 12), none, .mov (.t 1), none⟩,
  ⟨(some 13), none, .len (.t 12), none⟩,
  ⟨(some 14), none, .bin .neq (.t 11) (.t 13), none⟩]
def r141_2 : List AOp :=
  [⟨(some 6), none, .mov (.c (.bool false)), none⟩]
def r141_3 : List AOp :=
  [⟨(some 15), none, .mov (.t 0), none⟩,
  ⟨(some 16), none, .len (.t 15), none⟩,
  ⟨(some 17), none, .mov (.c (.int .i64 0)), none⟩]
def r141_4 : List AOp :=
  [⟨(some 18), none, .bin .lss (.t 17) (.t 16), none⟩]
def r141_5 : List AOp :=
  [⟨(some 19), none, .mov (.t 17), none⟩,
  ⟨(some 20), none, .idxS 1 (.t 15) (.t 17), none⟩,
  ⟨(some 21), none, .load false 1 (.t 20), none⟩,
  ⟨(some 7), none, .mov (.t 19), none⟩,
  ⟨(some 8), none, .mov (.t 21), none⟩]
def r141_6 : List AOp :=
  [⟨(some 22), none, .mov (.t 1), none⟩,
  ⟨(some 23), none, .mov (.t 7), none⟩,
  ⟨(some 24), none, .idxS 1 (.t 22) (.t 23), none⟩,
  ⟨(some 25), none, .load false 1 (.t 24), none⟩,
  ⟨(some 9), none, .mov (.t 25), none⟩]
def r141_7 : List AOp :=
  [⟨(some 26), none, .mov (.t 2), none⟩,
  ⟨(some 27), none, .mov (.t 8), none⟩,
  ⟨(some 28), none, .mov (.t 9), none⟩,
  ⟨(some 29), none, .calld (.t 26) [.t 27, .t 28], none⟩,
  ⟨(some 30), none, .un .not (.t 29), none⟩]
def r141_8 : List AOp :=
  [⟨(some 6), none, .mov (.c (.bool false)), none⟩]
def r141_9 : List AOp :=
  [⟨(some 31), none, .bin .add (.t 17) (.c (.int .i64 1)), none⟩,
  ⟨(some 17), none, .mov (.t 31), none⟩]
def l141_0 : AC :=
  .seq (.ops r141_4)
  (.seq (.cond (.t 18) (.skip) (.exit 0))
   (.seq (.block 1 (.seq (.ops r141_5)
      (.seq (.ops r141_6)
       (.seq (.ops r141_7)
        (.cond (.t 30) (.seq (.ops r141_8)
          (.ret)) (.skip))))))
    (.ops r141_9)))
def r141_10 : List AOp :=
  [⟨(some 6), none, .mov (.c (.bool true)), none⟩]
/-- slices.EqualFunc[[][]int,[][]int,[]int,[]int] -/
def c141 : AC :=
  .seq (.ops r141_0)
  (.seq (.seq (.ops r141_1)
    (.cond (.t 14) (.seq (.ops r141_2)
      (.ret)) (.skip)))
   (.seq (.seq (.ops r141_3)
     (.block 0 (.loop l141_0)))
    (.seq (.ops r141_10)
     (.ret))))
def a141 : AFn := { res := [.tmp 6], body := c141, keepA := false, keepR := false, pure := true }
theorem k141 : chkFn Tryz.prog Tryz.f141 a141 = true := by kernel_rfl

/-! math/bits.Mul32 -/
def r142_0 : List AOp :=
  [⟨(some 4), none, .mov (.c (.int .u32 0)), none⟩,
  ⟨(some 5), none, .mov (.c (.int .u32 0)), none⟩]
def r142_1 : List AOp :=
  [⟨(some 7), none, .mov (.t 0), none⟩,
  ⟨(some 8), none, .conv .u64 (.t 7), none⟩,
  ⟨(some 9), none, .mov (.t 1), none⟩,
  ⟨(some 10), none, .conv .u64 (.t 9), none⟩,
  ⟨(some 11), none, .bin .mul (.t 8) (.t 10), none⟩,
  ⟨(some 6), none, .mov (.t 11), none⟩]
def r142_2 : List AOp :=
  [⟨(some 12), none, .mov (.t 6), none⟩,
  ⟨(some 13), none, .bin .shr (.t 12) (.c (.int .u64 32)), none⟩,
  ⟨(some 14), none, .conv .u32 (.t 13), none⟩,
  ⟨(some 15), none, .mov (.t 6), none⟩,
  ⟨(some 16), none, .conv .u32 (.t 15), none⟩,
  ⟨(some 4), none, .mov (.t 14), none⟩,
  ⟨(some 5), none, .mov (.t 16), none⟩]
/-- math/bits.Mul32 -/
def c142 : AC :=
  .seq (.ops r142_0)
  (.seq (.ops r142_1)
   (.seq (.ops r142_2)
    (.ret)))
def a142 : AFn := { res := [.tmp 4, .tmp 5], body := c142, keepA := false, keepR := false, pure := true }
theorem k142 : chkFn Tryz.prog Tryz.f142 a142 = true := by kernel_rfl

/-! math/bits.Mul64 -/
def r143_0 : List AOp :=
  [⟨(some 4), none, .mov (.c (.int .u64 0)), none⟩,
  ⟨(some 5), none, .mov (.c (.int .u64 0)), none⟩]
def r143_1 : List AOp :=
  [⟨(some 14), none, .mov (.t 0), none⟩,
  ⟨(some 15), none, .bin .and (.t 14) (.c (.int .u64 4294967295)), none⟩,
  ⟨(some 6), none, .mov (.t 15), none⟩]
def r143_2 : List AOp :=
  [⟨(some 16), none, .mov (.t 0), none⟩,
  ⟨(some 17), none, .bin .shr (.t 16) (.c (.int .u64 32)), none⟩,
  ⟨(some 7), none, .mov (.t 17), none⟩]
def r143_3 : List AOp :=
  [⟨(some 18), none, .mov (.t 1), none⟩,
  ⟨(some 19), none, .bin .and (.t 18) (.c (.int .u64 4294967295)), none⟩,
  ⟨(some 8), none, .mov (.t 19), none⟩]
def r143_4 : List AOp :=
  [⟨(some 20), none, .mov (.t 1), none⟩,
  ⟨(some 21), none, .bin .shr (.t 20) (.c (.int .u64 32)), none⟩,
  ⟨(some 9), none, .mov (.t 21), none⟩]
def r143_5 : List AOp :=
  [⟨(some 22), none, .mov (.t 6), none⟩,
  ⟨(some 23), none, .mov (.t 8), none⟩,
  ⟨(some 24), none, .bin .mul (.t 22) (.t 23), none⟩,
  ⟨(some 10), none, .mov (.t 24), none⟩]
def r143_6 : List AOp :=
  [⟨(some 25), none, .mov (.t 7), none⟩,
  ⟨(some 26), none, .mov (.t 8), none⟩,
  ⟨(some 27), none, .bin .mul (.t 25) (.t 26), none⟩,
  ⟨(some 28), none, .mov (.t 10), none⟩,
  ⟨(some 29), none, .bin .shr (.t 28) (.c (.int .u64 32)), none⟩,
  ⟨(some 30), none, .bin .add (.t 27) (.t 29), none⟩,
  ⟨(some 11), none, .mov (.t 30), none⟩]
def r143_7 : List AOp :=
  [⟨(some 31), none, .mov (.t 11), none⟩,
  ⟨(some 32), none, .bin .and (.t 31) (.c (.int .u64 4294967295)), none⟩,
  ⟨(some 12), none, .mov (.t 32), none⟩]
def r143_8 : List AOp :=
  [⟨(some 33), none, .mov (.t 11), none⟩,
  ⟨(some 34), none, .bin .shr (.t 33) (.c (.int .u64 32)), none⟩,
  ⟨(some 13), none, .mov (.t 34), none⟩]
def r143_9 : List AOp :=
  [⟨(some 35), none, .mov (.t 12), none⟩,
  ⟨(some 36), none, .mov (.t 6), none⟩,
  ⟨(some 37), none, .mov (.t 9), none⟩,
  ⟨(some 38), none, .bin .mul (.t 36) (.t 37), none⟩,
  ⟨(some 39), none, .bin .add (.t 35) (.t 38), none⟩,
  ⟨(some 12), none, .mov (.t 39), none⟩]
def r143_10 : List AOp :=
  [⟨(some 40), none, .mov (.t 7), none⟩,
  ⟨(some 41), none, .mov (.t 9), none⟩,
  ⟨(some 42), none, .bin .mul (.t 40) (.t 41), none⟩,
  ⟨(some 43), none, .mov (.t 13), none⟩,
  ⟨(some 44), none, .bin .add (.t 42) (.t 43), none⟩,
  ⟨(some 45), none, .mov (.t 12), none⟩,
  ⟨(some 46), none, .bin .shr (.t 45) (.c (.int .u64 32)), none⟩,
  ⟨(some 47), none, .bin .add (.t 44) (.t 46), none⟩,
  ⟨(some 4), none, .mov (.t 47), none⟩]
def r143_11 : List AOp :=
  [⟨(some 48), none, .mov (.t 0), none⟩,
  ⟨(some 49), none, .mov (.t 1), none⟩,
  ⟨(some 50), none, .bin .mul (.t 48) (.t 49), none⟩,
  ⟨(some 5), none, .mov (.t 50), none⟩]
/-- math/bits.Mul64 -/
def c143 : AC :=
  .seq (.ops r143_0)
  (.seq (.ops r143_1)
   (.seq (.ops r143_2)
    (.seq (.ops r143_3)
     (.seq (.ops r143_4)
      (.seq (.ops r143_5)
       (.seq (.ops r143_6)
        (.seq (.ops r143_7)
         (.seq (.ops r143_8)
          (.seq (.ops r143_9)
           (.seq (.ops r143_10)
            (.seq (.ops r143_11)
             (.ret))))))))))))
def a143 : AFn := { res := [.tmp 4, .tmp 5], body := c143, keepA := false, keepR := false, pure := true }
theorem k143 : chkFn Tryz.prog Tryz.f143 a143 = true := by kernel_rfl

/-! lockstep/word.Cut -/
def r144_0 : List AOp :=
  [⟨(some 4), none, .mov (.c (.int .u64 0)), none⟩]
def r144_1 : List AOp :=
  [⟨(some 5), none, .mov (.t 1), none⟩,
  ⟨(some 6), none, .call 79 [.t 5], none⟩,
  ⟨(some 7), none, .un .not (.t 6), none⟩]
def r144_2 : List AOp :=
  [⟨(some 4), none, .mov (.c (.int .u64 0)), none⟩]
def r144_3 : List AOp :=
  [⟨(some 8), none, .mov (.t 0), none⟩,
  ⟨(some 9), none, .mov (.t 1), none⟩,
  ⟨(some 10), none, .bin .sub (.c (.int .i64 64)) (.t 9), none⟩,
  ⟨(some 11), none, .bin .shl (.t 8) (.t 10), none⟩,
  ⟨(some 12), none, .mov (.t 1), none⟩,
  ⟨(some 13), none, .bin .sub (.c (.int .i64 64)) (.t 12), none⟩,
  ⟨(some 14), none, .bin .shr (.t 11) (.t 13), none⟩,
  ⟨(some 4), none, .mov (.t 14), none⟩]
/-- lockstep/word.Cut -/
def c144 : AC :=
  .seq (.ops r144_0)
  (.seq (.seq (.ops r144_1)
    (.cond (.t 7) (.seq (.ops r144_2)
      (.ret)) (.skip)))
   (.seq (.ops r144_3)
    (.ret)))
def a144 : AFn := { res := [.tmp 4], body := c144, keepA := false, keepR := false, pure := true }
theorem k144 : chkFn Tryz.prog Tryz.f144 a144 = true := by kernel_rfl

/-! lockstep/kind.row -/
def r145_0 : List AOp :=
  [⟨(some 2), none, .mov (.c (.lst .nil [])), none⟩]
def r145_1 : List AOp :=
  [⟨(some 3), none, .mov (.t 0), none⟩,
  ⟨(some 2), none, .mov (.t 3), none⟩]
/-- lockstep/kind.row -/
def c145 : AC :=
  .seq (.ops r145_0)
  (.seq (.ops r145_1)
   (.ret))
def a145 : AFn := { res := [.tmp 2], body := c145, keepA := false, keepR := false, pure := true }
theorem k145 : chkFn Tryz.prog Tryz.f145 a145 = true := by kernel_rfl

/-! slices.Repeat[[][2]int,[2]int] -/
def r146_0 : List AOp :=
  [⟨(some 4), none, .mov (.c (.lst .nil [])), none⟩]
def r146_1 : List AOp :=
  [⟨(some 9), none, .mov (.t 1), none⟩,
  ⟨(some 10), none, .bin .lss (.t 9) (.c (.int .i64 0)), none⟩]
def r146_2 : List AOp :=
  [⟨(some 11), none, .bad, none⟩,
  ⟨none, none, .bad, none⟩]
def r146_3 : List AOp :=
  [⟨(some 13), none, .mov (.t 0), none⟩,
  ⟨(some 14), none, .len (.t 13), none⟩,
  ⟨(some 15), none, .conv .u64 (.t 14), none⟩,
  ⟨(some 16), none, .mov (.t 1), none⟩,
  ⟨(some 17), none, .conv .u64 (.t 16), none⟩,
  ⟨(some 18), none, .call 129 [.t 15, .t 17], none⟩,
  ⟨(some 12), none, .mov (.t 18), none⟩,
  ⟨(some 19), none, .ext (.t 12) 0, none⟩,
  ⟨(some 20), none, .ext (.t 12) 1, none⟩,
  ⟨(some 5), none, .mov (.t 19), none⟩,
  ⟨(some 6), none, .mov (.t 20), none⟩]
def r146_4 : List AOp :=
  [⟨(some 21), none, .mov (.t 5), none⟩,
  ⟨(some 22), none, .bin .gtr (.t 21) (.c (.int .u64 0)), none⟩,
  ⟨(some 23), none, .mov (.t 22), none⟩,
  ⟨(some 24), (some (23, false)), .mov (.t 6), none⟩,
  ⟨(some 25), (some (23, false)), .bin .gtr (.t 24) (.c (.int .u64 9223372036854775807)), none⟩,
  ⟨(some 26), none, .pick (.t 23) (.c (.bool true)) (.t 25), none⟩]
def r146_5 : List AOp :=
  [⟨(some 27), none, .bad, none⟩,
  ⟨none, none, .bad, none⟩]
def r146_6 : List AOp :=
  [⟨(some 28), none, .mov (.t 6), none⟩,
  ⟨(some 29), none, .conv .i64 (.t 28), none⟩,
  ⟨(some 30), none, .mkslice true 2 16 [.int .i64 0, .int .i64 0] (.t 29) (.t 29), none⟩,
  ⟨(some 7), none, .mov (.t 30), none⟩]
def r146_7 : List AOp :=
  [⟨(some 31), none, .mov (.t 7), none⟩,
  ⟨(some 32), none, .mov (.t 0), none⟩,
  ⟨(some 33), none, .copy 2 (.t 31) (.t 32), none⟩,
  ⟨(some 8), none, .mov (.t 33), none⟩]
def r146_8 : List AOp :=
  [⟨(some 34), none, .mov (.t 8), none⟩,
  ⟨(some 35), none, .mov (.t 7), none⟩,
  ⟨(some 36), none, .len (.t 35), none⟩,
  ⟨(some 37), none, .bin .lss (.t 34) (.t 36), none⟩]
def r146_9 : List AOp :=
  [⟨(some 38), none, .mov (.t 8), none⟩,
  ⟨(some 39), none, .mov (.t 7), none⟩,
  ⟨(some 40), none, .mov (.t 8), none⟩,
  ⟨(some 41), none, .slice 2 (.t 39) (some (.t 40)) none none, (some (.t 39, .lst))⟩,
  ⟨(some 42), none, .mov (.t 7), none⟩,
  ⟨(some 43), none, .mov (.t 8), none⟩,
  ⟨(some 44), none, .slice 2 (.t 42) none (some (.t 43)) none, (some (.t 42, .lst))⟩,
  ⟨(some 45), none, .copy 2 (.t 41) (.t 44), none⟩,
  ⟨(some 46), none, .bin .add (.t 38) (.t 45), none⟩,
  ⟨(some 8), none, .mov (.t 46), none⟩]
def p146_9 : List (List Nat) := [[], [], [], [1, 2], [], [], [4, 5], [3, 6], [0, 7], [8, 7, 0, 1, 2, 3, 4, 5, 6, 7, 8]]
def l146_0 : AC :=
  .seq (.seq (.ops r146_8)
   (.cond (.t 37) (.skip) (.exit 0)))
  (.block 1 (.tops r146_9
      p146_9))
def r146_10 : List AOp :=
  [⟨(some 47), none, .mov (.t 7), none⟩,
  ⟨(some 4), none, .mov (.t 47), none⟩]
/-- slices.Repeat[[][2]int,[2]int] -/
def c146 : AC :=
  .seq (.ops r146_0)
  (.seq (.seq (.ops r146_1)
    (.cond (.t 10) (.ops r146_2) (.skip)))
   (.seq (.ops r146_3)
    (.seq (.seq (.ops r146_4)
      (.cond (.t 26) (.ops r146_5) (.skip)))
     (.seq (.ops r146_6)
      (.seq (.ops r146_7)
       (.seq (.block 0 (.loop l146_0))
        (.seq (.ops r146_10)
         (.ret))))))))
def a146 : AFn := { res := [.tmp 4], body := c146, keepA := false, keepR := false, pure := true }
theorem k146 : chkFn Tryz.prog Tryz.f146 a146 = true := by kernel_rfl

/-! slices.insertionSortOrdered[int] -/
def r147_0 : List AOp :=
  [⟨(some 8), none, .mov (.t 1), none⟩,
  ⟨(some 9), none, .bin .add (.t 8) (.c (.int .i64 1)), none⟩,
  ⟨(some 6), none, .mov (.t 9), none⟩]
def r147_1 : List AOp :=
  [⟨(some 10), none, .mov (.t 6), none⟩,
  ⟨(some 11), none, .mov (.t 2), none⟩,
  ⟨(some 12), none, .bin .lss (.t 10) (.t 11), none⟩]
def r147_3 : List AOp :=
  [⟨(some 15), none, .mov (.t 6), none⟩,
  ⟨(some 7), none, .mov (.t 15), none⟩]
def r147_4 : List AOp :=
  [⟨(some 16), none, .mov (.t 7), none⟩,
  ⟨(some 17), none, .mov (.t 1), none⟩,
  ⟨(some 18), none, .bin .gtr (.t 16) (.t 17), none⟩,
  ⟨(some 19), none, .mov (.t 18), none⟩,
  ⟨(some 20), (some (19, true)), .mov (.t 0), none⟩,
  ⟨(some 21), (some (19, true)), .mov (.t 7), none⟩,
  ⟨(some 22), (some (19, true)), .idxS 1 (.t 20) (.t 21), (some (.t 20, .lst))⟩,
  ⟨(some 23), (some (19, true)), .load false 1 (.t 22), (some (.t 22, .imm))⟩,
  ⟨(some 24), (some (19, true)), .mov (.t 0), none⟩,
  ⟨(some 25), (some (19, true)), .mov (.t 7), none⟩,
  ⟨(some 26), (some (19, true)), .bin .sub (.t 25) (.c (.int .i64 1)), none⟩,
  ⟨(some 27), (some (19, true)), .idxS 1 (.t 24) (.t 26), (some (.t 24, .lst))⟩,
  ⟨(some 28), (some (19, true)), .load false 1 (.t 27), (some (.t 27, .imm))⟩,
  ⟨(some 29), (some (19, true)), .call 153 [.t 23, .t 28], none⟩,
  ⟨(some 30), none, .pick (.t 19) (.t 29) (.c (.bool false)), none⟩]
def p147_4 : List (List Nat) := [[], [], [0, 1], [2], [3], [3], [4, 5, 3], [6, 3], [3], [3], [9, 3], [8, 10, 3], [11, 3], [7, 12, 3, 3], [3, 13]]
def r147_6 : List AOp :=
  [⟨(some 33), none, .mov (.t 0), none⟩,
  ⟨(some 34), none, .mov (.t 7), none⟩,
  ⟨(some 35), none, .mov (.t 0), none⟩,
  ⟨(some 36), none, .mov (.t 7), none⟩,
  ⟨(some 37), none, .bin .sub (.t 36) (.c (.int .i64 1)), none⟩,
  ⟨(some 38), none, .mov (.t 0), none⟩,
  ⟨(some 39), none, .mov (.t 7), none⟩,
  ⟨(some 40), none, .bin .sub (.t 39) (.c (.int .i64 1)), none⟩,
  ⟨(some 41), none, .idxS 1 (.t 38) (.t 40), (some (.t 38, .lst))⟩,
  ⟨(some 42), none, .load false 1 (.t 41), (some (.t 41, .imm))⟩,
  ⟨(some 43), none, .mov (.t 0), none⟩,
  ⟨(some 44), none, .mov (.t 7), none⟩,
  ⟨(some 45), none, .idxS 1 (.t 43) (.t 44), (some (.t 43, .lst))⟩,
  ⟨(some 46), none, .load false 1 (.t 45), (some (.t 45, .imm))⟩,
  ⟨(some 47), none, .idxS 1 (.t 33) (.t 34), (some (.t 33, .lst))⟩,
  ⟨none, none, .store 1 (.t 47) (.t 42), none⟩,
  ⟨(some 48), none, .idxS 1 (.t 35) (.t 37), (some (.t 35, .lst))⟩,
  ⟨none, none, .store 1 (.t 48) (.t 46), none⟩]
def p147_6 : List (List Nat) := [[], [], [], [], [3], [], [], [6], [5, 7], [8], [], [], [10, 11], [12], [0, 1, 0, 1, 5, 6, 7, 8, 9, 13], [14, 9, 0, 1, 5, 6, 7, 8, 9, 13], [2, 4, 0, 1, 2, 3, 4, 5, 6, 7, 8, 9, 10, 11, 12, 13, 14, 15], [16, 13, 15, 0, 1, 2, 3, 4, 5, 6, 7, 8, 9, 10, 11, 12, 13, 14, 15]]
def r147_5 : List AOp :=
  [⟨(some 31), none, .mov (.t 7), none⟩,
  ⟨(some 32), none, .bin .sub (.t 31) (.c (.int .i64 1)), none⟩,
  ⟨(some 7), none, .mov (.t 32), none⟩]
def l147_1 : AC :=
  .seq (.seq (.tops r147_4
      p147_4)
   (.cond (.t 30) (.skip) (.exit 2)))
  (.seq (.block 3 (.tops r147_6
       p147_6))
   (.ops r147_5))
def r147_2 : List AOp :=
  [⟨(some 13), none, .mov (.t 6), none⟩,
  ⟨(some 14), none, .bin .add (.t 13) (.c (.int .i64 1)), none⟩,
  ⟨(some 6), none, .mov (.t 14), none⟩]
def l147_0 : AC :=
  .seq (.seq (.ops r147_1)
   (.cond (.t 12) (.skip) (.exit 0)))
  (.seq (.block 1 (.seq (.ops r147_3)
     (.block 2 (.loop l147_1))))
   (.ops r147_2))
/-- slices.insertionSortOrdered[int] -/
def c147 : AC :=
  .seq (.ops r147_0)
  (.block 0 (.loop l147_0))
def a147 : AFn := { res := [], body := c147, keepA := false, keepR := false, pure := false }
theorem k147 : chkFn Tryz.prog Tryz.f147 a147 = true := by kernel_rfl

/-! slices.heapSortOrdered[int] -/
def r148_0 : List AOp :=
  [⟨(some 11), none, .mov (.t 1), none⟩,
  ⟨(some 6), none, .mov (.t 11), none⟩]
def r148_1 : List AOp :=
  [⟨(some 7), none, .mov (.c (.int .i64 0)), none⟩]
def r148_2 : List AOp :=
  [⟨(some 12), none, .mov (.t 2), none⟩,
  ⟨(some 13), none, .mov (.t 1), none⟩,
  ⟨(some 14), none, .bin .sub (.t 12) (.t 13), none⟩,
  ⟨(some 8), none, .mov (.t 14), none⟩]
def r148_3 : List AOp :=
  [⟨(some 15), none, .mov (.t 8), none⟩,
  ⟨(some 16), none, .bin .sub (.t 15) (.c (.int .i64 1)), none⟩,
  ⟨(some 17), none, .bin .quo (.t 16) (.c (.int .i64 2)), none⟩,
  ⟨(some 9), none, .mov (.t 17), none⟩]
def r148_4 : List AOp :=
  [⟨(some 18), none, .mov (.t 9), none⟩,
  ⟨(some 19), none, .bin .geq (.t 18) (.c (.int .i64 0)), none⟩]
def r148_6 : List AOp :=
  [⟨(some 22), none, .mov (.t 0), none⟩,
  ⟨(some 23), none, .mov (.t 9), none⟩,
  ⟨(some 24), none, .mov (.t 8), none⟩,
  ⟨(some 25), none, .mov (.t 6), none⟩,
  ⟨(some 26), none, .call 158 [.t 22, .t 23, .t 24, .t 25], none⟩]
def r148_5 : List AOp :=
  [⟨(some 20), none, .mov (.t 9), none⟩,
  ⟨(some 21), none, .bin .sub (.t 20) (.c (.int .i64 1)), none⟩,
  ⟨(some 9), none, .mov (.t 21), none⟩]
def l148_0 : AC :=
  .seq (.seq (.ops r148_4)
   (.cond (.t 19) (.skip) (.exit 0)))
  (.seq (.block 1 (.ops r148_6))
   (.ops r148_5))
def r148_7 : List AOp :=
  [⟨(some 27), none, .mov (.t 8), none⟩,
  ⟨(some 28), none, .bin .sub (.t 27) (.c (.int .i64 1)), none⟩,
  ⟨(some 10), none, .mov (.t 28), none⟩]
def r148_8 : List AOp :=
  [⟨(some 29), none, .mov (.t 10), none⟩,
  ⟨(some 30), none, .bin .geq (.t 29) (.c (.int .i64 0)), none⟩]
def r148_10 : List AOp :=
  [⟨(some 33), none, .mov (.t 0), none⟩,
  ⟨(some 34), none, .mov (.t 6), none⟩,
  ⟨(some 35), none, .mov (.t 0), none⟩,
  ⟨(some 36), none, .mov (.t 6), none⟩,
  ⟨(some 37), none, .mov (.t 10), none⟩,
  ⟨(some 38), none, .bin .add (.t 36) (.t 37), none⟩,
  ⟨(some 39), none, .mov (.t 0), none⟩,
  ⟨(some 40), none, .mov (.t 6), none⟩,
  ⟨(some 41), none, .mov (.t 10), none⟩,
  ⟨(some 42), none, .bin .add (.t 40) (.t 41), none⟩,
  ⟨(some 43), none, .idxS 1 (.t 39) (.t 42), (some (.t 39, .lst))⟩,
  ⟨(some 44), none, .load false 1 (.t 43), (some (.t 43, .imm))⟩,
  ⟨(some 45), none, .mov (.t 0), none⟩,
  ⟨(some 46), none, .mov (.t 6), none⟩,
  ⟨(some 47), none, .idxS 1 (.t 45) (.t 46), (some (.t 45, .lst))⟩,
  ⟨(some 48), none, .load false 1 (.t 47), (some (.t 47, .imm))⟩,
  ⟨(some 49), none, .idxS 1 (.t 33) (.t 34), (some (.t 33, .lst))⟩,
  ⟨none, none, .store 1 (.t 49) (.t 44), none⟩,
  ⟨(some 50), none, .idxS 1 (.t 35) (.t 38), (some (.t 35, .lst))⟩,
  ⟨none, none, .store 1 (.t 50) (.t 48), none⟩]
def p148_10 : List (List Nat) := [[], [], [], [], [], [3, 4], [], [], [], [7, 8], [6, 9], [10], [], [], [12, 13], [14], [0, 1, 0, 1, 6, 7, 8, 9, 10, 11, 15], [16, 11, 0, 1, 6, 7, 8, 9, 10, 11, 15], [2, 5, 0, 1, 2, 3, 4, 5, 6, 7, 8, 9, 10, 11, 12, 13, 14, 15, 16, 17], [18, 15, 17, 0, 1, 2, 3, 4, 5, 6, 7, 8, 9, 10, 11, 12, 13, 14, 15, 16, 17]]
def r148_11 : List AOp :=
  [⟨(some 51), none, .mov (.t 0), none⟩,
  ⟨(some 52), none, .mov (.t 7), none⟩,
  ⟨(some 53), none, .mov (.t 10), none⟩,
  ⟨(some 54), none, .mov (.t 6), none⟩,
  ⟨(some 55), none, .call 158 [.t 51, .t 52, .t 53, .t 54], none⟩]
def r148_9 : List AOp :=
  [⟨(some 31), none, .mov (.t 10), none⟩,
  ⟨(some 32), none, .bin .sub (.t 31) (.c (.int .i64 1)), none⟩,
  ⟨(some 10), none, .mov (.t 32), none⟩]
def l148_1 : AC :=
  .seq (.seq (.ops r148_8)
   (.cond (.t 30) (.skip) (.exit 2)))
  (.seq (.block 3 (.seq (.tops r148_10
        p148_10)
     (.ops r148_11)))
   (.ops r148_9))
/-- slices.heapSortOrdered[int] -/
def c148 : AC :=
  .seq (.ops r148_0)
  (.seq (.ops r148_1)
   (.seq (.ops r148_2)
    (.seq (.seq (.ops r148_3)
      (.block 0 (.loop l148_0)))
     (.seq (.ops r148_7)
      (.block 2 (.loop l148_1))))))
def a148 : AFn := { res := [], body := c148, keepA := false, keepR := false, pure := false }
theorem k148 : chkFn Tryz.prog Tryz.f148 a148 = true := by kernel_rfl

/-! slices.breakPatternsOrdered[int] -/
def r149_0 : List AOp :=
  [⟨(some 11), none, .mov (.t 2), none⟩,
  ⟨(some 12), none, .mov (.t 1), none⟩,
  ⟨(some 13), none, .bin .sub (.t 11) (.t 12), none⟩,
  ⟨(some 6), none, .mov (.t 13), none⟩]
def r149_1 : List AOp :=
  [⟨(some 14), none, .mov (.t 6), none⟩,
  ⟨(some 15), none, .bin .geq (.t 14) (.c (.int .i64 8)), none⟩]
def r149_2 : List AOp :=
  [⟨(some 16), none, .mov (.t 6), none⟩,
  ⟨(some 17), none, .conv .u64 (.t 16), none⟩,
  ⟨(some 7), none, .alloc true [.int .u64 0], none⟩,
  ⟨none, none, .store 1 (.t 7) (.t 17), none⟩]
def r149_3 : List AOp :=
  [⟨(some 18), none, .mov (.t 6), none⟩,
  ⟨(some 19), none, .call 159 [.t 18], none⟩,
  ⟨(some 8), none, .mov (.t 19), none⟩]
def r149_4 : List AOp :=
  [⟨(some 20), none, .mov (.t 1), none⟩,
  ⟨(some 21), none, .mov (.t 6), none⟩,
  ⟨(some 22), none, .bin .quo (.t 21) (.c (.int .i64 4)), none⟩,
  ⟨(some 23), none, .bin .mul (.t 22) (.c (.int .i64 2)), none⟩,
  ⟨(some 24), none, .bin .add (.t 20) (.t 23), none⟩,
  ⟨(some 25), none, .bin .sub (.t 24) (.c (.int .i64 1)), none⟩,
  ⟨(some 9), none, .mov (.t 25), none⟩]
def r149_5 : List AOp :=
  [⟨(some 26), none, .mov (.t 9), none⟩,
  ⟨(some 27), none, .mov (.t 1), none⟩,
  ⟨(some 28), none, .mov (.t 6), none⟩,
  ⟨(some 29), none, .bin .quo (.t 28) (.c (.int .i64 4)), none⟩,
  ⟨(some 30), none, .bin .mul (.t 29) (.c (.int .i64 2)), none⟩,
  ⟨(some 31), none, .bin .add (.t 27) (.t 30), none⟩,
  ⟨(some 32), none, .bin .add (.t 31) (.c (.int .i64 1)), none⟩,
  ⟨(some 33), none, .bin .leq (.t 26) (.t 32), none⟩]
def r149_7 : List AOp :=
  [⟨(some 36), none, .call 160 [.t 7], none⟩,
  ⟨(some 37), none, .mov (.t 8), none⟩,
  ⟨(some 38), none, .bin .sub (.t 37) (.c (.int .u64 1)), none⟩,
  ⟨(some 39), none, .bin .and (.t 36) (.t 38), none⟩,
  ⟨(some 40), none, .conv .i64 (.t 39), none⟩,
  ⟨(some 10), none, .mov (.t 40), none⟩]
def r149_8 : List AOp :=
  [⟨(some 41), none, .mov (.t 10), none⟩,
  ⟨(some 42), none, .mov (.t 6), none⟩,
  ⟨(some 43), none, .bin .geq (.t 41) (.t 42), none⟩]
def r149_9 : List AOp :=
  [⟨(some 44), none, .mov (.t 10), none⟩,
  ⟨(some 45), none, .mov (.t 6), none⟩,
  ⟨(some 46), none, .bin .sub (.t 44) (.t 45), none⟩,
  ⟨(some 10), none, .mov (.t 46), none⟩]
def r149_10 : List AOp :=
  [⟨(some 47), none, .mov (.t 0), none⟩,
  ⟨(some 48), none, .mov (.t 9), none⟩,
  ⟨(some 49), none, .mov (.t 0), none⟩,
  ⟨(some 50), none, .mov (.t 1), none⟩,
  ⟨(some 51), none, .mov (.t 10), none⟩,
  ⟨(some 52), none, .bin .add (.t 50) (.t 51), none⟩,
  ⟨(some 53), none, .mov (.t 0), none⟩,
  ⟨(some 54), none, .mov (.t 1), none⟩,
  ⟨(some 55), none, .mov (.t 10), none⟩,
  ⟨(some 56), none, .bin .add (.t 54) (.t 55), none⟩,
  ⟨(some 57), none, .idxS 1 (.t 53) (.t 56), (some (.t 53, .lst))⟩,
  ⟨(some 58), none, .load false 1 (.t 57), (some (.t 57, .imm))⟩,
  ⟨(some 59), none, .mov (.t 0), none⟩,
  ⟨(some 60), none, .mov (.t 9), none⟩,
  ⟨(some 61), none, .idxS 1 (.t 59) (.t 60), (some (.t 59, .lst))⟩,
  ⟨(some 62), none, .load false 1 (.t 61), (some (.t 61, .imm))⟩,
  ⟨(some 63), none, .idxS 1 (.t 47) (.t 48), (some (.t 47, .lst))⟩,
  ⟨none, none, .store 1 (.t 63) (.t 58), none⟩,
  ⟨(some 64), none, .idxS 1 (.t 49) (.t 52), (some (.t 49, .lst))⟩,
  ⟨none, none, .store 1 (.t 64) (.t 62), none⟩]
def p149_10 : List (List Nat) := [[], [], [], [], [], [3, 4], [], [], [], [7, 8], [6, 9], [10], [], [], [12, 13], [14], [0, 1, 0, 1, 6, 7, 8, 9, 10, 11, 15], [16, 11, 0, 1, 6, 7, 8, 9, 10, 11, 15], [2, 5, 0, 1, 2, 3, 4, 5, 6, 7, 8, 9, 10, 11, 12, 13, 14, 15, 16, 17], [18, 15, 17, 0, 1, 2, 3, 4, 5, 6, 7, 8, 9, 10, 11, 12, 13, 14, 15, 16, 17]]
def r149_6 : List AOp :=
  [⟨(some 34), none, .mov (.t 9), none⟩,
  ⟨(some 35), none, .bin .add (.t 34) (.c (.int .i64 1)), none⟩,
  ⟨(some 9), none, .mov (.t 35), none⟩]
def l149_0 : AC :=
  .seq (.seq (.ops r149_5)
   (.cond (.t 33) (.skip) (.exit 0)))
  (.seq (.block 1 (.seq (.ops r149_7)
     (.seq (.seq (.ops r149_8)
       (.cond (.t 43) (.ops r149_9) (.skip)))
      (.tops r149_10
         p149_10))))
   (.ops r149_6))
/-- slices.breakPatternsOrdered[int] -/
def c149 : AC :=
  .seq (.ops r149_0)
  (.seq (.ops r149_1)
   (.cond (.t 15) (.seq (.ops r149_2)
     (.seq (.ops r149_3)
      (.seq (.ops r149_4)
       (.block 0 (.loop l149_0))))) (.skip)))
def a149 : AFn := { res := [], body := c149, keepA := false, keepR := false, pure := false }
theorem k149 : chkFn Tryz.prog Tryz.f149 a149 = true := by kernel_rfl

/-! slices.choosePivotOrdered[int] -/
def r150_0 : List AOp :=
  [⟨(some 6), none, .mov (.c (.int .i64 0)), none⟩,
  ⟨(some 7), none, .mov (.c (.int .i64 0)), none⟩]
def r150_1 : List AOp :=
  [⟨(some 13), none, .mov (.t 2), none⟩,
  ⟨(some 14), none, .mov (.t 1), none⟩,
  ⟨(some 15), none, .bin .sub (.t 13) (.t 14), none⟩,
  ⟨(some 8), none, .mov (.t 15), none⟩]
def r150_2 : List AOp :=
  [⟨(some 9), none, .alloc true [.int .i64 0], none⟩]
def r150_3 : List AOp :=
  [⟨(some 16), none, .mov (.t 1), none⟩,
  ⟨(some 17), none, .mov (.t 8), none⟩,
  ⟨(some 18), none, .bin .quo (.t 17) (.c (.int .i64 4)), none⟩,
  ⟨(some 19), none, .bin .mul (.t 18) (.c (.int .i64 1)), none⟩,
  ⟨(some 20), none, .bin .add (.t 16) (.t 19), none⟩,
  ⟨(some 10), none, .mov (.t 20), none⟩]
def r150_4 : List AOp :=
  [⟨(some 21), none, .mov (.t 1), none⟩,
  ⟨(some 22), none, .mov (.t 8), none⟩,
  ⟨(some 23), none, .bin .quo (.t 22) (.c (.int .i64 4)), none⟩,
  ⟨(some 24), none, .bin .mul (.t 23) (.c (.int .i64 2)), none⟩,
  ⟨(some 25), none, .bin .add (.t 21) (.t 24), none⟩,
  ⟨(some 11), none, .mov (.t 25), none⟩]
def r150_5 : List AOp :=
  [⟨(some 26), none, .mov (.t 1), none⟩,
  ⟨(some 27), none, .mov (.t 8), none⟩,
  ⟨(some 28), none, .bin .quo (.t 27) (.c (.int .i64 4)), none⟩,
  ⟨(some 29), none, .bin .mul (.t 28) (.c (.int .i64 3)), none⟩,
  ⟨(some 30), none, .bin .add (.t 26) (.t 29), none⟩,
  ⟨(some 12), none, .mov (.t 30), none⟩]
def r150_6 : List AOp :=
  [⟨(some 31), none, .mov (.t 8), none⟩,
  ⟨(some 32), none, .bin .geq (.t 31) (.c (.int .i64 8)), none⟩]
def r150_7 : List AOp :=
  [⟨(some 33), none, .mov (.t 8), none⟩,
  ⟨(some 34), none, .bin .geq (.t 33) (.c (.int .i64 50)), none⟩]
def r150_8 : List AOp :=
  [⟨(some 35), none, .mov (.t 0), none⟩,
  ⟨(some 36), none, .mov (.t 10), none⟩,
  ⟨(some 37), none, .call 161 [.t 35, .t 36, .t 9], none⟩,
  ⟨(some 10), none, .mov (.t 37), none⟩]
def r150_9 : List AOp :=
  [⟨(some 38), none, .mov (.t 0), none⟩,
  ⟨(some 39), none, .mov (.t 11), none⟩,
  ⟨(some 40), none, .call 161 [.t 38, .t 39, .t 9], none⟩,
  ⟨(some 11), none, .mov (.t 40), none⟩]
def r150_10 : List AOp :=
  [⟨(some 41), none, .mov (.t 0), none⟩,
  ⟨(some 42), none, .mov (.t 12), none⟩,
  ⟨(some 43), none, .call 161 [.t 41, .t 42, .t 9], none⟩,
  ⟨(some 12), none, .mov (.t 43), none⟩]
def r150_11 : List AOp :=
  [⟨(some 44), none, .mov (.t 0), none⟩,
  ⟨(some 45), none, .mov (.t 10), none⟩,
  ⟨(some 46), none, .mov (.t 11), none⟩,
  ⟨(some 47), none, .mov (.t 12), none⟩,
  ⟨(some 48), none, .call 162 [.t 44, .t 45, .t 46, .t 47, .t 9], none⟩,
  ⟨(some 11), none, .mov (.t 48), none⟩]
def r150_12 : List AOp :=
  [⟨(some 49), none, .load false 1 (.t 9), none⟩]
def r150_14 : List AOp :=
  [⟨(some 52), none, .bin .eql (.t 49) (.c (.int .i64 0)), none⟩,
  ⟨(some 51), none, .mov (.t 52), none⟩]
def r150_15 : List AOp :=
  [⟨(some 53), none, .mov (.t 11), none⟩,
  ⟨(some 6), none, .mov (.t 53), none⟩,
  ⟨(some 7), none, .mov (.c (.int .i64 1)), none⟩]
def r150_16 : List AOp :=
  [⟨(some 55), none, .bin .eql (.t 49) (.c (.int .i64 12)), none⟩,
  ⟨(some 54), none, .mov (.t 55), none⟩]
def r150_17 : List AOp :=
  [⟨(some 56), none, .mov (.t 11), none⟩,
  ⟨(some 6), none, .mov (.t 56), none⟩,
  ⟨(some 7), none, .mov (.c (.int .i64 2)), none⟩]
def r150_13 : List AOp :=
  [⟨(some 50), none, .mov (.t 11), none⟩,
  ⟨(some 6), none, .mov (.t 50), none⟩,
  ⟨(some 7), none, .mov (.c (.int .i64 0)), none⟩]
/-- slices.choosePivotOrdered[int] -/
def c150 : AC :=
  .seq (.ops r150_0)
  (.seq (.ops r150_1)
   (.seq (.ops r150_2)
    (.seq (.ops r150_3)
     (.seq (.ops r150_4)
      (.seq (.ops r150_5)
       (.seq (.seq (.ops r150_6)
         (.cond (.t 32) (.seq (.seq (.ops r150_7)
            (.cond (.t 34) (.seq (.ops r150_8)
              (.seq (.ops r150_9)
               (.ops r150_10))) (.skip)))
           (.ops r150_11)) (.skip)))
        (.seq (.ops r150_12)
         (.block 0 (.seq (.ops r150_14)
           (.cond (.t 51) (.seq (.ops r150_15)
             (.ret)) (.seq (.ops r150_16)
             (.cond (.t 54) (.seq (.ops r150_17)
               (.ret)) (.seq (.ops r150_13)
               (.ret))))))))))))))
def a150 : AFn := { res := [.tmp 6, .tmp 7], body := c150, keepA := false, keepR := false, pure := true }
theorem k150 : chkFn Tryz.prog Tryz.f150 a150 = true := by kernel_rfl

/-! slices.reverseRangeOrdered[int] -/
def r151_0 : List AOp :=
  [⟨(some 8), none, .mov (.t 1), none⟩,
  ⟨(some 6), none, .mov (.t 8), none⟩]
def r151_1 : List AOp :=
  [⟨(some 9), none, .mov (.t 2), none⟩,
  ⟨(some 10), none, .bin .sub (.t 9) (.c (.int .i64 1)), none⟩,
  ⟨(some 7), none, .mov (.t 10), none⟩]
def r151_2 : List AOp :=
  [⟨(some 11), none, .mov (.t 6), none⟩,
  ⟨(some 12), none, .mov (.t 7), none⟩,
  ⟨(some 13), none, .bin .lss (.t 11) (.t 12), none⟩]
def r151_3 : List AOp :=
  [⟨(some 14), none, .mov (.t 0), none⟩,
  ⟨(some 15), none, .mov (.t 6), none⟩,
  ⟨(some 16), none, .mov (.t 0), none⟩,
  ⟨(some 17), none, .mov (.t 7), none⟩,
  ⟨(some 18), none, .mov (.t 0), none⟩,
  ⟨(some 19), none, .mov (.t 7), none⟩,
  ⟨(some 20), none, .idxS 1 (.t 18) (.t 19), (some (.t 18, .lst))⟩,
  ⟨(some 21), none, .load false 1 (.t 20), (some (.t 20, .imm))⟩,
  ⟨(some 22), none, .mov (.t 0), none⟩,
  ⟨(some 23), none, .mov (.t 6), none⟩,
  ⟨(some 24), none, .idxS 1 (.t 22) (.t 23), (some (.t 22, .lst))⟩,
  ⟨(some 25), none, .load false 1 (.t 24), (some (.t 24, .imm))⟩,
  ⟨(some 26), none, .idxS 1 (.t 14) (.t 15), (some (.t 14, .lst))⟩,
  ⟨none, none, .store 1 (.t 26) (.t 21), none⟩,
  ⟨(some 27), none, .idxS 1 (.t 16) (.t 17), (some (.t 16, .lst))⟩,
  ⟨none, none, .store 1 (.t 27) (.t 25), none⟩]
def p151_3 : List (List Nat) := [[], [], [], [], [], [], [4, 5], [6], [], [], [8, 9], [10], [0, 1, 0, 1, 4, 5, 6, 7, 11], [12, 7, 0, 1, 4, 5, 6, 7, 11], [2, 3, 0, 1, 2, 3, 4, 5, 6, 7, 8, 9, 10, 11, 12, 13], [14, 11, 13, 0, 1, 2, 3, 4, 5, 6, 7, 8, 9, 10, 11, 12, 13]]
def r151_4 : List AOp :=
  [⟨(some 28), none, .mov (.t 6), none⟩,
  ⟨(some 29), none, .bin .add (.t 28) (.c (.int .i64 1)), none⟩,
  ⟨(some 6), none, .mov (.t 29), none⟩]
def r151_5 : List AOp :=
  [⟨(some 30), none, .mov (.t 7), none⟩,
  ⟨(some 31), none, .bin .sub (.t 30) (.c (.int .i64 1)), none⟩,
  ⟨(some 7), none, .mov (.t 31), none⟩]
def l151_0 : AC :=
  .seq (.seq (.ops r151_2)
   (.cond (.t 13) (.skip) (.exit 0)))
  (.block 1 (.seq (.tops r151_3
       p151_3)
    (.seq (.ops r151_4)
     (.ops r151_5))))
/-- slices.reverseRangeOrdered[int] -/
def c151 : AC :=
  .seq (.ops r151_0)
  (.seq (.ops r151_1)
   (.block 0 (.loop l151_0)))
def a151 : AFn := { res := [], body := c151, keepA := false, keepR := false, pure := false }
theorem k151 : chkFn Tryz.prog Tryz.f151 a151 = true := by kernel_rfl

/-! slices.partialInsertionSortOrdered[int] -/
def r152_0 : List AOp :=
  [⟨(some 6), none, .mov (.c (.bool false)), none⟩]
def r152_1 : List AOp :=
  [⟨(some 11), none, .mov (.t 1), none⟩,
  ⟨(some 12), none, .bin .add (.t 11) (.c (.int .i64 1)), none⟩,
  ⟨(some 7), none, .mov (.t 12), none⟩]
def r152_2 : List AOp :=
  [⟨(some 8), none, .mov (.c (.int .i64 0)), none⟩]
def r152_3 : List AOp :=
  [⟨(some 13), none, .mov (.t 8), none⟩,
  ⟨(some 14), none, .bin .lss (.t 13) (.c (.int .i64 5)), none⟩]
def r152_5 : List AOp :=
  [⟨(some 17), none, .mov (.t 7), none⟩,
  ⟨(some 18), none, .mov (.t 2), none⟩,
  ⟨(some 19), none, .bin .lss (.t 17) (.t 18), none⟩,
  ⟨(some 20), none, .mov (.t 19), none⟩,
  ⟨(some 21), (some (20, true)), .mov (.t 0), none⟩,
  ⟨(some 22), (some (20, true)), .mov (.t 7), none⟩,
  ⟨(some 23), (some (20, true)), .idxS 1 (.t 21) (.t 22), (some (.t 21, .lst))⟩,
  ⟨(some 24), (some (20, true)), .load false 1 (.t 23), (some (.t 23, .imm))⟩,
  ⟨(some 25), (some (20, true)), .mov (.t 0), none⟩,
  ⟨(some 26), (some (20, true)), .mov (.t 7), none⟩,
  ⟨(some 27), (some (20, true)), .bin .sub (.t 26) (.c (.int .i64 1)), none⟩,
  ⟨(some 28), (some (20, true)), .idxS 1 (.t 25) (.t 27), (some (.t 25, .lst))⟩,
  ⟨(some 29), (some (20, true)), .load false 1 (.t 28), (some (.t 28, .imm))⟩,
  ⟨(some 30), (some (20, true)), .call 153 [.t 24, .t 29], none⟩,
  ⟨(some 31), (some (20, true)), .un .not (.t 30), none⟩,
  ⟨(some 32), none, .pick (.t 20) (.t 31) (.c (.bool false)), none⟩]
def p152_5 : List (List Nat) := [[], [], [0, 1], [2], [3], [3], [4, 5, 3], [6, 3], [3], [3], [9, 3], [8, 10, 3], [11, 3], [7, 12, 3, 3], [13, 3], [3, 14]]
def r152_6 : List AOp :=
  [⟨(some 33), none, .mov (.t 7), none⟩,
  ⟨(some 34), none, .bin .add (.t 33) (.c (.int .i64 1)), none⟩,
  ⟨(some 7), none, .mov (.t 34), none⟩]
def l152_1 : AC :=
  .seq (.seq (.tops r152_5
      p152_5)
   (.cond (.t 32) (.skip) (.exit 2)))
  (.block 3 (.ops r152_6))
def r152_7 : List AOp :=
  [⟨(some 35), none, .mov (.t 7), none⟩,
  ⟨(some 36), none, .mov (.t 2), none⟩,
  ⟨(some 37), none, .bin .eql (.t 35) (.t 36), none⟩]
def r152_8 : List AOp :=
  [⟨(some 6), none, .mov (.c (.bool true)), none⟩]
def r152_9 : List AOp :=
  [⟨(some 38), none, .mov (.t 2), none⟩,
  ⟨(some 39), none, .mov (.t 1), none⟩,
  ⟨(some 40), none, .bin .sub (.t 38) (.t 39), none⟩,
  ⟨(some 41), none, .bin .lss (.t 40) (.c (.int .i64 50)), none⟩]
def r152_10 : List AOp :=
  [⟨(some 6), none, .mov (.c (.bool false)), none⟩]
def r152_11 : List AOp :=
  [⟨(some 42), none, .mov (.t 0), none⟩,
  ⟨(some 43), none, .mov (.t 7), none⟩,
  ⟨(some 44), none, .mov (.t 0), none⟩,
  ⟨(some 45), none, .mov (.t 7), none⟩,
  ⟨(some 46), none, .bin .sub (.t 45) (.c (.int .i64 1)), none⟩,
  ⟨(some 47), none, .mov (.t 0), none⟩,
  ⟨(some 48), none, .mov (.t 7), none⟩,
  ⟨(some 49), none, .bin .sub (.t 48) (.c (.int .i64 1)), none⟩,
  ⟨(some 50), none, .idxS 1 (.t 47) (.t 49), (some (.t 47, .lst))⟩,
  ⟨(some 51), none, .load false 1 (.t 50), (some (.t 50, .imm))⟩,
  ⟨(some 52), none, .mov (.t 0), none⟩,
  ⟨(some 53), none, .mov (.t 7), none⟩,
  ⟨(some 54), none, .idxS 1 (.t 52) (.t 53), (some (.t 52, .lst))⟩,
  ⟨(some 55), none, .load false 1 (.t 54), (some (.t 54, .imm))⟩,
  ⟨(some 56), none, .idxS 1 (.t 42) (.t 43), (some (.t 42, .lst))⟩,
  ⟨none, none, .store 1 (.t 56) (.t 51), none⟩,
  ⟨(some 57), none, .idxS 1 (.t 44) (.t 46), (some (.t 44, .lst))⟩,
  ⟨none, none, .store 1 (.t 57) (.t 55), none⟩]
def p152_11 : List (List Nat) := [[], [], [], [], [3], [], [], [6], [5, 7], [8], [], [], [10, 11], [12], [0, 1, 0, 1, 5, 6, 7, 8, 9, 13], [14, 9, 0, 1, 5, 6, 7, 8, 9, 13], [2, 4, 0, 1, 2, 3, 4, 5, 6, 7, 8, 9, 10, 11, 12, 13, 14, 15], [16, 13, 15, 0, 1, 2, 3, 4, 5, 6, 7, 8, 9, 10, 11, 12, 13, 14, 15]]
def r152_12 : List AOp :=
  [⟨(some 58), none, .mov (.t 7), none⟩,
  ⟨(some 59), none, .mov (.t 1), none⟩,
  ⟨(some 60), none, .bin .sub (.t 58) (.t 59), none⟩,
  ⟨(some 61), none, .bin .geq (.t 60) (.c (.int .i64 2)), none⟩]
def r152_13 : List AOp :=
  [⟨(some 62), none, .mov (.t 7), none⟩,
  ⟨(some 63), none, .bin .sub (.t 62) (.c (.int .i64 1)), none⟩,
  ⟨(some 9), none, .mov (.t 63), none⟩]
def r152_14 : List AOp :=
  [⟨(some 64), none, .mov (.t 9), none⟩,
  ⟨(some 65), none, .bin .geq (.t 64) (.c (.int .i64 1)), none⟩]
def r152_16 : List AOp :=
  [⟨(some 68), none, .mov (.t 0), none⟩,
  ⟨(some 69), none, .mov (.t 9), none⟩,
  ⟨(some 70), none, .idxS 1 (.t 68) (.t 69), (some (.t 68, .lst))⟩,
  ⟨(some 71), none, .load false 1 (.t 70), (some (.t 70, .imm))⟩,
  ⟨(some 72), none, .mov (.t 0), none⟩,
  ⟨(some 73), none, .mov (.t 9), none⟩,
  ⟨(some 74), none, .bin .sub (.t 73) (.c (.int .i64 1)), none⟩,
  ⟨(some 75), none, .idxS 1 (.t 72) (.t 74), (some (.t 72, .lst))⟩,
  ⟨(some 76), none, .load false 1 (.t 75), (some (.t 75, .imm))⟩,
  ⟨(some 77), none, .call 153 [.t 71, .t 76], none⟩,
  ⟨(some 78), none, .un .not (.t 77), none⟩]
def p152_16 : List (List Nat) := [[], [], [0, 1], [2], [], [], [5], [4, 6], [7], [3, 8], [9]]
def r152_17 : List AOp :=
  [⟨(some 79), none, .mov (.t 0), none⟩,
  ⟨(some 80), none, .mov (.t 9), none⟩,
  ⟨(some 81), none, .mov (.t 0), none⟩,
  ⟨(some 82), none, .mov (.t 9), none⟩,
  ⟨(some 83), none, .bin .sub (.t 82) (.c (.int .i64 1)), none⟩,
  ⟨(some 84), none, .mov (.t 0), none⟩,
  ⟨(some 85), none, .mov (.t 9), none⟩,
  ⟨(some 86), none, .bin .sub (.t 85) (.c (.int .i64 1)), none⟩,
  ⟨(some 87), none, .idxS 1 (.t 84) (.t 86), (some (.t 84, .lst))⟩,
  ⟨(some 88), none, .load false 1 (.t 87), (some (.t 87, .imm))⟩,
  ⟨(some 89), none, .mov (.t 0), none⟩,
  ⟨(some 90), none, .mov (.t 9), none⟩,
  ⟨(some 91), none, .idxS 1 (.t 89) (.t 90), (some (.t 89, .lst))⟩,
  ⟨(some 92), none, .load false 1 (.t 91), (some (.t 91, .imm))⟩,
  ⟨(some 93), none, .idxS 1 (.t 79) (.t 80), (some (.t 79, .lst))⟩,
  ⟨none, none, .store 1 (.t 93) (.t 88), none⟩,
  ⟨(some 94), none, .idxS 1 (.t 81) (.t 83), (some (.t 81, .lst))⟩,
  ⟨none, none, .store 1 (.t 94) (.t 92), none⟩]
def p152_17 : List (List Nat) := [[], [], [], [], [3], [], [], [6], [5, 7], [8], [], [], [10, 11], [12], [0, 1, 0, 1, 5, 6, 7, 8, 9, 13], [14, 9, 0, 1, 5, 6, 7, 8, 9, 13], [2, 4, 0, 1, 2, 3, 4, 5, 6, 7, 8, 9, 10, 11, 12, 13, 14, 15], [16, 13, 15, 0, 1, 2, 3, 4, 5, 6, 7, 8, 9, 10, 11, 12, 13, 14, 15]]
def r152_15 : List AOp :=
  [⟨(some 66), none, .mov (.t 9), none⟩,
  ⟨(some 67), none, .bin .sub (.t 66) (.c (.int .i64 1)), none⟩,
  ⟨(some 9), none, .mov (.t 67), none⟩]
def l152_2 : AC :=
  .seq (.seq (.ops r152_14)
   (.cond (.t 65) (.skip) (.exit 4)))
  (.seq (.block 5 (.seq (.seq (.tops r152_16
         p152_16)
      (.cond (.t 78) (.exit 4) (.skip)))
     (.tops r152_17
        p152_17)))
   (.ops r152_15))
def r152_18 : List AOp :=
  [⟨(some 95), none, .mov (.t 2), none⟩,
  ⟨(some 96), none, .mov (.t 7), none⟩,
  ⟨(some 97), none, .bin .sub (.t 95) (.t 96), none⟩,
  ⟨(some 98), none, .bin .geq (.t 97) (.c (.int .i64 2)), none⟩]
def r152_19 : List AOp :=
  [⟨(some 99), none, .mov (.t 7), none⟩,
  ⟨(some 100), none, .bin .add (.t 99) (.c (.int .i64 1)), none⟩,
  ⟨(some 10), none, .mov (.t 100), none⟩]
def r152_20 : List AOp :=
  [⟨(some 101), none, .mov (.t 10), none⟩,
  ⟨(some 102), none, .mov (.t 2), none⟩,
  ⟨(some 103), none, .bin .lss (.t 101) (.t 102), none⟩]
def r152_22 : List AOp :=
  [⟨(some 106), none, .mov (.t 0), none⟩,
  ⟨(some 107), none, .mov (.t 10), none⟩,
  ⟨(some 108), none, .idxS 1 (.t 106) (.t 107), (some (.t 106, .lst))⟩,
  ⟨(some 109), none, .load false 1 (.t 108), (some (.t 108, .imm))⟩,
  ⟨(some 110), none, .mov (.t 0), none⟩,
  ⟨(some 111), none, .mov (.t 10), none⟩,
  ⟨(some 112), none, .bin .sub (.t 111) (.c (.int .i64 1)), none⟩,
  ⟨(some 113), none, .idxS 1 (.t 110) (.t 112), (some (.t 110, .lst))⟩,
  ⟨(some 114), none, .load false 1 (.t 113), (some (.t 113, .imm))⟩,
  ⟨(some 115), none, .call 153 [.t 109, .t 114], none⟩,
  ⟨(some 116), none, .un .not (.t 115), none⟩]
def p152_22 : List (List Nat) := [[], [], [0, 1], [2], [], [], [5], [4, 6], [7], [3, 8], [9]]
def r152_23 : List AOp :=
  [⟨(some 117), none, .mov (.t 0), none⟩,
  ⟨(some 118), none, .mov (.t 10), none⟩,
  ⟨(some 119), none, .mov (.t 0), none⟩,
  ⟨(some 120), none, .mov (.t 10), none⟩,
  ⟨(some 121), none, .bin .sub (.t 120) (.c (.int .i64 1)), none⟩,
  ⟨(some 122), none, .mov (.t 0), none⟩,
  ⟨(some 123), none, .mov (.t 10), none⟩,
  ⟨(some 124), none, .bin .sub (.t 123) (.c (.int .i64 1)), none⟩,
  ⟨(some 125), none, .idxS 1 (.t 122) (.t 124), (some (.t 122, .lst))⟩,
  ⟨(some 126), none, .load false 1 (.t 125), (some (.t 125, .imm))⟩,
  ⟨(some 127), none, .mov (.t 0), none⟩,
  ⟨(some 128), none, .mov (.t 10), none⟩,
  ⟨(some 129), none, .idxS 1 (.t 127) (.t 128), (some (.t 127, .lst))⟩,
  ⟨(some 130), none, .load false 1 (.t 129), (some (.t 129, .imm))⟩,
  ⟨(some 131), none, .idxS 1 (.t 117) (.t 118), (some (.t 117, .lst))⟩,
  ⟨none, none, .store 1 (.t 131) (.t 126), none⟩,
  ⟨(some 132), none, .idxS 1 (.t 119) (.t 121), (some (.t 119, .lst))⟩,
  ⟨none, none, .store 1 (.t 132) (.t 130), none⟩]
def p152_23 : List (List Nat) := [[], [], [], [], [3], [], [], [6], [5, 7], [8], [], [], [10, 11], [12], [0, 1, 0, 1, 5, 6, 7, 8, 9, 13], [14, 9, 0, 1, 5, 6, 7, 8, 9, 13], [2, 4, 0, 1, 2, 3, 4, 5, 6, 7, 8, 9, 10, 11, 12, 13, 14, 15], [16, 13, 15, 0, 1, 2, 3, 4, 5, 6, 7, 8, 9, 10, 11, 12, 13, 14, 15]]
def r152_21 : List AOp :=
  [⟨(some 104), none, .mov (.t 10), none⟩,
  ⟨(some 105), none, .bin .add (.t 104) (.c (.int .i64 1)), none⟩,
  ⟨(some 10), none, .mov (.t 105), none⟩]
def l152_3 : AC :=
  .seq (.seq (.ops r152_20)
   (.cond (.t 103) (.skip) (.exit 6)))
  (.seq (.block 7 (.seq (.seq (.tops r152_22
         p152_22)
      (.cond (.t 116) (.exit 6) (.skip)))
     (.tops r152_23
        p152_23)))
   (.ops r152_21))
def r152_4 : List AOp :=
  [⟨(some 15), none, .mov (.t 8), none⟩,
  ⟨(some 16), none, .bin .add (.t 15) (.c (.int .i64 1)), none⟩,
  ⟨(some 8), none, .mov (.t 16), none⟩]
def l152_0 : AC :=
  .seq (.seq (.ops r152_3)
   (.cond (.t 14) (.skip) (.exit 0)))
  (.seq (.block 1 (.seq (.block 2 (.loop l152_1))
     (.seq (.seq (.ops r152_7)
       (.cond (.t 37) (.seq (.ops r152_8)
         (.ret)) (.skip)))
      (.seq (.seq (.ops r152_9)
        (.cond (.t 41) (.seq (.ops r152_10)
          (.ret)) (.skip)))
       (.seq (.tops r152_11
           p152_11)
        (.seq (.seq (.ops r152_12)
          (.cond (.t 61) (.seq (.ops r152_13)
            (.block 4 (.loop l152_2))) (.skip)))
         (.seq (.ops r152_18)
          (.cond (.t 98) (.seq (.ops r152_19)
            (.block 6 (.loop l152_3))) (.skip)))))))))
   (.ops r152_4))
def r152_24 : List AOp :=
  [⟨(some 6), none, .mov (.c (.bool false)), none⟩]
/-- slices.partialInsertionSortOrdered[int] -/
def c152 : AC :=
  .seq (.ops r152_0)
  (.seq (.ops r152_1)
   (.seq (.seq (.ops r152_2)
     (.block 0 (.loop l152_0)))
    (.seq (.ops r152_24)
     (.ret))))
def a152 : AFn := { res := [.tmp 6], body := c152, keepA := false, keepR := false, pure := false }
theorem k152 : chkFn Tryz.prog Tryz.f152 a152 = true := by kernel_rfl

/-! cmp.Less[int] -/
def r153_0 : List AOp :=
  [⟨(some 4), none, .mov (.c (.bool false)), none⟩]
def r153_1 : List AOp :=
  [⟨(some 5), none, .mov (.t 0), none⟩,
  ⟨(some 6), none, .call 163 [.t 5], none⟩,
  ⟨(some 7), none, .mov (.t 6), none⟩,
  ⟨(some 8), (some (7, true)), .mov (.t 1), none⟩,
  ⟨(some 9), (some (7, true)), .call 163 [.t 8], none⟩,
  ⟨(some 10), (some (7, true)), .un .not (.t 9), none⟩,
  ⟨(some 11), none, .pick (.t 7) (.t 10) (.c (.bool false)), none⟩,
  ⟨(some 12), none, .mov (.t 11), none⟩,
  ⟨(some 13), (some (12, false)), .mov (.t 0), none⟩,
  ⟨(some 14), (some (12, false)), .mov (.t 1), none⟩,
  ⟨(some 15), (some (12, false)), .bin .lss (.t 13) (.t 14), none⟩,
  ⟨(some 16), none, .pick (.t 12) (.c (.bool true)) (.t 15), none⟩,
  ⟨(some 4), none, .mov (.t 16), none⟩]
/-- cmp.Less[int] -/
def c153 : AC :=
  .seq (.ops r153_0)
  (.seq (.ops r153_1)
   (.ret))
def a153 : AFn := { res := [.tmp 4], body := c153, keepA := false, keepR := false, pure := true }
theorem k153 : chkFn Tryz.prog Tryz.f153 a153 = true := by kernel_rfl

/-! slices.partitionEqualOrdered[int] -/
def r154_0 : List AOp :=
  [⟨(some 8), none, .mov (.c (.int .i64 0)), none⟩]
def r154_1 : List AOp :=
  [⟨(some 11), none, .mov (.t 0), none⟩,
  ⟨(some 12), none, .mov (.t 1), none⟩,
  ⟨(some 13), none, .mov (.t 0), none⟩,
  ⟨(some 14), none, .mov (.t 3), none⟩,
  ⟨(some 15), none, .mov (.t 0), none⟩,
  ⟨(some 16), none, .mov (.t 3), none⟩,
  ⟨(some 17), none, .idxS 1 (.t 15) (.t 16), (some (.t 15, .lst))⟩,
  ⟨(some 18), none, .load false 1 (.t 17), (some (.t 17, .imm))⟩,
  ⟨(some 19), none, .mov (.t 0), none⟩,
  ⟨(some 20), none, .mov (.t 1), none⟩,
  ⟨(some 21), none, .idxS 1 (.t 19) (.t 20), (some (.t 19, .lst))⟩,
  ⟨(some 22), none, .load false 1 (.t 21), (some (.t 21, .imm))⟩,
  ⟨(some 23), none, .idxS 1 (.t 11) (.t 12), (some (.t 11, .lst))⟩,
  ⟨none, none, .store 1 (.t 23) (.t 18), none⟩,
  ⟨(some 24), none, .idxS 1 (.t 13) (.t 14), (some (.t 13, .lst))⟩,
  ⟨none, none, .store 1 (.t 24) (.t 22), none⟩]
def p154_1 : List (List Nat) := [[], [], [], [], [], [], [4, 5], [6], [], [], [8, 9], [10], [0, 1, 0, 1, 4, 5, 6, 7, 11], [12, 7, 0, 1, 4, 5, 6, 7, 11], [2, 3, 0, 1, 2, 3, 4, 5, 6, 7, 8, 9, 10, 11, 12, 13], [14, 11, 13, 0, 1, 2, 3, 4, 5, 6, 7, 8, 9, 10, 11, 12, 13]]
def r154_2 : List AOp :=
  [⟨(some 25), none, .mov (.t 1), none⟩,
  ⟨(some 26), none, .bin .add (.t 25) (.c (.int .i64 1)), none⟩,
  ⟨(some 27), none, .mov (.t 2), none⟩,
  ⟨(some 28), none, .bin .sub (.t 27) (.c (.int .i64 1)), none⟩,
  ⟨(some 9), none, .mov (.t 26), none⟩,
  ⟨(some 10), none, .mov (.t 28), none⟩]
def r154_3 : List AOp :=
  [⟨(some 29), none, .mov (.t 9), none⟩,
  ⟨(some 30), none, .mov (.t 10), none⟩,
  ⟨(some 31), none, .bin .leq (.t 29) (.t 30), none⟩,
  ⟨(some 32), none, .mov (.t 31), none⟩,
  ⟨(some 33), (some (32, true)), .mov (.t 0), none⟩,
  ⟨(some 34), (some (32, true)), .mov (.t 1), none⟩,
  ⟨(some 35), (some (32, true)), .idxS 1 (.t 33) (.t 34), (some (.t 33, .lst))⟩,
  ⟨(some 36), (some (32, true)), .load false 1 (.t 35), (some (.t 35, .imm))⟩,
  ⟨(some 37), (some (32, true)), .mov (.t 0), none⟩,
  ⟨(some 38), (some (32, true)), .mov (.t 9), none⟩,
  ⟨(some 39), (some (32, true)), .idxS 1 (.t 37) (.t 38), (some (.t 37, .lst))⟩,
  ⟨(some 40), (some (32, true)), .load false 1 (.t 39), (some (.t 39, .imm))⟩,
  ⟨(some 41), (some (32, true)), .call 153 [.t 36, .t 40], none⟩,
  ⟨(some 42), (some (32, true)), .un .not (.t 41), none⟩,
  ⟨(some 43), none, .pick (.t 32) (.t 42) (.c (.bool false)), none⟩]
def p154_3 : List (List Nat) := [[], [], [0, 1], [2], [3], [3], [4, 5, 3], [6, 3], [3], [3], [8, 9, 3], [10, 3], [7, 11, 3, 3], [12, 3], [3, 13]]
def r154_4 : List AOp :=
  [⟨(some 44), none, .mov (.t 9), none⟩,
  ⟨(some 45), none, .bin .add (.t 44) (.c (.int .i64 1)), none⟩,
  ⟨(some 9), none, .mov (.t 45), none⟩]
def l154_1 : AC :=
  .seq (.seq (.tops r154_3
      p154_3)
   (.cond (.t 43) (.skip) (.exit 2)))
  (.block 3 (.ops r154_4))
def r154_5 : List AOp :=
  [⟨(some 46), none, .mov (.t 9), none⟩,
  ⟨(some 47), none, .mov (.t 10), none⟩,
  ⟨(some 48), none, .bin .leq (.t 46) (.t 47), none⟩,
  ⟨(some 49), none, .mov (.t 48), none⟩,
  ⟨(some 50), (some (49, true)), .mov (.t 0), none⟩,
  ⟨(some 51), (some (49, true)), .mov (.t 1), none⟩,
  ⟨(some 52), (some (49, true)), .idxS 1 (.t 50) (.t 51), (some (.t 50, .lst))⟩,
  ⟨(some 53), (some (49, true)), .load false 1 (.t 52), (some (.t 52, .imm))⟩,
  ⟨(some 54), (some (49, true)), .mov (.t 0), none⟩,
  ⟨(some 55), (some (49, true)), .mov (.t 10), none⟩,
  ⟨(some 56), (some (49, true)), .idxS 1 (.t 54) (.t 55), (some (.t 54, .lst))⟩,
  ⟨(some 57), (some (49, true)), .load false 1 (.t 56), (some (.t 56, .imm))⟩,
  ⟨(some 58), (some (49, true)), .call 153 [.t 53, .t 57], none⟩,
  ⟨(some 59), none, .pick (.t 49) (.t 58) (.c (.bool false)), none⟩]
def p154_5 : List (List Nat) := [[], [], [0, 1], [2], [3], [3], [4, 5, 3], [6, 3], [3], [3], [8, 9, 3], [10, 3], [7, 11, 3, 3], [3, 12]]
def r154_6 : List AOp :=
  [⟨(some 60), none, .mov (.t 10), none⟩,
  ⟨(some 61), none, .bin .sub (.t 60) (.c (.int .i64 1)), none⟩,
  ⟨(some 10), none, .mov (.t 61), none⟩]
def l154_2 : AC :=
  .seq (.seq (.tops r154_5
      p154_5)
   (.cond (.t 59) (.skip) (.exit 4)))
  (.block 5 (.ops r154_6))
def r154_7 : List AOp :=
  [⟨(some 62), none, .mov (.t 9), none⟩,
  ⟨(some 63), none, .mov (.t 10), none⟩,
  ⟨(some 64), none, .bin .gtr (.t 62) (.t 63), none⟩]
def r154_8 : List AOp :=
  [⟨(some 65), none, .mov (.t 0), none⟩,
  ⟨(some 66), none, .mov (.t 9), none⟩,
  ⟨(some 67), none, .mov (.t 0), none⟩,
  ⟨(some 68), none, .mov (.t 10), none⟩,
  ⟨(some 69), none, .mov (.t 0), none⟩,
  ⟨(some 70), none, .mov (.t 10), none⟩,
  ⟨(some 71), none, .idxS 1 (.t 69) (.t 70), (some (.t 69, .lst))⟩,
  ⟨(some 72), none, .load false 1 (.t 71), (some (.t 71, .imm))⟩,
  ⟨(some 73), none, .mov (.t 0), none⟩,
  ⟨(some 74), none, .mov (.t 9), none⟩,
  ⟨(some 75), none, .idxS 1 (.t 73) (.t 74), (some (.t 73, .lst))⟩,
  ⟨(some 76), none, .load false 1 (.t 75), (some (.t 75, .imm))⟩,
  ⟨(some 77), none, .idxS 1 (.t 65) (.t 66), (some (.t 65, .lst))⟩,
  ⟨none, none, .store 1 (.t 77) (.t 72), none⟩,
  ⟨(some 78), none, .idxS 1 (.t 67) (.t 68), (some (.t 67, .lst))⟩,
  ⟨none, none, .store 1 (.t 78) (.t 76), none⟩]
def p154_8 : List (List Nat) := [[], [], [], [], [], [], [4, 5], [6], [], [], [8, 9], [10], [0, 1, 0, 1, 4, 5, 6, 7, 11], [12, 7, 0, 1, 4, 5, 6, 7, 11], [2, 3, 0, 1, 2, 3, 4, 5, 6, 7, 8, 9, 10, 11, 12, 13], [14, 11, 13, 0, 1, 2, 3, 4, 5, 6, 7, 8, 9, 10, 11, 12, 13]]
def r154_9 : List AOp :=
  [⟨(some 79), none, .mov (.t 9), none⟩,
  ⟨(some 80), none, .bin .add (.t 79) (.c (.int .i64 1)), none⟩,
  ⟨(some 9), none, .mov (.t 80), none⟩]
def r154_10 : List AOp :=
  [⟨(some 81), none, .mov (.t 10), none⟩,
  ⟨(some 82), none, .bin .sub (.t 81) (.c (.int .i64 1)), none⟩,
  ⟨(some 10), none, .mov (.t 82), none⟩]
def l154_0 : AC :=
  .block 1 (.seq (.block 2 (.loop l154_1))
   (.seq (.block 4 (.loop l154_2))
    (.seq (.seq (.ops r154_7)
      (.cond (.t 64) (.exit 0) (.skip)))
     (.seq (.tops r154_8
         p154_8)
      (.seq (.ops r154_9)
       (.ops r154_10))))))
def r154_11 : List AOp :=
  [⟨(some 83), none, .mov (.t 9), none⟩,
  ⟨(some 8), none, .mov (.t 83), none⟩]
/-- slices.partitionEqualOrdered[int] -/
def c154 : AC :=
  .seq (.ops r154_0)
  (.seq (.tops r154_1
      p154_1)
   (.seq (.ops r154_2)
    (.seq (.block 0 (.loop l154_0))
     (.seq (.ops r154_11)
      (.ret)))))
def a154 : AFn := { res := [.tmp 8], body := c154, keepA := false, keepR := false, pure := false }
theorem k154 : chkFn Tryz.prog Tryz.f154 a154 = true := by kernel_rfl

/-! slices.partitionOrdered[int] -/
def r155_0 : List AOp :=
  [⟨(some 8), none, .mov (.c (.int .i64 0)), none⟩,
  ⟨(some 9), none, .mov (.c (.bool false)), none⟩]
def r155_1 : List AOp :=
  [⟨(some 12), none, .mov (.t 0), none⟩,
  ⟨(some 13), none, .mov (.t 1), none⟩,
  ⟨(some 14), none, .mov (.t 0), none⟩,
  ⟨(some 15), none, .mov (.t 3), none⟩,
  ⟨(some 16), none, .mov (.t 0), none⟩,
  ⟨(some 17), none, .mov (.t 3), none⟩,
  ⟨(some 18), none, .idxS 1 (.t 16) (.t 17), (some (.t 16, .lst))⟩,
  ⟨(some 19), none, .load false 1 (.t 18), (some (.t 18, .imm))⟩,
  ⟨(some 20), none, .mov (.t 0), none⟩,
  ⟨(some 21), none, .mov (.t 1), none⟩,
  ⟨(some 22), none, .idxS 1 (.t 20) (.t 21), (some (.t 20, .lst))⟩,
  ⟨(some 23), none, .load false 1 (.t 22), (some (.t 22, .imm))⟩,
  ⟨(some 24), none, .idxS 1 (.t 12) (.t 13), (some (.t 12, .lst))⟩,
  ⟨none, none, .store 1 (.t 24) (.t 19), none⟩,
  ⟨(some 25), none, .idxS 1 (.t 14) (.t 15), (some (.t 14, .lst))⟩,
  ⟨none, none, .store 1 (.t 25) (.t 23), none⟩]
def p155_1 : List (List Nat) := [[], [], [], [], [], [], [4, 5], [6], [], [], [8, 9], [10], [0, 1, 0, 1, 4, 5, 6, 7, 11], [12, 7, 0, 1, 4, 5, 6, 7, 11], [2, 3, 0, 1, 2, 3, 4, 5, 6, 7, 8, 9, 10, 11, 12, 13], [14, 11, 13, 0, 1, 2, 3, 4, 5, 6, 7, 8, 9, 10, 11, 12, 13]]
def r155_2 : List AOp :=
  [⟨(some 26), none, .mov (.t 1), none⟩,
  ⟨(some 27), none, .bin .add (.t 26) (.c (.int .i64 1)), none⟩,
  ⟨(some 28), none, .mov (.t 2), none⟩,
  ⟨(some 29), none, .bin .sub (.t 28) (.c (.int .i64 1)), none⟩,
  ⟨(some 10), none, .mov (.t 27), none⟩,
  ⟨(some 11), none, .mov (.t 29), none⟩]
def r155_3 : List AOp :=
  [⟨(some 30), none, .mov (.t 10), none⟩,
  ⟨(some 31), none, .mov (.t 11), none⟩,
  ⟨(some 32), none, .bin .leq (.t 30) (.t 31), none⟩,
  ⟨(some 33), none, .mov (.t 32), none⟩,
  ⟨(some 34), (some (33, true)), .mov (.t 0), none⟩,
  ⟨(some 35), (some (33, true)), .mov (.t 10), none⟩,
  ⟨(some 36), (some (33, true)), .idxS 1 (.t 34) (.t 35), (some (.t 34, .lst))⟩,
  ⟨(some 37), (some (33, true)), .load false 1 (.t 36), (some (.t 36, .imm))⟩,
  ⟨(some 38), (some (33, true)), .mov (.t 0), none⟩,
  ⟨(some 39), (some (33, true)), .mov (.t 1), none⟩,
  ⟨(some 40), (some (33, true)), .idxS 1 (.t 38) (.t 39), (some (.t 38, .lst))⟩,
  ⟨(some 41), (some (33, true)), .load false 1 (.t 40), (some (.t 40, .imm))⟩,
  ⟨(some 42), (some (33, true)), .call 153 [.t 37, .t 41], none⟩,
  ⟨(some 43), none, .pick (.t 33) (.t 42) (.c (.bool false)), none⟩]
def p155_3 : List (List Nat) := [[], [], [0, 1], [2], [3], [3], [4, 5, 3], [6, 3], [3], [3], [8, 9, 3], [10, 3], [7, 11, 3, 3], [3, 12]]
def r155_4 : List AOp :=
  [⟨(some 44), none, .mov (.t 10), none⟩,
  ⟨(some 45), none, .bin .add (.t 44) (.c (.int .i64 1)), none⟩,
  ⟨(some 10), none, .mov (.t 45), none⟩]
def l155_0 : AC :=
  .seq (.seq (.tops r155_3
      p155_3)
   (.cond (.t 43) (.skip) (.exit 0)))
  (.block 1 (.ops r155_4))
def r155_5 : List AOp :=
  [⟨(some 46), none, .mov (.t 10), none⟩,
  ⟨(some 47), none, .mov (.t 11), none⟩,
  ⟨(some 48), none, .bin .leq (.t 46) (.t 47), none⟩,
  ⟨(some 49), none, .mov (.t 48), none⟩,
  ⟨(some 50), (some (49, true)), .mov (.t 0), none⟩,
  ⟨(some 51), (some (49, true)), .mov (.t 11), none⟩,
  ⟨(some 52), (some (49, true)), .idxS 1 (.t 50) (.t 51), (some (.t 50, .lst))⟩,
  ⟨(some 53), (some (49, true)), .load false 1 (.t 52), (some (.t 52, .imm))⟩,
  ⟨(some 54), (some (49, true)), .mov (.t 0), none⟩,
  ⟨(some 55), (some (49, true)), .mov (.t 1), none⟩,
  ⟨(some 56), (some (49, true)), .idxS 1 (.t 54) (.t 55), (some (.t 54, .lst))⟩,
  ⟨(some 57), (some (49, true)), .load false 1 (.t 56), (some (.t 56, .imm))⟩,
  ⟨(some 58), (some (49, true)), .call 153 [.t 53, .t 57], none⟩,
  ⟨(some 59), (some (49, true)), .un .not (.t 58), none⟩,
  ⟨(some 60), none, .pick (.t 49) (.t 59) (.c (.bool false)), none⟩]
def p155_5 : List (List Nat) := [[], [], [0, 1], [2], [3], [3], [4, 5, 3], [6, 3], [3], [3], [8, 9, 3], [10, 3], [7, 11, 3, 3], [12, 3], [3, 13]]
def r155_6 : List AOp :=
  [⟨(some 61), none, .mov (.t 11), none⟩,
  ⟨(some 62), none, .bin .sub (.t 61) (.c (.int .i64 1)), none⟩,
  ⟨(some 11), none, .mov (.t 62), none⟩]
def l155_1 : AC :=
  .seq (.seq (.tops r155_5
      p155_5)
   (.cond (.t 60) (.skip) (.exit 2)))
  (.block 3 (.ops r155_6))
def r155_7 : List AOp :=
  [⟨(some 63), none, .mov (.t 10), none⟩,
  ⟨(some 64), none, .mov (.t 11), none⟩,
  ⟨(some 65), none, .bin .gtr (.t 63) (.t 64), none⟩]
def r155_8 : List AOp :=
  [⟨(some 66), none, .mov (.t 0), none⟩,
  ⟨(some 67), none, .mov (.t 11), none⟩,
  ⟨(some 68), none, .mov (.t 0), none⟩,
  ⟨(some 69), none, .mov (.t 1), none⟩,
  ⟨(some 70), none, .mov (.t 0), none⟩,
  ⟨(some 71), none, .mov (.t 1), none⟩,
  ⟨(some 72), none, .idxS 1 (.t 70) (.t 71), (some (.t 70, .lst))⟩,
  ⟨(some 73), none, .load false 1 (.t 72), (some (.t 72, .imm))⟩,
  ⟨(some 74), none, .mov (.t 0), none⟩,
  ⟨(some 75), none, .mov (.t 11), none⟩,
  ⟨(some 76), none, .idxS 1 (.t 74) (.t 75), (some (.t 74, .lst))⟩,
  ⟨(some 77), none, .load false 1 (.t 76), (some (.t 76, .imm))⟩,
  ⟨(some 78), none, .idxS 1 (.t 66) (.t 67), (some (.t 66, .lst))⟩,
  ⟨none, none, .store 1 (.t 78) (.t 73), none⟩,
  ⟨(some 79), none, .idxS 1 (.t 68) (.t 69), (some (.t 68, .lst))⟩,
  ⟨none, none, .store 1 (.t 79) (.t 77), none⟩]
def p155_8 : List (List Nat) := [[], [], [], [], [], [], [4, 5], [6], [], [], [8, 9], [10], [0, 1, 0, 1, 4, 5, 6, 7, 11], [12, 7, 0, 1, 4, 5, 6, 7, 11], [2, 3, 0, 1, 2, 3, 4, 5, 6, 7, 8, 9, 10, 11, 12, 13], [14, 11, 13, 0, 1, 2, 3, 4, 5, 6, 7, 8, 9, 10, 11, 12, 13]]
def r155_9 : List AOp :=
  [⟨(some 80), none, .mov (.t 11), none⟩,
  ⟨(some 8), none, .mov (.t 80), none⟩,
  ⟨(some 9), none, .mov (.c (.bool true)), none⟩]
def r155_10 : List AOp :=
  [⟨(some 81), none, .mov (.t 0), none⟩,
  ⟨(some 82), none, .mov (.t 10), none⟩,
  ⟨(some 83), none, .mov (.t 0), none⟩,
  ⟨(some 84), none, .mov (.t 11), none⟩,
  ⟨(some 85), none, .mov (.t 0), none⟩,
  ⟨(some 86), none, .mov (.t 11), none⟩,
  ⟨(some 87), none, .idxS 1 (.t 85) (.t 86), (some (.t 85, .lst))⟩,
  ⟨(some 88), none, .load false 1 (.t 87), (some (.t 87, .imm))⟩,
  ⟨(some 89), none, .mov (.t 0), none⟩,
  ⟨(some 90), none, .mov (.t 10), none⟩,
  ⟨(some 91), none, .idxS 1 (.t 89) (.t 90), (some (.t 89, .lst))⟩,
  ⟨(some 92), none, .load false 1 (.t 91), (some (.t 91, .imm))⟩,
  ⟨(some 93), none, .idxS 1 (.t 81) (.t 82), (some (.t 81, .lst))⟩,
  ⟨none, none, .store 1 (.t 93) (.t 88), none⟩,
  ⟨(some 94), none, .idxS 1 (.t 83) (.t 84), (some (.t 83, .lst))⟩,
  ⟨none, none, .store 1 (.t 94) (.t 92), none⟩]
def p155_10 : List (List Nat) := [[], [], [], [], [], [], [4, 5], [6], [], [], [8, 9], [10], [0, 1, 0, 1, 4, 5, 6, 7, 11], [12, 7, 0, 1, 4, 5, 6, 7, 11], [2, 3, 0, 1, 2, 3, 4, 5, 6, 7, 8, 9, 10, 11, 12, 13], [14, 11, 13, 0, 1, 2, 3, 4, 5, 6, 7, 8, 9, 10, 11, 12, 13]]
def r155_11 : List AOp :=
  [⟨(some 95), none, .mov (.t 10), none⟩,
  ⟨(some 96), none, .bin .add (.t 95) (.c (.int .i64 1)), none⟩,
  ⟨(some 10), none, .mov (.t 96), none⟩]
def r155_12 : List AOp :=
  [⟨(some 97), none, .mov (.t 11), none⟩,
  ⟨(some 98), none, .bin .sub (.t 97) (.c (.int .i64 1)), none⟩,
  ⟨(some 11), none, .mov (.t 98), none⟩]
def r155_13 : List AOp :=
  [⟨(some 99), none, .mov (.t 10), none⟩,
  ⟨(some 100), none, .mov (.t 11), none⟩,
  ⟨(some 101), none, .bin .leq (.t 99) (.t 100), none⟩,
  ⟨(some 102), none, .mov (.t 101), none⟩,
  ⟨(some 103), (some (102, true)), .mov (.t 0), none⟩,
  ⟨(some 104), (some (102, true)), .mov (.t 10), none⟩,
  ⟨(some 105), (some (102, true)), .idxS 1 (.t 103) (.t 104), (some (.t 103, .lst))⟩,
  ⟨(some 106), (some (102, true)), .load false 1 (.t 105), (some (.t 105, .imm))⟩,
  ⟨(some 107), (some (102, true)), .mov (.t 0), none⟩,
  ⟨(some 108), (some (102, true)), .mov (.t 1), none⟩,
  ⟨(some 109), (some (102, true)), .idxS 1 (.t 107) (.t 108), (some (.t 107, .lst))⟩,
  ⟨(some 110), (some (102, true)), .load false 1 (.t 109), (some (.t 109, .imm))⟩,
  ⟨(some 111), (some (102, true)), .call 153 [.t 106, .t 110], none⟩,
  ⟨(some 112), none, .pick (.t 102) (.t 111) (.c (.bool false)), none⟩]
def p155_13 : List (List Nat) := [[], [], [0, 1], [2], [3], [3], [4, 5, 3], [6, 3], [3], [3], [8, 9, 3], [10, 3], [7, 11, 3, 3], [3, 12]]
def r155_14 : List AOp :=
  [⟨(some 113), none, .mov (.t 10), none⟩,
  ⟨(some 114), none, .bin .add (.t 113) (.c (.int .i64 1)), none⟩,
  ⟨(some 10), none, .mov (.t 114), none⟩]
def l155_3 : AC :=
  .seq (.seq (.tops r155_13
      p155_13)
   (.cond (.t 112) (.skip) (.exit 6)))
  (.block 7 (.ops r155_14))
def r155_15 : List AOp :=
  [⟨(some 115), none, .mov (.t 10), none⟩,
  ⟨(some 116), none, .mov (.t 11), none⟩,
  ⟨(some 117), none, .bin .leq (.t 115) (.t 116), none⟩,
  ⟨(some 118), none, .mov (.t 117), none⟩,
  ⟨(some 119), (some (118, true)), .mov (.t 0), none⟩,
  ⟨(some 120), (some (118, true)), .mov (.t 11), none⟩,
  ⟨(some 121), (some (118, true)), .idxS 1 (.t 119) (.t 120), (some (.t 119, .lst))⟩,
  ⟨(some 122), (some (118, true)), .load false 1 (.t 121), (some (.t 121, .imm))⟩,
  ⟨(some 123), (some (118, true)), .mov (.t 0), none⟩,
  ⟨(some 124), (some (118, true)), .mov (.t 1), none⟩,
  ⟨(some 125), (some (118, true)), .idxS 1 (.t 123) (.t 124), (some (.t 123, .lst))⟩,
  ⟨(some 126), (some (118, true)), .load false 1 (.t 125), (some (.t 125, .imm))⟩,
  ⟨(some 127), (some (118, true)), .call 153 [.t 122, .t 126], none⟩,
  ⟨(some 128), (some (118, true)), .un .not (.t 127), none⟩,
  ⟨(some 129), none, .pick (.t 118) (.t 128) (.c (.bool false)), none⟩]
def p155_15 : List (List Nat) := [[], [], [0, 1], [2], [3], [3], [4, 5, 3], [6, 3], [3], [3], [8, 9, 3], [10, 3], [7, 11, 3, 3], [12, 3], [3, 13]]
def r155_16 : List AOp :=
  [⟨(some 130), none, .mov (.t 11), none⟩,
  ⟨(some 131), none, .bin .sub (.t 130) (.c (.int .i64 1)), none⟩,
  ⟨(some 11), none, .mov (.t 131), none⟩]
def l155_4 : AC :=
  .seq (.seq (.tops r155_15
      p155_15)
   (.cond (.t 129) (.skip) (.exit 8)))
  (.block 9 (.ops r155_16))
def r155_17 : List AOp :=
  [⟨(some 132), none, .mov (.t 10), none⟩,
  ⟨(some 133), none, .mov (.t 11), none⟩,
  ⟨(some 134), none, .bin .gtr (.t 132) (.t 133), none⟩]
def r155_18 : List AOp :=
  [⟨(some 135), none, .mov (.t 0), none⟩,
  ⟨(some 136), none, .mov (.t 10), none⟩,
  ⟨(some 137), none, .mov (.t 0), none⟩,
  ⟨(some 138), none, .mov (.t 11), none⟩,
  ⟨(some 139), none, .mov (.t 0), none⟩,
  ⟨(some 140), none, .mov (.t 11), none⟩,
  ⟨(some 141), none, .idxS 1 (.t 139) (.t 140), (some (.t 139, .lst))⟩,
  ⟨(some 142), none, .load false 1 (.t 141), (some (.t 141, .imm))⟩,
  ⟨(some 143), none, .mov (.t 0), none⟩,
  ⟨(some 144), none, .mov (.t 10), none⟩,
  ⟨(some 145), none, .idxS 1 (.t 143) (.t 144), (some (.t 143, .lst))⟩,
  ⟨(some 146), none, .load false 1 (.t 145), (some (.t 145, .imm))⟩,
  ⟨(some 147), none, .idxS 1 (.t 135) (.t 136), (some (.t 135, .lst))⟩,
  ⟨none, none, .store 1 (.t 147) (.t 142), none⟩,
  ⟨(some 148), none, .idxS 1 (.t 137) (.t 138), (some (.t 137, .lst))⟩,
  ⟨none, none, .store 1 (.t 148) (.t 146), none⟩]
def p155_18 : List (List Nat) := [[], [], [], [], [], [], [4, 5], [6], [], [], [8, 9], [10], [0, 1, 0, 1, 4, 5, 6, 7, 11], [12, 7, 0, 1, 4, 5, 6, 7, 11], [2, 3, 0, 1, 2, 3, 4, 5, 6, 7, 8, 9, 10, 11, 12, 13], [14, 11, 13, 0, 1, 2, 3, 4, 5, 6, 7, 8, 9, 10, 11, 12, 13]]
def r155_19 : List AOp :=
  [⟨(some 149), none, .mov (.t 10), none⟩,
  ⟨(some 150), none, .bin .add (.t 149) (.c (.int .i64 1)), none⟩,
  ⟨(some 10), none, .mov (.t 150), none⟩]
def r155_20 : List AOp :=
  [⟨(some 151), none, .mov (.t 11), none⟩,
  ⟨(some 152), none, .bin .sub (.t 151) (.c (.int .i64 1)), none⟩,
  ⟨(some 11), none, .mov (.t 152), none⟩]
def l155_2 : AC :=
  .block 5 (.seq (.block 6 (.loop l155_3))
   (.seq (.block 8 (.loop l155_4))
    (.seq (.seq (.ops r155_17)
      (.cond (.t 134) (.exit 4) (.skip)))
     (.seq (.tops r155_18
         p155_18)
      (.seq (.ops r155_19)
       (.ops r155_20))))))
def r155_21 : List AOp :=
  [⟨(some 153), none, .mov (.t 0), none⟩,
  ⟨(some 154), none, .mov (.t 11), none⟩,
  ⟨(some 155), none, .mov (.t 0), none⟩,
  ⟨(some 156), none, .mov (.t 1), none⟩,
  ⟨(some 157), none, .mov (.t 0), none⟩,
  ⟨(some 158), none, .mov (.t 1), none⟩,
  ⟨(some 159), none, .idxS 1 (.t 157) (.t 158), (some (.t 157, .lst))⟩,
  ⟨(some 160), none, .load false 1 (.t 159), (some (.t 159, .imm))⟩,
  ⟨(some 161), none, .mov (.t 0), none⟩,
  ⟨(some 162), none, .mov (.t 11), none⟩,
  ⟨(some 163), none, .idxS 1 (.t 161) (.t 162), (some (.t 161, .lst))⟩,
  ⟨(some 164), none, .load false 1 (.t 163), (some (.t 163, .imm))⟩,
  ⟨(some 165), none, .idxS 1 (.t 153) (.t 154), (some (.t 153, .lst))⟩,
  ⟨none, none, .store 1 (.t 165) (.t 160), none⟩,
  ⟨(some 166), none, .idxS 1 (.t 155) (.t 156), (some (.t 155, .lst))⟩,
  ⟨none, none, .store 1 (.t 166) (.t 164), none⟩]
def p155_21 : List (List Nat) := [[], [], [], [], [], [], [4, 5], [6], [], [], [8, 9], [10], [0, 1, 0, 1, 4, 5, 6, 7, 11], [12, 7, 0, 1, 4, 5, 6, 7, 11], [2, 3, 0, 1, 2, 3, 4, 5, 6, 7, 8, 9, 10, 11, 12, 13], [14, 11, 13, 0, 1, 2, 3, 4, 5, 6, 7, 8, 9, 10, 11, 12, 13]]
def r155_22 : List AOp :=
  [⟨(some 167), none, .mov (.t 11), none⟩,
  ⟨(some 8), none, .mov (.t 167), none⟩,
  ⟨(some 9), none, .mov (.c (.bool false)), none⟩]
/-- slices.partitionOrdered[int] -/
def c155 : AC :=
  .seq (.ops r155_0)
  (.seq (.tops r155_1
      p155_1)
   (.seq (.ops r155_2)
    (.seq (.block 0 (.loop l155_0))
     (.seq (.block 2 (.loop l155_1))
      (.seq (.seq (.ops r155_7)
        (.cond (.t 65) (.seq (.tops r155_8
             p155_8)
          (.seq (.ops r155_9)
           (.ret))) (.skip)))
       (.seq (.tops r155_10
           p155_10)
        (.seq (.ops r155_11)
         (.seq (.ops r155_12)
          (.seq (.block 4 (.loop l155_2))
           (.seq (.tops r155_21
               p155_21)
            (.seq (.ops r155_22)
             (.ret))))))))))))
def a155 : AFn := { res := [.tmp 8, .tmp 9], body := c155, keepA := false, keepR := false, pure := false }
theorem k155 : chkFn Tryz.prog Tryz.f155 a155 = true := by kernel_rfl

/-! math/bits.Len32 -/
def r156_0 : List AOp :=
  [⟨(some 2), none, .mov (.c (.int .i64 0)), none⟩]
def r156_1 : List AOp :=
  [⟨(some 3), none, .mov (.t 0), none⟩,
  ⟨(some 4), none, .bin .geq (.t 3) (.c (.int .u32 65536)), none⟩]
def r156_2 : List AOp :=
  [⟨(some 5), none, .mov (.t 0), none⟩,
  ⟨(some 6), none, .bin .shr (.t 5) (.c (.int .u64 16)), none⟩,
  ⟨(some 0), none, .mov (.t 6), none⟩]
def r156_3 : List AOp :=
  [⟨(some 2), none, .mov (.c (.int .i64 16)), none⟩]
def r156_4 : List AOp :=
  [⟨(some 7), none, .mov (.t 0), none⟩,
  ⟨(some 8), none, .bin .geq (.t 7) (.c (.int .u32 256)), none⟩]
def r156_5 : List AOp :=
  [⟨(some 9), none, .mov (.t 0), none⟩,
  ⟨(some 10), none, .bin .shr (.t 9) (.c (.int .u64 8)), none⟩,
  ⟨(some 0), none, .mov (.t 10), none⟩]
def r156_6 : List AOp :=
  [⟨(some 11), none, .mov (.t 2), none⟩,
  ⟨(some 12), none, .bin .add (.t 11) (.c (.int .i64 8)), none⟩,
  ⟨(some 2), none, .mov (.t 12), none⟩]
def r156_7 : List AOp :=
  [⟨(some 13), none, .mov (.t 2), none⟩,
  ⟨(some 14), none, .mov (.t 0), none⟩,
  ⟨(some 15), none, .conv .u8 (.t 14), none⟩,
  ⟨(some 16), none, .idxStr (.c (.str ⟨#[0, 1, 2, 2, 3, 3, 3, 3, 4, 4, 4, 4, 4, 4, 4, 4, 5, 5, 5, 5, 5, 5, 5, 5, 5, 5, 5, 5, 5, 5, 5, 5, 6, 6, 6, 6, 6, 6, 6, 6, 6, 6, 6, 6, 6, 6, 6, 6, 6, 6, 6, 6, 6, 6, 6, 6, 6, 6, 6, 6, 6, 6, 6, 6, 7, 7, 7, 7, 7, 7, 7, 7, 7, 7, 7, 7, 7, 7, 7, 7, 7, 7, 7, 7, 7, 7, 7, 7, 7, 7, 7, 7, 7, 7, 7, 7, 7, 7, 7, 7, 7, 7, 7, 7, 7, 7, 7, 7, 7, 7, 7, 7, 7, 7, 7, 7, 7, 7, 7, 7, 7, 7, 7, 7, 7, 7, 7, 7, 8, 8, 8, 8, 8, 8, 8, 8, 8, 8, 8, 8, 8, 8, 8, 8, 8, 8, 8, 8, 8, 8, 8, 8, 8, 8, 8, 8, 8, 8, 8, 8, 8, 8, 8, 8, 8, 8, 8, 8, 8, 8, 8, 8, 8, 8, 8, 8, 8, 8, 8, 8, 8, 8, 8, 8, 8, 8, 8, 8, 8, 8, 8, 8, 8, 8, 8, 8, 8, 8, 8, 8, 8, 8, 8, 8, 8, 8, 8, 8, 8, 8, 8, 8, 8, 8, 8, 8, 8, 8, 8, 8, 8, 8, 8, 8, 8, 8, 8, 8, 8, 8, 8, 8, 8, 8, 8, 8, 8, 8, 8, 8, 8, 8, 8, 8, 8, 8, 8, 8, 8, 8, 8, 8, 8, 8, 8, 8]⟩)) (.t 15), none⟩,
  ⟨(some 17), none, .conv .i64 (.t 16), none⟩,
  ⟨(some 18), none, .bin .add (.t 13) (.t 17), none⟩,
  ⟨(some 2), none, .mov (.t 18), none⟩]
/-- math/bits.Len32 -/
def c156 : AC :=
  .seq (.ops r156_0)
  (.seq (.seq (.ops r156_1)
    (.cond (.t 4) (.seq (.ops r156_2)
      (.ops r156_3)) (.skip)))
   (.seq (.seq (.ops r156_4)
     (.cond (.t 8) (.seq (.ops r156_5)
       (.ops r156_6)) (.skip)))
    (.seq (.ops r156_7)
     (.ret))))
def a156 : AFn := { res := [.tmp 2], body := c156, keepA := false, keepR := false, pure := true }
theorem k156 : chkFn Tryz.prog Tryz.f156 a156 = true := by kernel_rfl

/-! math/bits.Len64 -/
def r157_0 : List AOp :=
  [⟨(some 2), none, .mov (.c (.int .i64 0)), none⟩]
def r157_1 : List AOp :=
  [⟨(some 3), none, .mov (.t 0), none⟩,
  ⟨(some 4), none, .bin .geq (.t 3) (.c (.int .u64 4294967296)), none⟩]
def r157_2 : List AOp :=
  [⟨(some 5), none, .mov (.t 0), none⟩,
  ⟨(some 6), none, .bin .shr (.t 5) (.c (.int .u64 32)), none⟩,
  ⟨(some 0), none, .mov (.t 6), none⟩]
def r157_3 : List AOp :=
  [⟨(some 2), none, .mov (.c (.int .i64 32)), none⟩]
def r157_4 : List AOp :=
  [⟨(some 7), none, .mov (.t 0), none⟩,
  ⟨(some 8), none, .bin .geq (.t 7) (.c (.int .u64 65536)), none⟩]
def r157_5 : List AOp :=
  [⟨(some 9), none, .mov (.t 0), none⟩,
  ⟨(some 10), none, .bin .shr (.t 9) (.c (.int .u64 16)), none⟩,
  ⟨(some 0), none, .mov (.t 10), none⟩]
def r157_6 : List AOp :=
  [⟨(some 11), none, .mov (.t 2), none⟩,
  ⟨(some 12), none, .bin .add (.t 11) (.c (.int .i64 16)), none⟩,
  ⟨(some 2), none, .mov (.t 12), none⟩]
def r157_7 : List AOp :=
  [⟨(some 13), none, .mov (.t 0), none⟩,
  ⟨(some 14), none, .bin .geq (.t 13) (.c (.int .u64 256)), none⟩]
def r157_8 : List AOp :=
  [⟨(some 15), none, .mov (.t 0), none⟩,
  ⟨(some 16), none, .bin .shr (.t 15) (.c (.int .u64 8)), none⟩,
  ⟨(some 0), none, .mov (.t 16), none⟩]
def r157_9 : List AOp :=
  [⟨(some 17), none, .mov (.t 2), none⟩,
  ⟨(some 18), none, .bin .add (.t 17) (.c (.int .i64 8)), none⟩,
  ⟨(some 2), none, .mov (.t 18), none⟩]
def r157_10 : List AOp :=
  [⟨(some 19), none, .mov (.t 2), none⟩,
  ⟨(some 20), none, .mov (.t 0), none⟩,
  ⟨(some 21), none, .conv .u8 (.t 20), none⟩,
  ⟨(some 22), none, .idxStr (.c (.str ⟨#[0, 1, 2, 2, 3, 3, 3, 3, 4, 4, 4, 4, 4, 4, 4, 4, 5, 5, 5, 5, 5, 5, 5, 5, 5, 5, 5, 5, 5, 5, 5, 5, 6, 6, 6, 6, 6, 6, 6, 6, 6, 6, 6, 6, 6, 6, 6, 6, 6, 6, 6, 6, 6, 6, 6, 6, 6, 6, 6, 6, 6, 6, 6, 6, 7, 7, 7, 7, 7, 7, 7, 7, 7, 7, 7, 7, 7, 7, 7, 7, 7, 7, 7, 7, 7, 7, 7, 7, 7, 7, 7, 7, 7, 7, 7, 7, 7, 7, 7, 7, 7, 7, 7, 7, 7, 7, 7, 7, 7, 7, 7, 7, 7, 7, 7, 7, 7, 7, 7, 7, 7, 7, 7, 7, 7, 7, 7, 7, 8, 8, 8, 8, 8, 8, 8, 8, 8, 8, 8, 8, 8, 8, 8, 8, 8, 8, 8, 8, 8, 8, 8, 8, 8, 8, 8, 8, 8, 8, 8, 8, 8, 8, 8, 8, 8, 8, 8, 8, 8, 8, 8, 8, 8, 8, 8, 8, 8, 8, 8, 8, 8, 8, 8, 8, 8, 8, 8, 8, 8, 8, 8, 8, 8, 8, 8, 8, 8, 8, 8, 8, 8, 8, 8, 8, 8, 8, 8, 8, 8, 8, 8, 8, 8, 8, 8, 8, 8, 8, 8, 8, 8, 8, 8, 8, 8, 8, 8, 8, 8, 8, 8, 8, 8, 8, 8, 8, 8, 8, 8, 8, 8, 8, 8, 8, 8, 8, 8, 8, 8, 8, 8, 8, 8, 8, 8, 8]⟩)) (.t 21), none⟩,
  ⟨(some 23), none, .conv .i64 (.t 22), none⟩,
  ⟨(some 24), none, .bin .add (.t 19) (.t 23), none⟩,
  ⟨(some 2), none, .mov (.t 24), none⟩]
/-- math/bits.Len64 -/
def c157 : AC :=
  .seq (.ops r157_0)
  (.seq (.seq (.ops r157_1)
    (.cond (.t 4) (.seq (.ops r157_2)
      (.ops r157_3)) (.skip)))
   (.seq (.seq (.ops r157_4)
     (.cond (.t 8) (.seq (.ops r157_5)
       (.ops r157_6)) (.skip)))
    (.seq (.seq (.ops r157_7)
      (.cond (.t 14) (.seq (.ops r157_8)
        (.ops r157_9)) (.skip)))
     (.seq (.ops r157_10)
      (.ret)))))
def a157 : AFn := { res := [.tmp 2], body := c157, keepA := false, keepR := false, pure := true }
theorem k157 : chkFn Tryz.prog Tryz.f157 a157 = true := by kernel_rfl

/-! slices.siftDownOrdered[int] -/
def r158_0 : List AOp :=
  [⟨(some 10), none, .mov (.t 1), none⟩,
  ⟨(some 8), none, .mov (.t 10), none⟩]
def r158_1 : List AOp :=
  [⟨(some 11), none, .mov (.t 8), none⟩,
  ⟨(some 12), none, .bin .mul (.c (.int .i64 2)) (.t 11), none⟩,
  ⟨(some 13), none, .bin .add (.t 12) (.c (.int .i64 1)), none⟩,
  ⟨(some 9), none, .mov (.t 13), none⟩]
def r158_2 : List AOp :=
  [⟨(some 14), none, .mov (.t 9), none⟩,
  ⟨(some 15), none, .mov (.t 2), none⟩,
  ⟨(some 16), none, .bin .geq (.t 14) (.t 15), none⟩]
def r158_3 : List AOp :=
  [⟨(some 17), none, .mov (.t 9), none⟩,
  ⟨(some 18), none, .bin .add (.t 17) (.c (.int .i64 1)), none⟩,
  ⟨(some 19), none, .mov (.t 2), none⟩,
  ⟨(some 20), none, .bin .lss (.t 18) (.t 19), none⟩,
  ⟨(some 21), none, .mov (.t 20), none⟩,
  ⟨(some 22), (some (21, true)), .mov (.t 0), none⟩,
  ⟨(some 23), (some (21, true)), .mov (.t 3), none⟩,
  ⟨(some 24), (some (21, true)), .mov (.t 9), none⟩,
  ⟨(some 25), (some (21, true)), .bin .add (.t 23) (.t 24), none⟩,
  ⟨(some 26), (some (21, true)), .idxS 1 (.t 22) (.t 25), (some (.t 22, .lst))⟩,
  ⟨(some 27), (some (21, true)), .load false 1 (.t 26), (some (.t 26, .imm))⟩,
  ⟨(some 28), (some (21, true)), .mov (.t 0), none⟩,
  ⟨(some 29), (some (21, true)), .mov (.t 3), none⟩,
  ⟨(some 30), (some (21, true)), .mov (.t 9), none⟩,
  ⟨(some 31), (some (21, true)), .bin .add (.t 29) (.t 30), none⟩,
  ⟨(some 32), (some (21, true)), .bin .add (.t 31) (.c (.int .i64 1)), none⟩,
  ⟨(some 33), (some (21, true)), .idxS 1 (.t 28) (.t 32), (some (.t 28, .lst))⟩,
  ⟨(some 34), (some (21, true)), .load false 1 (.t 33), (some (.t 33, .imm))⟩,
  ⟨(some 35), (some (21, true)), .call 153 [.t 27, .t 34], none⟩,
  ⟨(some 36), none, .pick (.t 21) (.t 35) (.c (.bool false)), none⟩]
def p158_3 : List (List Nat) := [[], [0], [], [1, 2], [3], [4], [4], [4], [6, 7, 4], [5, 8, 4], [9, 4], [4], [4], [4], [12, 13, 4], [14, 4], [11, 15, 4], [16, 4], [10, 17, 4, 4], [4, 18]]
def r158_4 : List AOp :=
  [⟨(some 37), none, .mov (.t 9), none⟩,
  ⟨(some 38), none, .bin .add (.t 37) (.c (.int .i64 1)), none⟩,
  ⟨(some 9), none, .mov (.t 38), none⟩]
def r158_5 : List AOp :=
  [⟨(some 39), none, .mov (.t 0), none⟩,
  ⟨(some 40), none, .mov (.t 3), none⟩,
  ⟨(some 41), none, .mov (.t 8), none⟩,
  ⟨(some 42), none, .bin .add (.t 40) (.t 41), none⟩,
  ⟨(some 43), none, .idxS 1 (.t 39) (.t 42), (some (.t 39, .lst))⟩,
  ⟨(some 44), none, .load false 1 (.t 43), (some (.t 43, .imm))⟩,
  ⟨(some 45), none, .mov (.t 0), none⟩,
  ⟨(some 46), none, .mov (.t 3), none⟩,
  ⟨(some 47), none, .mov (.t 9), none⟩,
  ⟨(some 48), none, .bin .add (.t 46) (.t 47), none⟩,
  ⟨(some 49), none, .idxS 1 (.t 45) (.t 48), (some (.t 45, .lst))⟩,
  ⟨(some 50), none, .load false 1 (.t 49), (some (.t 49, .imm))⟩,
  ⟨(some 51), none, .call 153 [.t 44, .t 50], none⟩,
  ⟨(some 52), none, .un .not (.t 51), none⟩]
def p158_5 : List (List Nat) := [[], [], [], [1, 2], [0, 3], [4], [], [], [], [7, 8], [6, 9], [10], [5, 11], [12]]
def r158_6 : List AOp :=
  [⟨(some 53), none, .mov (.t 0), none⟩,
  ⟨(some 54), none, .mov (.t 3), none⟩,
  ⟨(some 55), none, .mov (.t 8), none⟩,
  ⟨(some 56), none, .bin .add (.t 54) (.t 55), none⟩,
  ⟨(some 57), none, .mov (.t 0), none⟩,
  ⟨(some 58), none, .mov (.t 3), none⟩,
  ⟨(some 59), none, .mov (.t 9), none⟩,
  ⟨(some 60), none, .bin .add (.t 58) (.t 59), none⟩,
  ⟨(some 61), none, .mov (.t 0), none⟩,
  ⟨(some 62), none, .mov (.t 3), none⟩,
  ⟨(some 63), none, .mov (.t 9), none⟩,
  ⟨(some 64), none, .bin .add (.t 62) (.t 63), none⟩,
  ⟨(some 65), none, .idxS 1 (.t 61) (.t 64), (some (.t 61, .lst))⟩,
  ⟨(some 66), none, .load false 1 (.t 65), (some (.t 65, .imm))⟩,
  ⟨(some 67), none, .mov (.t 0), none⟩,
  ⟨(some 68), none, .mov (.t 3), none⟩,
  ⟨(some 69), none, .mov (.t 8), none⟩,
  ⟨(some 70), none, .bin .add (.t 68) (.t 69), none⟩,
  ⟨(some 71), none, .idxS 1 (.t 67) (.t 70), (some (.t 67, .lst))⟩,
  ⟨(some 72), none, .load false 1 (.t 71), (some (.t 71, .imm))⟩,
  ⟨(some 73), none, .idxS 1 (.t 53) (.t 56), (some (.t 53, .lst))⟩,
  ⟨none, none, .store 1 (.t 73) (.t 66), none⟩,
  ⟨(some 74), none, .idxS 1 (.t 57) (.t 60), (some (.t 57, .lst))⟩,
  ⟨none, none, .store 1 (.t 74) (.t 72), none⟩]
def p158_6 : List (List Nat) := [[], [], [], [1, 2], [], [], [], [5, 6], [], [], [], [9, 10], [8, 11], [12], [], [], [], [15, 16], [14, 17], [18], [0, 3, 0, 1, 2, 3, 8, 9, 10, 11, 12, 13, 19], [20, 13, 0, 1, 2, 3, 8, 9, 10, 11, 12, 13, 19], [4, 7, 0, 1, 2, 3, 4, 5, 6, 7, 8, 9, 10, 11, 12, 13, 14, 15, 16, 17, 18, 19, 20, 21], [22, 19, 21, 0, 1, 2, 3, 4, 5, 6, 7, 8, 9, 10, 11, 12, 13, 14, 15, 16, 17, 18, 19, 20, 21]]
def r158_7 : List AOp :=
  [⟨(some 75), none, .mov (.t 9), none⟩,
  ⟨(some 8), none, .mov (.t 75), none⟩]
def l158_0 : AC :=
  .block 1 (.seq (.ops r158_1)
   (.seq (.seq (.ops r158_2)
     (.cond (.t 16) (.exit 0) (.skip)))
    (.seq (.seq (.tops r158_3
         p158_3)
      (.cond (.t 36) (.ops r158_4) (.skip)))
     (.seq (.seq (.tops r158_5
          p158_5)
       (.cond (.t 52) (.ret) (.skip)))
      (.seq (.tops r158_6
          p158_6)
       (.ops r158_7))))))
/-- slices.siftDownOrdered[int] -/
def c158 : AC :=
  .seq (.ops r158_0)
  (.block 0 (.loop l158_0))
def a158 : AFn := { res := [], body := c158, keepA := false, keepR := false, pure := false }
theorem k158 : chkFn Tryz.prog Tryz.f158 a158 = true := by kernel_rfl

/-! slices.nextPowerOfTwo -/
def r159_0 : List AOp :=
  [⟨(some 2), none, .mov (.c (.int .u64 0)), none⟩]
def r159_1 : List AOp :=
  [⟨(some 3), none, .mov (.t 0), none⟩,
  ⟨(some 4), none, .conv .u64 (.t 3), none⟩,
  ⟨(some 5), none, .call 139 [.t 4], none⟩,
  ⟨(some 6), none, .bin .shl (.c (.int .u64 1)) (.t 5), none⟩,
  ⟨(some 2), none, .mov (.t 6), none⟩]
/-- slices.nextPowerOfTwo -/
def c159 : AC :=
  .seq (.ops r159_0)
  (.seq (.ops r159_1)
   (.ret))
def a159 : AFn := { res := [.tmp 2], body := c159, keepA := false, keepR := false, pure := true }
theorem k159 : chkFn Tryz.prog Tryz.f159 a159 = true := by kernel_rfl

/-! (*slices.xorshift).Next -/
def r160_0 : List AOp :=
  [⟨(some 2), none, .mov (.c (.int .u64 0)), none⟩]
def r160_1 : List AOp :=
  [⟨(some 3), none, .mov (.t 0), none⟩,
  ⟨(some 4), none, .nilchk (.t 3), none⟩,
  ⟨(some 5), none, .load false 1 (.t 4), none⟩,
  ⟨(some 6), none, .mov (.t 0), none⟩,
  ⟨(some 7), none, .nilchk (.t 6), none⟩,
  ⟨(some 8), none, .load false 1 (.t 7), none⟩,
  ⟨(some 9), none, .bin .shl (.t 8) (.c (.int .u64 13)), none⟩,
  ⟨(some 10), none, .bin .xor (.t 5) (.t 9), none⟩,
  ⟨(some 11), none, .nilchk (.t 3), none⟩,
  ⟨none, none, .store 1 (.t 11) (.t 10), none⟩]
def p160_1 : List (List Nat) := [[], [0], [1], [], [3], [4], [5], [2, 6], [0, 0, 1, 2, 3, 4, 5, 6, 7], [8, 7, 0, 1, 2, 3, 4, 5, 6, 7]]
def r160_2 : List AOp :=
  [⟨(some 12), none, .mov (.t 0), none⟩,
  ⟨(some 13), none, .nilchk (.t 12), none⟩,
  ⟨(some 14), none, .load false 1 (.t 13), none⟩,
  ⟨(some 15), none, .mov (.t 0), none⟩,
  ⟨(some 16), none, .nilchk (.t 15), none⟩,
  ⟨(some 17), none, .load false 1 (.t 16), none⟩,
  ⟨(some 18), none, .bin .shr (.t 17) (.c (.int .u64 7)), none⟩,
  ⟨(some 19), none, .bin .xor (.t 14) (.t 18), none⟩,
  ⟨(some 20), none, .nilchk (.t 12), none⟩,
  ⟨none, none, .store 1 (.t 20) (.t 19), none⟩]
def p160_2 : List (List Nat) := [[], [0], [1], [], [3], [4], [5], [2, 6], [0, 0, 1, 2, 3, 4, 5, 6, 7], [8, 7, 0, 1, 2, 3, 4, 5, 6, 7]]
def r160_3 : List AOp :=
  [⟨(some 21), none, .mov (.t 0), none⟩,
  ⟨(some 22), none, .nilchk (.t 21), none⟩,
  ⟨(some 23), none, .load false 1 (.t 22), none⟩,
  ⟨(some 24), none, .mov (.t 0), none⟩,
  ⟨(some 25), none, .nilchk (.t 24), none⟩,
  ⟨(some 26), none, .load false 1 (.t 25), none⟩,
  ⟨(some 27), none, .bin .shl (.t 26) (.c (.int .u64 17)), none⟩,
  ⟨(some 28), none, .bin .xor (.t 23) (.t 27), none⟩,
  ⟨(some 29), none, .nilchk (.t 21), none⟩,
  ⟨none, none, .store 1 (.t 29) (.t 28), none⟩]
def p160_3 : List (List Nat) := [[], [0], [1], [], [3], [4], [5], [2, 6], [0, 0, 1, 2, 3, 4, 5, 6, 7], [8, 7, 0, 1, 2, 3, 4, 5, 6, 7]]
def r160_4 : List AOp :=
  [⟨(some 30), none, .mov (.t 0), none⟩,
  ⟨(some 31), none, .nilchk (.t 30), none⟩,
  ⟨(some 32), none, .load false 1 (.t 31), none⟩,
  ⟨(some 2), none, .mov (.t 32), none⟩]
/-- (*slices.xorshift).Next -/
def c160 : AC :=
  .seq (.ops r160_0)
  (.seq (.tops r160_1
      p160_1)
   (.seq (.tops r160_2
       p160_2)
    (.seq (.tops r160_3
        p160_3)
     (.seq (.ops r160_4)
      (.ret)))))
def a160 : AFn := { res := [.tmp 2], body := c160, keepA := false, keepR := false, pure := false }
theorem k160 : chkFn Tryz.prog Tryz.f160 a160 = true := by kernel_rfl

/-! slices.medianAdjacentOrdered[int] -/
def r161_0 : List AOp :=
  [⟨(some 6), none, .mov (.c (.int .i64 0)), none⟩]
def r161_1 : List AOp :=
  [⟨(some 7), none, .mov (.t 0), none⟩,
  ⟨(some 8), none, .mov (.t 1), none⟩,
  ⟨(some 9), none, .bin .sub (.t 8) (.c (.int .i64 1)), none⟩,
  ⟨(some 10), none, .mov (.t 1), none⟩,
  ⟨(some 11), none, .mov (.t 1), none⟩,
  ⟨(some 12), none, .bin .add (.t 11) (.c (.int .i64 1)), none⟩,
  ⟨(some 13), none, .mov (.t 2), none⟩,
  ⟨(some 14), none, .call 162 [.t 7, .t 9, .t 10, .t 12, .t 13], none⟩,
  ⟨(some 6), none, .mov (.t 14), none⟩]
/-- slices.medianAdjacentOrdered[int] -/
def c161 : AC :=
  .seq (.ops r161_0)
  (.seq (.ops r161_1)
   (.ret))
def a161 : AFn := { res := [.tmp 6], body := c161, keepA := false, keepR := false, pure := false }
theorem k161 : chkFn Tryz.prog Tryz.f161 a161 = true := by kernel_rfl

/-! slices.medianOrdered[int] -/
def r162_0 : List AOp :=
  [⟨(some 10), none, .mov (.c (.int .i64 0)), none⟩]
def r162_1 : List AOp :=
  [⟨(some 12), none, .mov (.t 0), none⟩,
  ⟨(some 13), none, .mov (.t 1), none⟩,
  ⟨(some 14), none, .mov (.t 2), none⟩,
  ⟨(some 15), none, .mov (.t 4), none⟩,
  ⟨(some 16), none, .call 164 [.t 12, .t 13, .t 14, .t 15], none⟩,
  ⟨(some 11), none, .mov (.t 16), none⟩,
  ⟨(some 17), none, .ext (.t 11) 0, none⟩,
  ⟨(some 18), none, .ext (.t 11) 1, none⟩,
  ⟨(some 1), none, .mov (.t 17), none⟩,
  ⟨(some 2), none, .mov (.t 18), none⟩]
def r162_2 : List AOp :=
  [⟨(some 20), none, .mov (.t 0), none⟩,
  ⟨(some 21), none, .mov (.t 2), none⟩,
  ⟨(some 22), none, .mov (.t 3), none⟩,
  ⟨(some 23), none, .mov (.t 4), none⟩,
  ⟨(some 24), none, .call 164 [.t 20, .t 21, .t 22, .t 23], none⟩,
  ⟨(some 19), none, .mov (.t 24), none⟩,
  ⟨(some 25), none, .ext (.t 19) 0, none⟩,
  ⟨(some 26), none, .ext (.t 19) 1, none⟩,
  ⟨(some 2), none, .mov (.t 25), none⟩,
  ⟨(some 3), none, .mov (.t 26), none⟩]
def r162_3 : List AOp :=
  [⟨(some 28), none, .mov (.t 0), none⟩,
  ⟨(some 29), none, .mov (.t 1), none⟩,
  ⟨(some 30), none, .mov (.t 2), none⟩,
  ⟨(some 31), none, .mov (.t 4), none⟩,
  ⟨(some 32), none, .call 164 [.t 28, .t 29, .t 30, .t 31], none⟩,
  ⟨(some 27), none, .mov (.t 32), none⟩,
  ⟨(some 33), none, .ext (.t 27) 0, none⟩,
  ⟨(some 34), none, .ext (.t 27) 1, none⟩,
  ⟨(some 1), none, .mov (.t 33), none⟩,
  ⟨(some 2), none, .mov (.t 34), none⟩]
def r162_4 : List AOp :=
  [⟨(some 35), none, .mov (.t 2), none⟩,
  ⟨(some 10), none, .mov (.t 35), none⟩]
/-- slices.medianOrdered[int] -/
def c162 : AC :=
  .seq (.ops r162_0)
  (.seq (.ops r162_1)
   (.seq (.ops r162_2)
    (.seq (.ops r162_3)
     (.seq (.ops r162_4)
      (.ret)))))
def a162 : AFn := { res := [.tmp 10], body := c162, keepA := false, keepR := false, pure := false }
theorem k162 : chkFn Tryz.prog Tryz.f162 a162 = true := by kernel_rfl

/-! cmp.isNaN[int] -/
def r163_0 : List AOp :=
  [⟨(some 2), none, .mov (.c (.bool false)), none⟩]
def r163_1 : List AOp :=
  [⟨(some 3), none, .mov (.t 0), none⟩,
  ⟨(some 4), none, .mov (.t 0), none⟩,
  ⟨(some 5), none, .bin .neq (.t 3) (.t 4), none⟩,
  ⟨(some 2), none, .mov (.t 5), none⟩]
/-- cmp.isNaN[int] -/
def c163 : AC :=
  .seq (.ops r163_0)
  (.seq (.ops r163_1)
   (.ret))
def a163 : AFn := { res := [.tmp 2], body := c163, keepA := false, keepR := false, pure := true }
theorem k163 : chkFn Tryz.prog Tryz.f163 a163 = true := by kernel_rfl

/-! slices.order2Ordered[int] -/
def r164_0 : List AOp :=
  [⟨(some 8), none, .mov (.c (.int .i64 0)), none⟩,
  ⟨(some 9), none, .mov (.c (.int .i64 0)), none⟩]
def r164_1 : List AOp :=
  [⟨(some 10), none, .mov (.t 0), none⟩,
  ⟨(some 11), none, .mov (.t 2), none⟩,
  ⟨(some 12), none, .idxS 1 (.t 10) (.t 11), (some (.t 10, .lst))⟩,
  ⟨(some 13), none, .load false 1 (.t 12), (some (.t 12, .imm))⟩,
  ⟨(some 14), none, .mov (.t 0), none⟩,
  ⟨(some 15), none, .mov (.t 1), none⟩,
  ⟨(some 16), none, .idxS 1 (.t 14) (.t 15), (some (.t 14, .lst))⟩,
  ⟨(some 17), none, .load false 1 (.t 16), (some (.t 16, .imm))⟩,
  ⟨(some 18), none, .call 153 [.t 13, .t 17], none⟩]
def p164_1 : List (List Nat) := [[], [], [0, 1], [2], [], [], [4, 5], [6], [3, 7]]
def r164_2 : List AOp :=
  [⟨(some 19), none, .mov (.t 3), none⟩,
  ⟨(some 20), none, .nilchk (.t 19), none⟩,
  ⟨(some 21), none, .load false 1 (.t 20), none⟩,
  ⟨(some 22), none, .bin .add (.t 21) (.c (.int .i64 1)), none⟩,
  ⟨(some 23), none, .nilchk (.t 19), none⟩,
  ⟨none, none, .store 1 (.t 23) (.t 22), none⟩]
def r164_3 : List AOp :=
  [⟨(some 24), none, .mov (.t 2), none⟩,
  ⟨(some 25), none, .mov (.t 1), none⟩,
  ⟨(some 8), none, .mov (.t 24), none⟩,
  ⟨(some 9), none, .mov (.t 25), none⟩]
def r164_4 : List AOp :=
  [⟨(some 26), none, .mov (.t 1), none⟩,
  ⟨(some 27), none, .mov (.t 2), none⟩,
  ⟨(some 8), none, .mov (.t 26), none⟩,
  ⟨(some 9), none, .mov (.t 27), none⟩]
/-- slices.order2Ordered[int] -/
def c164 : AC :=
  .seq (.ops r164_0)
  (.seq (.seq (.tops r164_1
       p164_1)
    (.cond (.t 18) (.seq (.ops r164_2)
      (.seq (.ops r164_3)
       (.ret))) (.skip)))
   (.seq (.ops r164_4)
    (.ret)))
def a164 : AFn := { res := [.tmp 8, .tmp 9], body := c164, keepA := false, keepR := false, pure := false }
theorem k164 : chkFn Tryz.prog Tryz.f164 a164 = true := by kernel_rfl

end Go.Proofs.YtcngflmnbdcppaaGreat

/- The table of the compact code of the program's functions, and that it fits the program: printed by mkcode.py. -/
namespace Go.Proofs.YtcngflmnbdcppaaGreat
open Go.LS

def tl0 : List (FuncId × AFn) := [(3, a3), (6, a6), (8, a8), (9, a9), (10, a10), (11, a11), (12, a12), (13, a13), (14, a14), (15, a15), (16, a16), (18, a18), (20, a20), (21, a21), (22, a22), (23, a23), (24, a24), (25, a25), (26, a26), (27, a27), (29, a29), (30, a30), (36, a36), (37, a37), (38, a38), (39, a39), (50, a50), (51, a51), (52, a52), (53, a53), (54, a54), (55, a55), (56, a56), (70, a70), (71, a71), (72, a72), (73, a73), (74, a74), (75, a75), (76, a76)]
theorem tlok0 : ListOK Tryz.prog tl0 := ⟨⟨_, Tryz.func3, k3, rfl⟩, ⟨_, Tryz.func6, k6, rfl⟩, ⟨_, Tryz.func8, k8, rfl⟩, ⟨_, Tryz.func9, k9, rfl⟩, ⟨_, Tryz.func10, k10, rfl⟩, ⟨_, Tryz.func11, k11, rfl⟩, ⟨_, Tryz.func12, k12, rfl⟩, ⟨_, Tryz.func13, k13, rfl⟩, ⟨_, Tryz.func14, k14, rfl⟩, ⟨_, Tryz.func15, k15, rfl⟩, ⟨_, Tryz.func16, k16, rfl⟩, ⟨_, Tryz.func18, k18, rfl⟩, ⟨_, Tryz.func20, k20, rfl⟩, ⟨_, Tryz.func21, k21, rfl⟩, ⟨_, Tryz.func22, k22, rfl⟩, ⟨_, Tryz.func23, k23, rfl⟩, ⟨_, Tryz.func24, k24, rfl⟩, ⟨_, Tryz.func25, k25, rfl⟩, ⟨_, Tryz.func26, k26, rfl⟩, ⟨_, Tryz.func27, k27, rfl⟩, ⟨_, Tryz.func29, k29, rfl⟩, ⟨_, Tryz.func30, k30, rfl⟩, ⟨_, Tryz.func36, k36, rfl⟩, ⟨_, Tryz.func37, k37, rfl⟩, ⟨_, Tryz.func38, k38, rfl⟩, ⟨_, Tryz.func39, k39, rfl⟩, ⟨_, Tryz.func50, k50, rfl⟩, ⟨_, Tryz.func51, k51, rfl⟩, ⟨_, Tryz.func52, k52, rfl⟩, ⟨_, Tryz.func53, k53, rfl⟩, ⟨_, Tryz.func54, k54, rfl⟩, ⟨_, Tryz.func55, k55, rfl⟩, ⟨_, Tryz.func56, k56, rfl⟩, ⟨_, Tryz.func70, k70, rfl⟩, ⟨_, Tryz.func71, k71, rfl⟩, ⟨_, Tryz.func72, k72, rfl⟩, ⟨_, Tryz.func73, k73, rfl⟩, ⟨_, Tryz.func74, k74, rfl⟩, ⟨_, Tryz.func75, k75, rfl⟩, ⟨_, Tryz.func76, k76, rfl⟩, trivial⟩
def tl1 : List (FuncId × AFn) := [(77, a77), (78, a78), (79, a79), (80, a80), (81, a81), (82, a82), (83, a83), (84, a84), (85, a85), (86, a86), (87, a87), (88, a88), (89, a89), (90, a90), (91, a91), (92, a92), (93, a93), (98, a98), (99, a99), (100, a100), (101, a101), (102, a102), (103, a103), (104, a104), (105, a105), (106, a106), (107, a107), (108, a108), (109, a109), (110, a110), (111, a111), (112, a112), (113, a113), (114, a114), (115, a115), (116, a116), (117, a117), (119, a119), (120, a120), (121, a121)]
theorem tlok1 : ListOK Tryz.prog tl1 := ⟨⟨_, Tryz.func77, k77, rfl⟩, ⟨_, Tryz.func78, k78, rfl⟩, ⟨_, Tryz.func79, k79, rfl⟩, ⟨_, Tryz.func80, k80, rfl⟩, ⟨_, Tryz.func81, k81, rfl⟩, ⟨_, Tryz.func82, k82, rfl⟩, ⟨_, Tryz.func83, k83, rfl⟩, ⟨_, Tryz.func84, k84, rfl⟩, ⟨_, Tryz.func85, k85, rfl⟩, ⟨_, Tryz.func86, k86, rfl⟩, ⟨_, Tryz.func87, k87, rfl⟩, ⟨_, Tryz.func88, k88, rfl⟩, ⟨_, Tryz.func89, k89, rfl⟩, ⟨_, Tryz.func90, k90, rfl⟩, ⟨_, Tryz.func91, k91, rfl⟩, ⟨_, Tryz.func92, k92, rfl⟩, ⟨_, Tryz.func93, k93, rfl⟩, ⟨_, Tryz.func98, k98, rfl⟩, ⟨_, Tryz.func99, k99, rfl⟩, ⟨_, Tryz.func100, k100, rfl⟩, ⟨_, Tryz.func101, k101, rfl⟩, ⟨_, Tryz.func102, k102, rfl⟩, ⟨_, Tryz.func103, k103, rfl⟩, ⟨_, Tryz.func104, k104, rfl⟩, ⟨_, Tryz.func105, k105, rfl⟩, ⟨_, Tryz.func106, k106, rfl⟩, ⟨_, Tryz.func107, k107, rfl⟩, ⟨_, Tryz.func108, k108, rfl⟩, ⟨_, Tryz.func109, k109, rfl⟩, ⟨_, Tryz.func110, k110, rfl⟩, ⟨_, Tryz.func111, k111, rfl⟩, ⟨_, Tryz.func112, k112, rfl⟩, ⟨_, Tryz.func113, k113, rfl⟩, ⟨_, Tryz.func114, k114, rfl⟩, ⟨_, Tryz.func115, k115, rfl⟩, ⟨_, Tryz.func116, k116, rfl⟩, ⟨_, Tryz.func117, k117, rfl⟩, ⟨_, Tryz.func119, k119, rfl⟩, ⟨_, Tryz.func120, k120, rfl⟩, ⟨_, Tryz.func121, k121, rfl⟩, trivial⟩
def tl2 : List (FuncId × AFn) := [(122, a122), (123, a123), (124, a124), (125, a125), (126, a126), (127, a127), (128, a128), (129, a129), (130, a130), (131, a131), (132, a132), (133, a133), (134, a134), (135, a135), (136, a136), (137, a137), (138, a138), (139, a139), (140, a140), (141, a141), (142, a142), (143, a143), (144, a144), (145, a145), (146, a146), (147, a147), (148, a148), (149, a149), (150, a150), (151, a151), (152, a152), (153, a153), (154, a154), (155, a155), (156, a156), (157, a157), (158, a158), (159, a159), (160, a160), (161, a161)]
theorem tlok2 : ListOK Tryz.prog tl2 := ⟨⟨_, Tryz.func122, k122, rfl⟩, ⟨_, Tryz.func123, k123, rfl⟩, ⟨_, Tryz.func124, k124, rfl⟩, ⟨_, Tryz.func125, k125, rfl⟩, ⟨_, Tryz.func126, k126, rfl⟩, ⟨_, Tryz.func127, k127, rfl⟩, ⟨_, Tryz.func128, k128, rfl⟩, ⟨_, Tryz.func129, k129, rfl⟩, ⟨_, Tryz.func130, k130, rfl⟩, ⟨_, Tryz.func131, k131, rfl⟩, ⟨_, Tryz.func132, k132, rfl⟩, ⟨_, Tryz.func133, k133, rfl⟩, ⟨_, Tryz.func134, k134, rfl⟩, ⟨_, Tryz.func135, k135, rfl⟩, ⟨_, Tryz.func136, k136, rfl⟩, ⟨_, Tryz.func137, k137, rfl⟩, ⟨_, Tryz.func138, k138, rfl⟩, ⟨_, Tryz.func139, k139, rfl⟩, ⟨_, Tryz.func140, k140, rfl⟩, ⟨_, Tryz.func141, k141, rfl⟩, ⟨_, Tryz.func142, k142, rfl⟩, ⟨_, Tryz.func143, k143, rfl⟩, ⟨_, Tryz.func144, k144, rfl⟩, ⟨_, Tryz.func145, k145, rfl⟩, ⟨_, Tryz.func146, k146, rfl⟩, ⟨_, Tryz.func147, k147, rfl⟩, ⟨_, Tryz.func148, k148, rfl⟩, ⟨_, Tryz.func149, k149, rfl⟩, ⟨_, Tryz.func150, k150, rfl⟩, ⟨_, Tryz.func151, k151, rfl⟩, ⟨_, Tryz.func152, k152, rfl⟩, ⟨_, Tryz.func153, k153, rfl⟩, ⟨_, Tryz.func154, k154, rfl⟩, ⟨_, Tryz.func155, k155, rfl⟩, ⟨_, Tryz.func156, k156, rfl⟩, ⟨_, Tryz.func157, k157, rfl⟩, ⟨_, Tryz.func158, k158, rfl⟩, ⟨_, Tryz.func159, k159, rfl⟩, ⟨_, Tryz.func160, k160, rfl⟩, ⟨_, Tryz.func161, k161, rfl⟩, trivial⟩
def tl3 : List (FuncId × AFn) := [(162, a162), (163, a163), (164, a164)]
theorem tlok3 : ListOK Tryz.prog tl3 := ⟨⟨_, Tryz.func162, k162, rfl⟩, ⟨_, Tryz.func163, k163, rfl⟩, ⟨_, Tryz.func164, k164, rfl⟩, trivial⟩
def tl : List (FuncId × AFn) := tl0 ++ (tl1 ++ (tl2 ++ (tl3)))
theorem tlok : ListOK Tryz.prog tl := ListOK.append tlok0 (ListOK.append tlok1 (ListOK.append tlok2 (tlok3)))
def T0 : FuncId → Option AFn := tabOf tl
theorem T_mixed : Tryz.prog.follows .mixedOrders = true := by kernel_rfl
theorem T0_ok : TabOK Tryz.prog T0 := tabOK_of_list T_mixed tlok
theorem z3 : T0 3 = some a3 := by kernel_rfl
theorem z6 : T0 6 = some a6 := by kernel_rfl
theorem z8 : T0 8 = some a8 := by kernel_rfl
theorem z9 : T0 9 = some a9 := by kernel_rfl
theorem z10 : T0 10 = some a10 := by kernel_rfl
theorem z11 : T0 11 = some a11 := by kernel_rfl
theorem z12 : T0 12 = some a12 := by kernel_rfl
theorem z13 : T0 13 = some a13 := by kernel_rfl
theorem z14 : T0 14 = some a14 := by kernel_rfl
theorem z15 : T0 15 = some a15 := by kernel_rfl
theorem z16 : T0 16 = some a16 := by kernel_rfl
theorem z18 : T0 18 = some a18 := by kernel_rfl
theorem z20 : T0 20 = some a20 := by kernel_rfl
theorem z21 : T0 21 = some a21 := by kernel_rfl
theorem z22 : T0 22 = some a22 := by kernel_rfl
theorem z23 : T0 23 = some a23 := by kernel_rfl
theorem z24 : T0 24 = some a24 := by kernel_rfl
theorem z25 : T0 25 = some a25 := by kernel_rfl
theorem z26 : T0 26 = some a26 := by kernel_rfl
theorem z27 : T0 27 = some a27 := by kernel_rfl
theorem z29 : T0 29 = some a29 := by kernel_rfl
theorem z30 : T0 30 = some a30 := by kernel_rfl
theorem z36 : T0 36 = some a36 := by kernel_rfl
theorem z37 : T0 37 = some a37 := by kernel_rfl
theorem z38 : T0 38 = some a38 := by kernel_rfl
theorem z39 : T0 39 = some a39 := by kernel_rfl
theorem z50 : T0 50 = some a50 := by kernel_rfl
theorem z51 : T0 51 = some a51 := by kernel_rfl
theorem z52 : T0 52 = some a52 := by kernel_rfl
theorem z53 : T0 53 = some a53 := by kernel_rfl
theorem z54 : T0 54 = some a54 := by kernel_rfl
theorem z55 : T0 55 = some a55 := by kernel_rfl
theorem z56 : T0 56 = some a56 := by kernel_rfl
theorem z70 : T0 70 = some a70 := by kernel_rfl
theorem z71 : T0 71 = some a71 := by kernel_rfl
theorem z72 : T0 72 = some a72 := by kernel_rfl
theorem z73 : T0 73 = some a73 := by kernel_rfl
theorem z74 : T0 74 = some a74 := by kernel_rfl
theorem z75 : T0 75 = some a75 := by kernel_rfl
theorem z76 : T0 76 = some a76 := by kernel_rfl
theorem z77 : T0 77 = some a77 := by kernel_rfl
theorem z78 : T0 78 = some a78 := by kernel_rfl
theorem z79 : T0 79 = some a79 := by kernel_rfl
theorem z80 : T0 80 = some a80 := by kernel_rfl
theorem z81 : T0 81 = some a81 := by kernel_rfl
theorem z82 : T0 82 = some a82 := by kernel_rfl
theorem z83 : T0 83 = some a83 := by kernel_rfl
theorem z84 : T0 84 = some a84 := by kernel_rfl
theorem z85 : T0 85 = some a85 := by kernel_rfl
theorem z86 : T0 86 = some a86 := by kernel_rfl
theorem z87 : T0 87 = some a87 := by kernel_rfl
theorem z88 : T0 88 = some a88 := by kernel_rfl
theorem z89 : T0 89 = some a89 := by kernel_rfl
theorem z90 : T0 90 = some a90 := by kernel_rfl
theorem z91 : T0 91 = some a91 := by kernel_rfl
theorem z92 : T0 92 = some a92 := by kernel_rfl
theorem z93 : T0 93 = some a93 := by kernel_rfl
theorem z98 : T0 98 = some a98 := by kernel_rfl
theorem z99 : T0 99 = some a99 := by kernel_rfl
theorem z100 : T0 100 = some a100 := by kernel_rfl
theorem z101 : T0 101 = some a101 := by kernel_rfl
theorem z102 : T0 102 = some a102 := by kernel_rfl
theorem z103 : T0 103 = some a103 := by kernel_rfl
theorem z104 : T0 104 = some a104 := by kernel_rfl
theorem z105 : T0 105 = some a105 := by kernel_rfl
theorem z106 : T0 106 = some a106 := by kernel_rfl
theorem z107 : T0 107 = some a107 := by kernel_rfl
theorem z108 : T0 108 = some a108 := by kernel_rfl
theorem z109 : T0 109 = some a109 := by kernel_rfl
theorem z110 : T0 110 = some a110 := by kernel_rfl
theorem z111 : T0 111 = some a111 := by kernel_rfl
theorem z112 : T0 112 = some a112 := by kernel_rfl
theorem z113 : T0 113 = some a113 := by kernel_rfl
theorem z114 : T0 114 = some a114 := by kernel_rfl
theorem z115 : T0 115 = some a115 := by kernel_rfl
theorem z116 : T0 116 = some a116 := by kernel_rfl
theorem z117 : T0 117 = some a117 := by kernel_rfl
theorem z119 : T0 119 = some a119 := by kernel_rfl
theorem z120 : T0 120 = some a120 := by kernel_rfl
theorem z121 : T0 121 = some a121 := by kernel_rfl
theorem z122 : T0 122 = some a122 := by kernel_rfl
theorem z123 : T0 123 = some a123 := by kernel_rfl
theorem z124 : T0 124 = some a124 := by kernel_rfl
theorem z125 : T0 125 = some a125 := by kernel_rfl
theorem z126 : T0 126 = some a126 := by kernel_rfl
theorem z127 : T0 127 = some a127 := by kernel_rfl
theorem z128 : T0 128 = some a128 := by kernel_rfl
theorem z129 : T0 129 = some a129 := by kernel_rfl
theorem z130 : T0 130 = some a130 := by kernel_rfl
theorem z131 : T0 131 = some a131 := by kernel_rfl
theorem z132 : T0 132 = some a132 := by kernel_rfl
theorem z133 : T0 133 = some a133 := by kernel_rfl
theorem z134 : T0 134 = some a134 := by kernel_rfl
theorem z135 : T0 135 = some a135 := by kernel_rfl
theorem z136 : T0 136 = some a136 := by kernel_rfl
theorem z137 : T0 137 = some a137 := by kernel_rfl
theorem z138 : T0 138 = some a138 := by kernel_rfl
theorem z139 : T0 139 = some a139 := by kernel_rfl
theorem z140 : T0 140 = some a140 := by kernel_rfl
theorem z141 : T0 141 = some a141 := by kernel_rfl
theorem z142 : T0 142 = some a142 := by kernel_rfl
theorem z143 : T0 143 = some a143 := by kernel_rfl
theorem z144 : T0 144 = some a144 := by kernel_rfl
theorem z145 : T0 145 = some a145 := by kernel_rfl
theorem z146 : T0 146 = some a146 := by kernel_rfl
theorem z147 : T0 147 = some a147 := by kernel_rfl
theorem z148 : T0 148 = some a148 := by kernel_rfl
theorem z149 : T0 149 = some a149 := by kernel_rfl
theorem z150 : T0 150 = some a150 := by kernel_rfl
theorem z151 : T0 151 = some a151 := by kernel_rfl
theorem z152 : T0 152 = some a152 := by kernel_rfl
theorem z153 : T0 153 = some a153 := by kernel_rfl
theorem z154 : T0 154 = some a154 := by kernel_rfl
theorem z155 : T0 155 = some a155 := by kernel_rfl
theorem z156 : T0 156 = some a156 := by kernel_rfl
theorem z157 : T0 157 = some a157 := by kernel_rfl
theorem z158 : T0 158 = some a158 := by kernel_rfl
theorem z159 : T0 159 = some a159 := by kernel_rfl
theorem z160 : T0 160 = some a160 := by kernel_rfl
theorem z161 : T0 161 = some a161 := by kernel_rfl
theorem z162 : T0 162 = some a162 := by kernel_rfl
theorem z163 : T0 163 = some a163 := by kernel_rfl
theorem z164 : T0 164 = some a164 := by kernel_rfl
end Go.Proofs.YtcngflmnbdcppaaGreat

/- slices.AppendSeq over an iterator that gives nothing: it hands back what it was given. -/
namespace Go.Proofs.YtcngflmnbdcppaaGreat
open Go.LS Go.RowKit Go.Proofs

/-- The loop is entered; nothing else is done ahead of the call. -/
theorem wpIn_rangeFunc_same {F : Fence} {n : Nat} {P : Program} {g : Operand} {ps : Array Tmp} {assign body : Code} {Q : Exit → Act → World → Prop} {a : Act} {w : World}
    (h : ∀ fn, F.fn fn → ∃ (l : Nat) (mark : List Deferred) (w₁ : World) (d : Deferred) (f : FuncId) (args : Array Value),
      (Instr.enterLoop fn a.tmps ps assign body F.round).run P w = .ok (l, mark) w₁ ∧
      (resolve a.eval (rangeCall g l) 0).run P w₁ = .ok d w₁ ∧
      (∀ f', Target.leads P w₁ d.target d.args = some f' → F.fn f') ∧
      (invoke d.target d.args).run P w₁ = .ok (.enter f args) w₁ ∧
      (F.depth.isSome = true → 1 ≤ n) ∧
      CallsIn F (n - 1) P f args w₁ (rangePost F n P l Q { a with defers := mark ++ a.defers })) :
    (Code.rangeFunc g ps assign body).wpIn F n P Q a w :=
  wpIn_rangeFunc (fun fn hf => let ⟨l, mark, w₁, d, f, args, h⟩ := h fn hf; ⟨l, mark, w₁, d, w₁, f, args, w₁, h⟩)

set_option maxRecDepth 100000 in
set_option maxHeartbeats 2000000 in
theorem appendSeq_none (g : FuncId) (lb : Array Value) (w : World) (fn : Func) (hf : Tryz.prog.funcs[g]? = some fn) (hb : fn.body.isSome = true) (hn : (fn.name == "runtime.NumGoroutine") = false) (R : World → Prop)
    (h : ∀ W1 y, W1 = (((w.alloc (.cells #[.slice none 0 0] 33)).alloc (.deferred (some []))).alloc (.loop y)) → y.state = .ready →
      Calls Tryz.prog g (#[.func (.yield (w.heap.size + 2)) #[] #[]] ++ lb) W1 fun e W2 => (∃ v, e = .returned v) ∧ (∀ j, j = w.heap.size ∨ j = w.heap.size + 1 ∨ j = w.heap.size + 2 → W2.heap[j]? = W1.heap[j]?) ∧
         (∀ W3, (∀ j, j ≠ w.heap.size + 1 → j ≠ w.heap.size + 2 → W3.heap[j]? = W2.heap[j]?) → Same W2 W3 → R W3)) :
    Calls Tryz.prog 137 #[.slice none 0 0, .func (.func g) #[] lb] w fun e w' => e = .returned (.slice none 0 0) ∧ R w' := by
  refine (callsIn_wide (n := 3)).1 ?_
  refine callsIn_of_wp_marks Tryz.func137 rfl trivial ?_ rfl
  simp only [Tryz.ntmps137, List.size_toArray, List.length_cons, List.length_nil, Nat.reduceAdd, Nat.reduceSub, Array.replicate_succ, Array.replicate_zero, List.push_toArray, List.append_toArray, List.nil_append, List.cons_append]
  gi_wp2
  refine wpIn_rangeFunc_same ?_
  intro fn' hfn'
  obtain ⟨W0, hW0⟩ : ∃ W0, w.alloc (.cells #[.slice none 0 0] 33) = W0 := ⟨_, rfl⟩
  have hs0 : W0.heap.size = w.heap.size + 1 := by rw [← hW0]; simp
  have hv0 : W0.heap[w.heap.size]? = some (.cells #[.slice none 0 0] 33 (0, 0)) := by rw [← hW0]; exact World.alloc_heap_new w _
  rw [hW0] at h ⊢
  refine ⟨W0.heap.size + 1, [{ target := .collected W0.heap.size, args := #[] }], _, { target := .fn (.func g) lb, args := #[.func (.yield (W0.heap.size + 1)) #[] #[]] }, g,
    #[.func (.yield (W0.heap.size + 1)) #[] #[]] ++ lb, run_enterLoop_outer _ _ _ _ _, ?_, ?_, ?_, fun _ => (by omega), ?_⟩
  · simp [resolve, go_sem]
  · intro f' hf'; exact trivial
  · simp [invoke, go_sem, run_callFunc hf hb hn]
  · have key : ∀ y : Loop, y.state = .ready → y.pending = none → Calls Tryz.prog g (#[Value.func (.yield (W0.heap.size + 1)) #[] #[]] ++ lb) ((W0.alloc (.deferred (some []))).alloc (.loop y)) fun e W2 => (∃ v, e = .returned v) ∧ ∃ W3,
        (Instr.endLoop (W0.heap.size + 1)).run Tryz.prog W2 = .ok none W3 ∧ W3.heap[w.heap.size]? = some (.cells #[.slice none 0 0] 33 (0, 0)) ∧ W3.heap[W0.heap.size]? = some (.deferred (some [])) ∧ R (W3.putObj W0.heap.size (.deferred none)) := by
      intro y hy hpend
      have hc := h _ y rfl hy
      rw [show w.heap.size + 2 = W0.heap.size + 1 by omega] at hc
      have hold : ∀ k, k < W0.heap.size → ((W0.alloc (.deferred (some []))).alloc (.loop y)).heap[k]? = W0.heap[k]? := fun k hk => (Below.heap_alloc _ _ k (by simp; omega)).trans (Below.heap_alloc _ _ k hk)
      have hD1 : ((W0.alloc (.deferred (some []))).alloc (.loop y)).heap[W0.heap.size]? = some (.deferred (some [])) := (Below.heap_alloc _ _ _ (by simp)).trans (World.alloc_heap_new W0 _)
      have hL1 : ((W0.alloc (.deferred (some []))).alloc (.loop y)).heap[W0.heap.size + 1]? = some (.loop y) := by
        have := World.alloc_heap_new (W0.alloc (.deferred (some []))) (.loop y)
        rwa [World.size_alloc] at this
      refine hc.mono ?_
      rintro e W2 ⟨hv, hk, hR⟩
      have hL2 : W2.heap[W0.heap.size + 1]? = some (.loop y) := by rw [hk _ (by omega)]; exact hL1
      have hD2 : W2.heap[W0.heap.size]? = some (.deferred (some [])) := by rw [hk _ (by omega)]; exact hD1
      have hB2 : W2.heap[w.heap.size]? = some (.cells #[.slice none 0 0] 33 (0, 0)) := by rw [hk _ (by omega), hold _ (by omega)]; exact hv0
      have hend := run_endLoop (P := Tryz.prog) hL2 (by rw [hy]; simp)
      rw [hpend] at hend
      refine ⟨hv, _, hend, (World.putObj_heap_other (by omega)).trans hB2, (World.putObj_heap_other (by omega)).trans hD2, hR _ (fun j h1 h2 => ?_) ⟨rfl, rfl, rfl, fun b c1 ty1 fr1 hb => ⟨c1, ?_, rfl⟩⟩⟩
      rotate_left
      · have n1 : b ≠ W0.heap.size + 1 := fun e => by rw [e, hL2] at hb; cases hb
        have n2 : b ≠ W0.heap.size := fun e => by rw [e, hD2] at hb; cases hb
        rw [World.putObj_heap_other n2, World.putObj_heap_other n1]; exact hb
      rw [World.putObj_heap_other (by omega), World.putObj_heap_other (by omega)]
    refine (callsIn_wide.2 (key _ rfl rfl)).mono ?_
    rintro e W2 ⟨⟨v0, rfl⟩, W3, hend, hv3, hK3, hR3⟩
    rw [hs0] at hK3 hR3
    have hc3 : W3.cell? ⟨w.heap.size, 0, none⟩ = some (.slice none 0 0) := by simp [World.cell?, hv3]
    refine ⟨none, W3, hend, ?_⟩
    gi_wp2
    refine ⟨by simp, .inl ⟨_, _, rfl, run_takeDeferred hK3, ?_⟩⟩
    exact ⟨_, results_tmp rfl _ _ _, rfl, hR3⟩

/-- Of the iterator that gives nothing. -/
noncomputable def appendE (args : List V) (h : LS.Heap) : Option (V × LS.Heap) :=
  match args with
  | [.lst .nil [], .fn g [] caps] => match callD T0 g (.undef :: caps) h with
    | some (_, h') => some (.lst .nil [], h')
    | none => none
  | _ => none

theorem Inv.others {G : Ghost} {h : LS.Heap} {w w' : World} {B : Nat → Prop} (hi : Inv G h w) (h1 : ∀ b, B b → ∀ id ob r, h.objs id = some ob → G.ρ id = some r → r.b ≠ b) (h2 : ∀ b, B b → ∀ q, G.M b q = none)
    (hw : ∀ j, ¬ B j → w'.heap[j]? = w.heap[j]?) : Inv G h w' := by
  refine ⟨fun b' o c hc => ?_, fun id ob ho => ?_, hi.fresh, hi.sep⟩
  · have hne : ¬ B b' := fun e => by rw [h2 b' e] at hc; cases hc
    have := hi.imm b' o c hc
    rw [cell_heap] at this ⊢
    obtain ⟨cs, ty, fr, h3, h4⟩ := this
    exact ⟨cs, ty, fr, by rw [hw _ hne]; exact h3, h4⟩
  · obtain ⟨r, h3, h4⟩ := hi.obj id ob ho
    exact ⟨r, h3, h4.heap (hw _ (fun e => h1 _ e _ _ _ ho h3 rfl))⟩

theorem append_serves {args : List V} {h h' : LS.Heap} {v : V} (he : appendE args h = some (v, h')) : Serves Tryz.prog 137 args h v h' := by
  unfold appendE at he
  split at he
  case h_2 => cases he
  rename_i g caps
  split at he
  case h_2 => cases he
  rename_i r h2 hcall
  injection he with he
  injection he with e1 e2
  subst e1 e2
  intro F w0 G w cargs hi hf hsame hlen hargs
  have hsz : cargs.size = 2 := hlen.symm
  obtain ⟨c0, c1, rfl⟩ : ∃ c0 c1, cargs = #[c0, c1] := by
    obtain ⟨l⟩ := cargs
    match l, hsz with
    | [a, b], _ => exact ⟨a, b, rfl⟩
  have r0 : R G (.lst .nil []) c0 := hargs 0 _ rfl rfl
  have r1 : R G (.fn g [] caps) c1 := hargs 1 _ rfl rfl
  obtain ⟨a, cap, b, o, s, f, rfl, _, _, ht, _⟩ := r0.lst_inv
  obtain ⟨rfl, rfl⟩ : a = none ∧ cap = 0 := ht
  obtain ⟨cx, cy, rfl, hx, hy⟩ := r1.fn_inv
  have hcx : cx = #[] := Array.eq_empty_of_size_eq_zero hx.size.symm
  subst hcx
  obtain ⟨fn, f1, f2, f3, f4⟩ := callD_sound T0_ok g _ _ _ _ hcall
  refine (appendSeq_none g cy w fn f1 f2 f3 (fun w' => ∃ G', G.le G' ∧ Inv G' h2 w' ∧ FrameOK F G' h2 w' ∧ Same w0 w') ?_).mono ?_
  · intro W1 y hW1 _
    have x1 : Ext w W1 := by rw [hW1]; exact ((Ext.alloc _ _).trans (Ext.alloc _ _)).trans (Ext.alloc _ _)
    let F' : Nat → Option Obj := fun b => if b = w.heap.size ∨ b = w.heap.size + 1 ∨ b = w.heap.size + 2 then W1.heap[b]? else F b
    have hlt : ∀ b o, F b = some o → b < w.heap.size := fun b o h => (Array.getElem?_eq_some_iff.1 (hf b o h).1).1
    have hsz1 : W1.heap.size = w.heap.size + 3 := by rw [hW1]; simp
    have hfr : FrameOK F' G h W1 := by
      intro b o hb
      simp only [F'] at hb
      split at hb
      · rename_i hb3
        refine ⟨hb, fun id ob r h1 h2 => ?_, fun q => ?_⟩
        · obtain ⟨r', h3, h4⟩ := hi.obj id ob h1
          rw [h2] at h3
          injection h3 with h3
          subst h3
          have := h4.there
          omega
        · cases hq : G.M b q with
          | none => rfl
          | some c => have := hi.there hq; omega
      · exact (hf.ext x1) b o hb
    refine (f4 F' w0 G W1 _ (hi.ext x1) hfr (hsame.trans x1.same) (by simp [hy.size]; omega) (fun j x hj hfree => ?_)).mono ?_
    · cases j with
      | zero => simp at hj; subst hj; exact .undef _
      | succ j =>
        have hj' : caps[j]? = some x := by simpa using hj
        have := hy.rel j x hj'
        have hjl : j < cy.size := by rw [← hy.size]; exact (List.getElem?_eq_some_iff.1 hj').1
        have e : (#[Value.func (.yield (w.heap.size + 2)) #[] #[]] ++ cy).getD (j + 1) Go.undef = cy.getD j Go.undef := by
          simp [Array.getElem?_append_right]
        rw [e]; exact this
    · rintro e W2 ⟨cv, G', rfl, hG, hi2, hf2, hs2, _⟩
      have key : ∀ b, b = w.heap.size ∨ b = w.heap.size + 1 ∨ b = w.heap.size + 2 → ∃ o, F' b = some o ∧ W1.heap[b]? = some o := fun b hb => by
        have hl : b < W1.heap.size := by omega
        refine ⟨W1.heap[b], ?_, by simp [hl]⟩
        simp only [F']
        rw [if_pos hb]
        simp [hl]
      refine ⟨⟨cv, rfl⟩, fun j hj => ?_, fun W3 hW3 hs3 => ⟨G', hG, ?_, fun b o hb => ?_, hs2.trans hs3⟩⟩
      · obtain ⟨o, k1, k2⟩ := key j hj
        rw [k2]; exact (hf2 j o k1).1
      · refine Inv.others (B := fun j => j = w.heap.size + 1 ∨ j = w.heap.size + 2) hi2 (fun b hb => ?_) (fun b hb => ?_) (fun j hj => hW3 j (fun e => hj (.inl e)) (fun e => hj (.inr e)))
        · obtain ⟨o, k1, k2⟩ := key b (.inr hb)
          exact (hf2 b o k1).2.1
        · obtain ⟨o, k1, k2⟩ := key b (.inr hb)
          exact (hf2 b o k1).2.2
      · have hbl := hlt b o hb
        have hFb : F' b = some o := by simp only [F']; rw [if_neg (by omega)]; exact hb
        obtain ⟨k1, k2⟩ := hf2 b o hFb
        exact ⟨by rw [hW3 b (by omega) (by omega)]; exact k1, k2⟩
  · rintro e w' ⟨rfl, G', h1, h2, h3, h4⟩
    exact ⟨_, G', rfl, h1, h2, h3, h4, .lst (b := 0) (o := 0) (s := 0) (fun _ _ => Go.undef) rfl (by simp) (by simp) ⟨rfl, rfl⟩ (by simp) (by simp) (by simp) (by simp)⟩

/-- The table: as printed, but for this one. -/
noncomputable def T : FuncId → Option AFn := fun f => if f = 137 then some { a137 with ext := some appendE } else T0 f

theorem T_of {k : FuncId} (h : k ≠ 137) : T k = T0 k := if_neg h

theorem T_ok : TabOK Tryz.prog T := by
  refine ⟨T_mixed, fun f af hf => ?_, fun f af e hf he => ?_⟩
  · unfold T at hf
    split at hf
    · rename_i h
      injection hf with hf
      subst h hf
      obtain ⟨fn, c, h1, h2, h3, h4⟩ := T0_ok.fn _ _ z137
      exact ⟨fn, c, h1, h2, h3, fun h => by cases h⟩
    · exact T0_ok.fn f af hf
  · unfold T at hf
    split at hf
    · rename_i h
      injection hf with hf
      subst h hf
      injection he with he
      subst he
      exact fun args h v h' _ hr => append_serves hr
    · exact T0_ok.ext f af e hf he

end Go.Proofs.YtcngflmnbdcppaaGreat
