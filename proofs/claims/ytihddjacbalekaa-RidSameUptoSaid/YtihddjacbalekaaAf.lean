/- The loaded functions of this seat, their types resolved: printed by a program of this claim; each is held against the loaded one. -/
import Derived.Test.YtihddjacbalekaaAeZ
import Derived.Test.YtihddjacbalekaaProg
set_option maxRecDepth 100000
namespace Go.Proofs.YtihddjacbalekaaA
open Go.RowKit
def af3_l0 : AC :=
 (.seq
 (.seq
 (.reg [⟨(some 58), none, (.mv (.t 6))⟩,
   ⟨(some 59), none, (.bin .lss .num (.t 58) (.c (.int .i64 6)))⟩])
 (.cond (.t 59) .skip (.exit 6)))
 (.seq
 (.block 7
 (.seq
 (.reg [⟨(some 62), none, (.mv (.t 5))⟩,
   ⟨(some 63), none, (.mv (.t 6))⟩,
   ⟨(some 64), none, (.call 7 [(.t 62), (.c (.str [239, 191, 189])), (.t 63)])⟩,
   ⟨(some 65), none, (.un .not (.t 64))⟩,
   ⟨(some 66), none, (.mv (.t 65))⟩,
   ⟨(some 67), (some (66, false)), (.mv (.t 5))⟩,
   ⟨(some 68), (some (66, false)), (.mv (.t 5))⟩,
   ⟨(some 69), (some (66, false)), (.bin .add .num (.t 67) (.t 68))⟩,
   ⟨(some 70), (some (66, false)), (.mv (.t 5))⟩,
   ⟨(some 71), (some (66, false)), (.mv (.t 6))⟩,
   ⟨(some 72), (some (66, false)), (.call 7 [(.t 69), (.t 70), (.t 71)])⟩,
   ⟨(some 73), (some (66, false)), (.un .not (.t 72))⟩,
   ⟨(some 74), none, (.pick (.t 66) (.c (.bool true)) (.t 73))⟩])
 (.cond (.t 74)
 (.seq
 (.reg [⟨(some 0), none, (.mv (.c (.bool false)))⟩]) .ret) .skip)))
 (.reg [⟨(some 60), none, (.mv (.t 6))⟩,
   ⟨(some 61), none, (.bin .add .num (.t 60) (.c (.int .i64 1)))⟩,
   ⟨(some 6), none, (.mv (.t 61))⟩])))
def af3_l1 : AC :=
 (.seq
 (.reg [⟨(some 55), none, (.bin .lss .num (.t 54) (.t 53))⟩])
 (.seq
 (.cond (.t 55) .skip (.exit 4))
 (.seq
 (.block 5
 (.seq
 (.reg [⟨(some 56), none, (.ixSlice 1 (.t 52) (.t 54))⟩,
   ⟨(some 57), none, (.load1 (.t 56))⟩,
   ⟨(some 5), none, (.mv (.t 57))⟩])
 (.seq
 (.reg [⟨(some 6), none, (.mv (.c (.int .i64 (-1))))⟩])
 (.block 6
 (.loop af3_l0)))))
 (.reg [⟨(some 75), none, (.bin .add .num (.t 54) (.c (.int .i64 1)))⟩,
   ⟨(some 54), none, (.mv (.t 75))⟩]))))
def af3_l2 : AC :=
 (.seq
 (.seq
 (.reg [⟨(some 31), none, (.mv (.t 3))⟩,
   ⟨(some 32), none, (.bin .lss .num (.t 31) (.c (.int .i64 10)))⟩])
 (.cond (.t 32) .skip (.exit 2)))
 (.seq
 (.block 3
 (.seq
 (.seq
 (.reg [⟨(some 35), none, (.mv (.t 2))⟩,
   ⟨(some 36), none, (.mv (.t 2))⟩,
   ⟨(some 37), none, (.bin .add .num (.t 36) (.c (.str [228, 184, 150])))⟩,
   ⟨(some 38), none, (.mv (.t 3))⟩,
   ⟨(some 39), none, (.bin .sub .num (.t 38) (.c (.int .i64 1)))⟩,
   ⟨(some 40), none, (.call 7 [(.t 35), (.t 37), (.t 39)])⟩,
   ⟨(some 41), none, (.un .not (.t 40))⟩,
   ⟨(some 42), none, (.mv (.t 41))⟩,
   ⟨(some 43), (some (42, false)), (.mv (.t 2))⟩,
   ⟨(some 44), (some (42, false)), (.bin .add .num (.t 43) (.c (.str [228, 184, 150])))⟩,
   ⟨(some 45), (some (42, false)), (.mv (.t 2))⟩,
   ⟨(some 46), (some (42, false)), (.mv (.t 3))⟩,
   ⟨(some 47), (some (42, false)), (.call 7 [(.t 44), (.t 45), (.t 46)])⟩,
   ⟨(some 48), (some (42, false)), (.un .not (.t 47))⟩,
   ⟨(some 49), none, (.pick (.t 42) (.c (.bool true)) (.t 48))⟩])
 (.cond (.t 49)
 (.seq
 (.reg [⟨(some 0), none, (.mv (.c (.bool false)))⟩]) .ret) .skip))
 (.reg [⟨(some 50), none, (.mv (.t 2))⟩,
   ⟨(some 51), none, (.bin .add .num (.t 50) (.c (.str [97])))⟩,
   ⟨(some 2), none, (.mv (.t 51))⟩])))
 (.reg [⟨(some 33), none, (.mv (.t 3))⟩,
   ⟨(some 34), none, (.bin .add .num (.t 33) (.c (.int .i64 1)))⟩,
   ⟨(some 3), none, (.mv (.t 34))⟩])))
def af3_l3 : AC :=
 (.seq
 (.seq
 (.reg [⟨(some 7), none, (.mv (.t 1))⟩,
   ⟨(some 8), none, (.bin .lss .num (.t 7) (.c (.int .i32 1100)))⟩])
 (.cond (.t 8) .skip (.exit 0)))
 (.seq
 (.block 1
 (.seq
 (.reg [⟨(some 11), none, (.mv (.t 1))⟩,
   ⟨(some 12), none, (.conv .runeStr (.t 11))⟩,
   ⟨(some 13), none, (.mv (.t 1))⟩,
   ⟨(some 14), none, (.conv .runeStr (.t 13))⟩,
   ⟨(some 15), none, (.bin .add .num (.c (.str [97])) (.t 14))⟩,
   ⟨(some 16), none, (.mv (.t 1))⟩,
   ⟨(some 17), none, (.conv (.int .i64) (.t 16))⟩,
   ⟨(some 18), none, (.bin .rem .num (.t 17) (.c (.int .i64 3)))⟩,
   ⟨(some 19), none, (.call 7 [(.t 12), (.t 15), (.t 18)])⟩,
   ⟨(some 20), none, (.un .not (.t 19))⟩,
   ⟨(some 21), none, (.mv (.t 20))⟩,
   ⟨(some 22), (some (21, false)), (.mv (.t 1))⟩,
   ⟨(some 23), (some (21, false)), (.conv .runeStr (.t 22))⟩,
   ⟨(some 24), (some (21, false)), (.bin .add .num (.c (.str [120])) (.t 23))⟩,
   ⟨(some 25), (some (21, false)), (.mv (.t 1))⟩,
   ⟨(some 26), (some (21, false)), (.conv .runeStr (.t 25))⟩,
   ⟨(some 27), (some (21, false)), (.bin .add .num (.t 26) (.c (.str [120])))⟩,
   ⟨(some 28), (some (21, false)), (.call 7 [(.t 24), (.t 27), (.c (.int .i64 1))])⟩,
   ⟨(some 29), (some (21, false)), (.un .not (.t 28))⟩,
   ⟨(some 30), none, (.pick (.t 21) (.c (.bool true)) (.t 29))⟩])
 (.cond (.t 30)
 (.seq
 (.reg [⟨(some 0), none, (.mv (.c (.bool false)))⟩]) .ret) .skip)))
 (.reg [⟨(some 9), none, (.mv (.t 1))⟩,
   ⟨(some 10), none, (.bin .add .num (.t 9) (.c (.int .i32 1)))⟩,
   ⟨(some 1), none, (.mv (.t 10))⟩])))
/-- limelight/limelightlaw2.RidNumbers -/
def af3 : AFunc := ⟨83, [(.tmp 0)],
 (.seq
 (.reg [⟨(some 0), none, (.mv (.c (.bool false)))⟩])
 (.seq
 (.seq
 (.reg [⟨(some 1), none, (.mv (.c (.int .i32 0)))⟩])
 (.block 0
 (.loop af3_l3)))
 (.seq
 (.reg [⟨(some 2), none, (.mv (.c (.str [])))⟩])
 (.seq
 (.seq
 (.reg [⟨(some 3), none, (.mv (.c (.int .i64 0)))⟩])
 (.block 2
 (.loop af3_l2)))
 (.seq
 (.seq
 (.reg [⟨(some 52), none, (.buildSlice 1 [(.str [])] 6 [(0, (1, (.c (.str [255])))), (1, (1, (.c (.str [239, 191, 189])))), (2, (1, (.c (.str [97, 228, 184])))), (3, (1, (.c (.str [65, 255])))), (4, (1, (.c (.str [97, 255])))), (5, (1, (.c (.str [228, 184, 150, 120]))))])⟩,
   ⟨(some 53), none, (.len (.t 52))⟩,
   ⟨(some 54), none, (.mv (.c (.int .i64 0)))⟩])
 (.block 4
 (.loop af3_l1)))
 (.seq
 (.reg [⟨(some 76), none, (.call 7 [(.c (.str [97, 98, 99])), (.c (.str [65, 66, 67])), (.c (.int .i64 4611686018427387904))])⟩,
   ⟨(some 77), none, (.mv (.t 76))⟩,
   ⟨(some 78), (some (77, true)), (.call 7 [(.c (.str [97, 98, 99])), (.c (.str [97, 98, 100])), (.c (.int .i64 (-9223372036854775808)))])⟩,
   ⟨(some 79), none, (.pick (.t 77) (.t 78) (.c (.bool false)))⟩,
   ⟨(some 80), none, (.mv (.t 79))⟩,
   ⟨(some 81), (some (80, true)), (.call 8 [])⟩,
   ⟨(some 82), none, (.pick (.t 80) (.t 81) (.c (.bool false)))⟩,
   ⟨(some 0), none, (.mv (.t 82))⟩]) .ret))))))⟩
theorem caf3 : cFunc Try.prog Try.f3 = some af3 := by kernel_rfl
/-- limelight/limelightlaw2.RidTells -/
def af4 : AFunc := ⟨40, [(.tmp 6)],
 (.seq
 (.reg [⟨(some 6), none, (.mv (.c (.bool false)))⟩])
 (.seq
 (.seq
 (.reg [⟨(some 7), none, (.mv (.t 0))⟩,
   ⟨(some 8), none, (.lenS (.t 7))⟩,
   ⟨(some 9), none, (.bin .gtr .num (.t 8) (.c (.int .i64 90)))⟩])
 (.cond (.t 9)
 (.reg [⟨(some 10), none, (.mv (.t 0))⟩,
   ⟨(some 11), none, (.cutStr (.t 10) none (some (.c (.int .i64 90))))⟩,
   ⟨(some 0), none, (.mv (.t 11))⟩]) .skip))
 (.seq
 (.seq
 (.reg [⟨(some 12), none, (.mv (.t 1))⟩,
   ⟨(some 13), none, (.lenS (.t 12))⟩,
   ⟨(some 14), none, (.bin .gtr .num (.t 13) (.c (.int .i64 90)))⟩])
 (.cond (.t 14)
 (.reg [⟨(some 15), none, (.mv (.t 1))⟩,
   ⟨(some 16), none, (.cutStr (.t 15) none (some (.c (.int .i64 90))))⟩,
   ⟨(some 1), none, (.mv (.t 16))⟩]) .skip))
 (.seq
 (.reg [⟨(some 17), none, (.mv (.t 0))⟩,
   ⟨(some 18), none, (.mv (.t 1))⟩,
   ⟨(some 19), none, (.mv (.t 2))⟩,
   ⟨(some 20), none, (.call 7 [(.t 17), (.t 18), (.t 19)])⟩,
   ⟨(some 21), none, (.mv (.t 20))⟩,
   ⟨(some 22), (some (21, true)), (.mv (.t 0))⟩,
   ⟨(some 23), (some (21, true)), (.mv (.t 0))⟩,
   ⟨(some 24), (some (21, true)), (.mv (.t 2))⟩,
   ⟨(some 25), (some (21, true)), (.bin .and .num (.t 24) (.c (.int .i64 15)))⟩,
   ⟨(some 26), (some (21, true)), (.call 7 [(.t 22), (.t 23), (.t 25)])⟩,
   ⟨(some 27), none, (.pick (.t 21) (.t 26) (.c (.bool false)))⟩,
   ⟨(some 28), none, (.mv (.t 27))⟩,
   ⟨(some 29), (some (28, true)), (.mv (.t 1))⟩,
   ⟨(some 30), (some (28, true)), (.mv (.t 0))⟩,
   ⟨(some 31), (some (28, true)), (.bin .add .num (.t 29) (.t 30))⟩,
   ⟨(some 32), (some (28, true)), (.mv (.t 0))⟩,
   ⟨(some 33), (some (28, true)), (.mv (.t 2))⟩,
   ⟨(some 34), (some (28, true)), (.bin .and .num (.t 33) (.c (.int .i64 7)))⟩,
   ⟨(some 35), (some (28, true)), (.call 7 [(.t 31), (.t 32), (.t 34)])⟩,
   ⟨(some 36), none, (.pick (.t 28) (.t 35) (.c (.bool false)))⟩,
   ⟨(some 37), none, (.mv (.t 36))⟩,
   ⟨(some 38), (some (37, true)), (.call 8 [])⟩,
   ⟨(some 39), none, (.pick (.t 37) (.t 38) (.c (.bool false)))⟩,
   ⟨(some 6), none, (.mv (.t 39))⟩]) .ret))))⟩
theorem caf4 : cFunc Try.prog Try.f4 = some af4 := by kernel_rfl
/-- limelight/limelightlaw2.RidParts -/
def af5 : AFunc := ⟨85, [(.tmp 4)],
 (.seq
 (.reg [⟨(some 4), none, (.mv (.c (.bool false)))⟩])
 (.seq
 (.seq
 (.reg [⟨(some 7), none, (.mv (.t 0))⟩,
   ⟨(some 8), none, (.lenS (.t 7))⟩,
   ⟨(some 9), none, (.bin .gtr .num (.t 8) (.c (.int .i64 90)))⟩])
 (.cond (.t 9)
 (.reg [⟨(some 10), none, (.mv (.t 0))⟩,
   ⟨(some 11), none, (.cutStr (.t 10) none (some (.c (.int .i64 90))))⟩,
   ⟨(some 0), none, (.mv (.t 11))⟩]) .skip))
 (.seq
 (.reg [⟨(some 12), none, (.mv (.t 0))⟩,
   ⟨(some 13), none, (.mv (.t 1))⟩,
   ⟨(some 14), none, (.bin .and .num (.t 13) (.c (.int .i64 31)))⟩,
   ⟨(some 15), none, (.call 9 [(.t 12), (.t 14)])⟩,
   ⟨(some 5), none, (.mv (.t 15))⟩])
 (.seq
 (.seq
 (.reg [⟨(some 16), none, (.mv (.t 5))⟩,
   ⟨(some 17), none, (.lenS (.t 16))⟩,
   ⟨(some 18), none, (.mv (.t 0))⟩,
   ⟨(some 19), none, (.lenS (.t 18))⟩,
   ⟨(some 20), none, (.bin .gtr .num (.t 17) (.t 19))⟩,
   ⟨(some 21), none, (.mv (.t 20))⟩,
   ⟨(some 22), (some (21, false)), (.mv (.t 0))⟩,
   ⟨(some 23), (some (21, false)), (.mv (.t 5))⟩,
   ⟨(some 24), (some (21, false)), (.lenS (.t 23))⟩,
   ⟨(some 25), (some (21, false)), (.cutStr (.t 22) none (some (.t 24)))⟩,
   ⟨(some 26), (some (21, false)), (.mv (.t 5))⟩,
   ⟨(some 27), (some (21, false)), (.bin .neq .str (.t 25) (.t 26))⟩,
   ⟨(some 28), none, (.pick (.t 21) (.c (.bool true)) (.t 27))⟩])
 (.cond (.t 28)
 (.seq
 (.reg [⟨(some 4), none, (.mv (.c (.bool false)))⟩]) .ret) .skip))
 (.seq
 (.reg [⟨(some 29), none, (.mv (.t 0))⟩,
   ⟨(some 30), none, (.call 10 [(.t 29)])⟩,
   ⟨(some 6), none, (.mv (.t 30))⟩])
 (.seq
 (.dreg [⟨(some 31), none, (.mv (.t 5))⟩,
   ⟨(some 32), none, (.call 11 [(.t 31)])⟩,
   ⟨(some 33), none, (.mv (.t 0))⟩,
   ⟨(some 34), none, (.mv (.t 5))⟩,
   ⟨(some 35), none, (.lenS (.t 34))⟩,
   ⟨(some 36), none, (.cutStr (.t 33) (some (.t 35)) none)⟩,
   ⟨(some 37), none, (.call 11 [(.t 36)])⟩,
   ⟨(some 38), none, (.bin .add .num (.t 32) (.t 37))⟩,
   ⟨(some 39), none, (.mv (.t 0))⟩,
   ⟨(some 40), none, (.call 11 [(.t 39)])⟩,
   ⟨(some 41), none, (.bin .eql .num (.t 38) (.t 40))⟩,
   ⟨(some 42), none, (.mv (.t 41))⟩,
   ⟨(some 43), (some (42, true)), (.mv (.t 5))⟩,
   ⟨(some 44), (some (42, true)), (.call 11 [(.t 43)])⟩,
   ⟨(some 45), (some (42, true)), (.mv (.t 1))⟩,
   ⟨(some 46), (some (42, true)), (.bin .and .num (.t 45) (.c (.int .i64 31)))⟩,
   ⟨(some 47), (some (42, true)), (.mv (.t 0))⟩,
   ⟨(some 48), (some (42, true)), (.call 11 [(.t 47)])⟩,
   ⟨(some 49), (some (42, true)), (.mn [(.t 46), (.t 48)])⟩,
   ⟨(some 50), (some (42, true)), (.bin .eql .num (.t 44) (.t 49))⟩,
   ⟨(some 51), none, (.pick (.t 42) (.t 50) (.c (.bool false)))⟩,
   ⟨(some 52), none, (.mv (.t 51))⟩,
   ⟨(some 53), (some (52, true)), (.mv (.t 6))⟩,
   ⟨(some 54), (some (52, true)), (.call 10 [(.t 53)])⟩,
   ⟨(some 55), (some (52, true)), (.mv (.t 6))⟩,
   ⟨(some 56), (some (52, true)), (.bin .eql .str (.t 54) (.t 55))⟩,
   ⟨(some 57), none, (.pick (.t 52) (.t 56) (.c (.bool false)))⟩,
   ⟨(some 58), none, (.mv (.t 57))⟩,
   ⟨(some 59), (some (58, true)), (.mv (.t 6))⟩,
   ⟨(some 60), (some (58, true)), (.call 12 [(.t 59)])⟩,
   ⟨(some 61), (some (58, true)), (.mv (.t 0))⟩,
   ⟨(some 62), (some (58, true)), (.call 12 [(.t 61)])⟩,
   ⟨(some 63), (some (58, true)), (.bin .eql .bool (.t 60) (.t 62))⟩,
   ⟨(some 64), none, (.pick (.t 58) (.t 63) (.c (.bool false)))⟩,
   ⟨(some 65), none, (.mv (.t 64))⟩,
   ⟨(some 66), (some (65, true)), (.mv (.t 0))⟩,
   ⟨(some 67), (some (65, true)), (.mv (.t 6))⟩,
   ⟨(some 68), (some (65, true)), (.call 13 [(.t 66), (.t 67)])⟩,
   ⟨(some 69), none, (.pick (.t 65) (.t 68) (.c (.bool false)))⟩,
   ⟨(some 70), none, (.mv (.t 69))⟩,
   ⟨(some 71), (some (70, true)), (.mv (.t 5))⟩,
   ⟨(some 72), (some (70, true)), (.call 10 [(.t 71)])⟩,
   ⟨(some 73), (some (70, true)), (.mv (.t 0))⟩,
   ⟨(some 74), (some (70, true)), (.mv (.t 5))⟩,
   ⟨(some 75), (some (70, true)), (.lenS (.t 74))⟩,
   ⟨(some 76), (some (70, true)), (.cutStr (.t 73) (some (.t 75)) none)⟩,
   ⟨(some 77), (some (70, true)), (.call 10 [(.t 76)])⟩,
   ⟨(some 78), (some (70, true)), (.bin .add .num (.t 72) (.t 77))⟩,
   ⟨(some 79), (some (70, true)), (.mv (.t 6))⟩,
   ⟨(some 80), (some (70, true)), (.bin .eql .str (.t 78) (.t 79))⟩,
   ⟨(some 81), none, (.pick (.t 70) (.t 80) (.c (.bool false)))⟩,
   ⟨(some 82), none, (.mv (.t 81))⟩,
   ⟨(some 83), (some (82, true)), (.call 8 [])⟩,
   ⟨(some 84), none, (.pick (.t 82) (.t 83) (.c (.bool false)))⟩,
   ⟨(some 4), none, (.mv (.t 84))⟩] []) .ret))))))⟩
theorem caf5 : cFunc Try.prog Try.f5 = some af5 := by kernel_rfl
def af6_l0 : AC :=
 (.seq
 (.reg [⟨(some 17), none, (.next (.t 16))⟩,
   ⟨(some 18), none, (.extract 0 (.t 17))⟩])
 (.seq
 (.cond (.t 18) .skip (.exit 0))
 (.block 1
 (.seq
 (.reg [⟨(some 19), none, (.extract 1 (.t 17))⟩,
   ⟨(some 20), none, (.extract 2 (.t 17))⟩,
   ⟨(some 8), none, (.mv (.t 19))⟩,
   ⟨(some 9), none, (.mv (.t 20))⟩])
 (.seq
 (.seq
 (.reg [⟨(some 21), none, (.mv (.t 9))⟩,
   ⟨(some 22), none, (.bin .geq .num (.t 21) (.c (.int .i32 97)))⟩,
   ⟨(some 23), none, (.mv (.t 22))⟩,
   ⟨(some 24), (some (23, true)), (.mv (.t 9))⟩,
   ⟨(some 25), (some (23, true)), (.bin .leq .num (.t 24) (.c (.int .i32 122)))⟩,
   ⟨(some 26), none, (.pick (.t 23) (.t 25) (.c (.bool false)))⟩,
   ⟨(some 27), none, (.mv (.t 26))⟩,
   ⟨(some 28), (some (27, true)), (.mv (.t 2))⟩,
   ⟨(some 29), (some (27, true)), (.mv (.t 8))⟩,
   ⟨(some 30), (some (27, true)), (.bin .and .num (.t 29) (.c (.int .i64 31)))⟩,
   ⟨(some 31), (some (27, true)), (.conv (.int .u64) (.t 30))⟩,
   ⟨(some 32), (some (27, true)), (.bin .shr .num (.t 28) (.t 31))⟩,
   ⟨(some 33), (some (27, true)), (.bin .and .num (.t 32) (.c (.int .u32 1)))⟩,
   ⟨(some 34), (some (27, true)), (.bin .eql .num (.t 33) (.c (.int .u32 1)))⟩,
   ⟨(some 35), none, (.pick (.t 27) (.t 34) (.c (.bool false)))⟩])
 (.cond (.t 35)
 (.reg [⟨(some 36), none, (.mv (.t 9))⟩,
   ⟨(some 37), none, (.bin .sub .num (.t 36) (.c (.int .i32 97)))⟩,
   ⟨(some 38), none, (.bin .add .num (.t 37) (.c (.int .i32 65)))⟩,
   ⟨(some 9), none, (.mv (.t 38))⟩]) .skip))
 (.reg [⟨(some 39), none, (.mv (.t 7))⟩,
   ⟨(some 40), none, (.mv (.t 9))⟩,
   ⟨(some 41), none, (.conv .runeStr (.t 40))⟩,
   ⟨(some 42), none, (.bin .add .num (.t 39) (.t 41))⟩,
   ⟨(some 7), none, (.mv (.t 42))⟩]))))))
/-- limelight/limelightlaw2.RidSame -/
def af6 : AFunc := ⟨77, [(.tmp 6)],
 (.seq
 (.reg [⟨(some 6), none, (.mv (.c (.bool false)))⟩])
 (.seq
 (.seq
 (.reg [⟨(some 10), none, (.mv (.t 0))⟩,
   ⟨(some 11), none, (.lenS (.t 10))⟩,
   ⟨(some 12), none, (.bin .gtr .num (.t 11) (.c (.int .i64 40)))⟩])
 (.cond (.t 12)
 (.reg [⟨(some 13), none, (.mv (.t 0))⟩,
   ⟨(some 14), none, (.cutStr (.t 13) none (some (.c (.int .i64 40))))⟩,
   ⟨(some 0), none, (.mv (.t 14))⟩]) .skip))
 (.seq
 (.reg [⟨(some 7), none, (.mv (.c (.str [])))⟩])
 (.seq
 (.seq
 (.reg [⟨(some 15), none, (.mv (.t 0))⟩,
   ⟨(some 16), none, (.range (.t 15))⟩])
 (.block 0
 (.loop af6_l0)))
 (.seq
 (.reg [⟨(some 43), none, (.mv (.t 0))⟩,
   ⟨(some 44), none, (.mv (.t 7))⟩,
   ⟨(some 45), none, (.call 13 [(.t 43), (.t 44)])⟩,
   ⟨(some 46), none, (.mv (.t 45))⟩,
   ⟨(some 47), (some (46, true)), (.mv (.t 7))⟩,
   ⟨(some 48), (some (46, true)), (.mv (.t 0))⟩,
   ⟨(some 49), (some (46, true)), (.call 13 [(.t 47), (.t 48)])⟩,
   ⟨(some 50), none, (.pick (.t 46) (.t 49) (.c (.bool false)))⟩,
   ⟨(some 51), none, (.mv (.t 50))⟩,
   ⟨(some 52), (some (51, true)), (.mv (.t 0))⟩,
   ⟨(some 53), (some (51, true)), (.mv (.t 1))⟩,
   ⟨(some 54), (some (51, true)), (.call 13 [(.t 52), (.t 53)])⟩,
   ⟨(some 55), (some (51, true)), (.mv (.t 1))⟩,
   ⟨(some 56), (some (51, true)), (.mv (.t 7))⟩,
   ⟨(some 57), (some (51, true)), (.call 13 [(.t 55), (.t 56)])⟩,
   ⟨(some 58), (some (51, true)), (.bin .eql .bool (.t 54) (.t 57))⟩,
   ⟨(some 59), none, (.pick (.t 51) (.t 58) (.c (.bool false)))⟩,
   ⟨(some 60), none, (.mv (.t 59))⟩,
   ⟨(some 61), (some (60, true)), (.mv (.t 0))⟩,
   ⟨(some 62), (some (60, true)), (.call 11 [(.t 61)])⟩,
   ⟨(some 63), (some (60, true)), (.mv (.t 7))⟩,
   ⟨(some 64), (some (60, true)), (.call 11 [(.t 63)])⟩,
   ⟨(some 65), (some (60, true)), (.bin .eql .num (.t 62) (.t 64))⟩,
   ⟨(some 66), none, (.pick (.t 60) (.t 65) (.c (.bool false)))⟩,
   ⟨(some 67), none, (.mv (.t 66))⟩,
   ⟨(some 68), (some (67, true)), (.mv (.t 0))⟩,
   ⟨(some 69), (some (67, true)), (.call 12 [(.t 68)])⟩,
   ⟨(some 70), (some (67, true)), (.mv (.t 7))⟩,
   ⟨(some 71), (some (67, true)), (.call 12 [(.t 70)])⟩,
   ⟨(some 72), (some (67, true)), (.bin .eql .bool (.t 69) (.t 71))⟩,
   ⟨(some 73), none, (.pick (.t 67) (.t 72) (.c (.bool false)))⟩,
   ⟨(some 74), none, (.mv (.t 73))⟩,
   ⟨(some 75), (some (74, true)), (.call 8 [])⟩,
   ⟨(some 76), none, (.pick (.t 74) (.t 75) (.c (.bool false)))⟩,
   ⟨(some 6), none, (.mv (.t 76))⟩]) .ret)))))⟩
theorem caf6 : cFunc Try.prog Try.f6 = some af6 := by kernel_rfl
/-- limelight/limelightlaw2.same -/
def af7 : AFunc := ⟨46, [(.tmp 6)],
 (.seq
 (.reg [⟨(some 6), none, (.mv (.c (.bool false)))⟩])
 (.seq
 (.reg [⟨(some 7), none, (.mv (.t 0))⟩,
   ⟨(some 8), none, (.call 11 [(.t 7)])⟩,
   ⟨(some 9), none, (.mv (.t 0))⟩,
   ⟨(some 10), none, (.call 14 [(.t 9)])⟩,
   ⟨(some 11), none, (.bin .eql .num (.t 8) (.t 10))⟩,
   ⟨(some 12), none, (.mv (.t 11))⟩,
   ⟨(some 13), (some (12, true)), (.mv (.t 0))⟩,
   ⟨(some 14), (some (12, true)), (.call 12 [(.t 13)])⟩,
   ⟨(some 15), (some (12, true)), (.mv (.t 0))⟩,
   ⟨(some 16), (some (12, true)), (.call 15 [(.t 15)])⟩,
   ⟨(some 17), (some (12, true)), (.bin .eql .bool (.t 14) (.t 16))⟩,
   ⟨(some 18), none, (.pick (.t 12) (.t 17) (.c (.bool false)))⟩,
   ⟨(some 19), none, (.mv (.t 18))⟩,
   ⟨(some 20), (some (19, true)), (.mv (.t 0))⟩,
   ⟨(some 21), (some (19, true)), (.call 10 [(.t 20)])⟩,
   ⟨(some 22), (some (19, true)), (.mv (.t 0))⟩,
   ⟨(some 23), (some (19, true)), (.call 16 [(.t 22)])⟩,
   ⟨(some 24), (some (19, true)), (.bin .eql .str (.t 21) (.t 23))⟩,
   ⟨(some 25), none, (.pick (.t 19) (.t 24) (.c (.bool false)))⟩,
   ⟨(some 26), none, (.mv (.t 25))⟩,
   ⟨(some 27), (some (26, true)), (.mv (.t 0))⟩,
   ⟨(some 28), (some (26, true)), (.mv (.t 1))⟩,
   ⟨(some 29), (some (26, true)), (.call 13 [(.t 27), (.t 28)])⟩,
   ⟨(some 30), (some (26, true)), (.mv (.t 0))⟩,
   ⟨(some 31), (some (26, true)), (.call 16 [(.t 30)])⟩,
   ⟨(some 32), (some (26, true)), (.mv (.t 1))⟩,
   ⟨(some 33), (some (26, true)), (.call 16 [(.t 32)])⟩,
   ⟨(some 34), (some (26, true)), (.bin .eql .str (.t 31) (.t 33))⟩,
   ⟨(some 35), (some (26, true)), (.bin .eql .bool (.t 29) (.t 34))⟩,
   ⟨(some 36), none, (.pick (.t 26) (.t 35) (.c (.bool false)))⟩,
   ⟨(some 37), none, (.mv (.t 36))⟩,
   ⟨(some 38), (some (37, true)), (.mv (.t 0))⟩,
   ⟨(some 39), (some (37, true)), (.mv (.t 2))⟩,
   ⟨(some 40), (some (37, true)), (.call 9 [(.t 38), (.t 39)])⟩,
   ⟨(some 41), (some (37, true)), (.mv (.t 0))⟩,
   ⟨(some 42), (some (37, true)), (.mv (.t 2))⟩,
   ⟨(some 43), (some (37, true)), (.call 17 [(.t 41), (.t 42)])⟩,
   ⟨(some 44), (some (37, true)), (.bin .eql .str (.t 40) (.t 43))⟩,
   ⟨(some 45), none, (.pick (.t 37) (.t 44) (.c (.bool false)))⟩,
   ⟨(some 6), none, (.mv (.t 45))⟩]) .ret))⟩
theorem caf7 : cFunc Try.prog Try.f7 = some af7 := by kernel_rfl
/-- limelight/limelightlaw2.known -/
def af8 : AFunc := ⟨41, [(.tmp 0)],
 (.seq
 (.reg [⟨(some 0), none, (.mv (.c (.bool false)))⟩])
 (.seq
 (.reg [⟨(some 1), none, (.call 10 [(.c (.str [72, 105]))])⟩,
   ⟨(some 2), none, (.bin .eql .str (.t 1) (.c (.str [104, 105])))⟩,
   ⟨(some 3), none, (.mv (.t 2))⟩,
   ⟨(some 4), (some (3, true)), (.call 12 [(.c (.str []))])⟩,
   ⟨(some 5), (some (3, true)), (.un .not (.t 4))⟩,
   ⟨(some 6), none, (.pick (.t 3) (.t 5) (.c (.bool false)))⟩,
   ⟨(some 7), none, (.mv (.t 6))⟩,
   ⟨(some 8), (some (7, true)), (.call 12 [(.c (.str [97, 45, 90, 95, 57]))])⟩,
   ⟨(some 9), none, (.pick (.t 7) (.t 8) (.c (.bool false)))⟩,
   ⟨(some 10), none, (.mv (.t 9))⟩,
   ⟨(some 11), (some (10, true)), (.call 12 [(.c (.str [97, 46, 98]))])⟩,
   ⟨(some 12), (some (10, true)), (.un .not (.t 11))⟩,
   ⟨(some 13), none, (.pick (.t 10) (.t 12) (.c (.bool false)))⟩,
   ⟨(some 14), none, (.mv (.t 13))⟩,
   ⟨(some 15), (some (14, true)), (.call 11 [(.c (.str [97, 255, 228, 184, 150]))])⟩,
   ⟨(some 16), (some (14, true)), (.bin .eql .num (.t 15) (.c (.int .i64 3)))⟩,
   ⟨(some 17), none, (.pick (.t 14) (.t 16) (.c (.bool false)))⟩,
   ⟨(some 18), none, (.mv (.t 17))⟩,
   ⟨(some 19), (some (18, true)), (.call 9 [(.c (.str [97, 98, 99])), (.c (.int .i64 2))])⟩,
   ⟨(some 20), (some (18, true)), (.bin .eql .str (.t 19) (.c (.str [97, 98])))⟩,
   ⟨(some 21), none, (.pick (.t 18) (.t 20) (.c (.bool false)))⟩,
   ⟨(some 22), none, (.mv (.t 21))⟩,
   ⟨(some 23), (some (22, true)), (.call 9 [(.c (.str [228, 184, 150, 98])), (.c (.int .i64 1))])⟩,
   ⟨(some 24), (some (22, true)), (.bin .eql .str (.t 23) (.c (.str [228, 184, 150])))⟩,
   ⟨(some 25), none, (.pick (.t 22) (.t 24) (.c (.bool false)))⟩,
   ⟨(some 26), none, (.mv (.t 25))⟩,
   ⟨(some 27), (some (26, true)), (.call 13 [(.c (.str [72, 73])), (.c (.str [104, 105]))])⟩,
   ⟨(some 28), none, (.pick (.t 26) (.t 27) (.c (.bool false)))⟩,
   ⟨(some 29), none, (.mv (.t 28))⟩,
   ⟨(some 30), (some (29, true)), (.call 13 [(.c (.str [97])), (.c (.str [98]))])⟩,
   ⟨(some 31), (some (29, true)), (.un .not (.t 30))⟩,
   ⟨(some 32), none, (.pick (.t 29) (.t 31) (.c (.bool false)))⟩,
   ⟨(some 33), none, (.mv (.t 32))⟩,
   ⟨(some 34), (some (33, true)), (.call 9 [(.c (.str [97, 98, 99])), (.c (.int .i64 (-1)))])⟩,
   ⟨(some 35), (some (33, true)), (.bin .eql .str (.t 34) (.c (.str [])))⟩,
   ⟨(some 36), none, (.pick (.t 33) (.t 35) (.c (.bool false)))⟩,
   ⟨(some 37), none, (.mv (.t 36))⟩,
   ⟨(some 38), (some (37, true)), (.call 12 [(.c (.str [49, 50, 51, 52, 53, 54, 55, 56, 57]))])⟩,
   ⟨(some 39), (some (37, true)), (.un .not (.t 38))⟩,
   ⟨(some 40), none, (.pick (.t 37) (.t 39) (.c (.bool false)))⟩,
   ⟨(some 0), none, (.mv (.t 40))⟩]) .ret))⟩
theorem caf8 : cFunc Try.prog Try.f8 = some af8 := by kernel_rfl
def af9_l0 : AC :=
 (.seq
 (.reg [⟨(some 9), none, (.next (.t 8))⟩,
   ⟨(some 10), none, (.extract 0 (.t 9))⟩])
 (.seq
 (.cond (.t 10) .skip (.exit 0))
 (.block 1
 (.seq
 (.reg [⟨(some 11), none, (.extract 1 (.t 9))⟩,
   ⟨(some 6), none, (.mv (.t 11))⟩])
 (.seq
 (.seq
 (.reg [⟨(some 12), none, (.mv (.t 5))⟩,
   ⟨(some 13), none, (.mv (.t 1))⟩,
   ⟨(some 14), none, (.bin .geq .num (.t 12) (.t 13))⟩])
 (.cond (.t 14)
 (.seq
 (.reg [⟨(some 15), none, (.mv (.t 0))⟩,
   ⟨(some 16), none, (.mv (.t 6))⟩,
   ⟨(some 17), none, (.cutStr (.t 15) none (some (.t 16)))⟩,
   ⟨(some 4), none, (.mv (.t 17))⟩]) .ret) .skip))
 (.reg [⟨(some 18), none, (.mv (.t 5))⟩,
   ⟨(some 19), none, (.bin .add .num (.t 18) (.c (.int .i64 1)))⟩,
   ⟨(some 5), none, (.mv (.t 19))⟩]))))))
/-- limelight/rid.Short -/
def af9 : AFunc := ⟨23, [(.tmp 4)],
 (.seq
 (.reg [⟨(some 4), none, (.mv (.c (.str [])))⟩])
 (.seq
 (.reg [⟨(some 5), none, (.mv (.c (.int .i64 0)))⟩])
 (.seq
 (.seq
 (.reg [⟨(some 7), none, (.mv (.t 0))⟩,
   ⟨(some 8), none, (.range (.t 7))⟩])
 (.block 0
 (.loop af9_l0)))
 (.seq
 (.seq
 (.reg [⟨(some 20), none, (.mv (.t 1))⟩,
   ⟨(some 21), none, (.bin .lss .num (.t 20) (.c (.int .i64 1)))⟩])
 (.cond (.t 21)
 (.seq
 (.reg [⟨(some 4), none, (.mv (.c (.str [])))⟩]) .ret) .skip))
 (.seq
 (.reg [⟨(some 22), none, (.mv (.t 0))⟩,
   ⟨(some 4), none, (.mv (.t 22))⟩]) .ret)))))⟩
theorem caf9 : cFunc Try.prog Try.f9 = some af9 := by kernel_rfl
def af10_l0 : AC :=
 (.seq
 (.reg [⟨(some 8), none, (.next (.t 7))⟩,
   ⟨(some 9), none, (.extract 0 (.t 8))⟩])
 (.seq
 (.cond (.t 9) .skip (.exit 0))
 (.block 1
 (.seq
 (.reg [⟨(some 10), none, (.extract 2 (.t 8))⟩,
   ⟨(some 5), none, (.mv (.t 10))⟩])
 (.seq
 (.seq
 (.reg [⟨(some 11), none, (.mv (.t 5))⟩,
   ⟨(some 12), none, (.bin .geq .num (.t 11) (.c (.int .i32 65)))⟩,
   ⟨(some 13), none, (.mv (.t 12))⟩,
   ⟨(some 14), (some (13, true)), (.mv (.t 5))⟩,
   ⟨(some 15), (some (13, true)), (.bin .leq .num (.t 14) (.c (.int .i32 90)))⟩,
   ⟨(some 16), none, (.pick (.t 13) (.t 15) (.c (.bool false)))⟩])
 (.cond (.t 16)
 (.reg [⟨(some 17), none, (.mv (.t 5))⟩,
   ⟨(some 18), none, (.bin .add .num (.t 17) (.c (.int .i32 32)))⟩,
   ⟨(some 5), none, (.mv (.t 18))⟩]) .skip))
 (.reg [⟨(some 19), none, (.mv (.t 3))⟩,
   ⟨(some 20), none, (.mv (.t 5))⟩,
   ⟨(some 21), none, (.buildSlice 1 [(.int .i32 0)] 1 [(0, (1, (.t 20)))])⟩,
   ⟨(some 22), none, (.append 1 4 (.t 19) (.t 21))⟩,
   ⟨(some 3), none, (.mv (.t 22))⟩]))))))
/-- limelight/rid.Fold -/
def af10 : AFunc := ⟨25, [(.tmp 2)],
 (.seq
 (.reg [⟨(some 2), none, (.mv (.c (.str [])))⟩])
 (.seq
 (.reg [⟨(some 3), none, (.mv (.c (.slice none 0 0 none)))⟩])
 (.seq
 (.seq
 (.reg [⟨(some 6), none, (.mv (.t 0))⟩,
   ⟨(some 7), none, (.range (.t 6))⟩])
 (.block 0
 (.loop af10_l0)))
 (.seq
 (.reg [⟨(some 23), none, (.mv (.t 3))⟩,
   ⟨(some 24), none, (.conv .runesStr (.t 23))⟩,
   ⟨(some 2), none, (.mv (.t 24))⟩]) .ret))))⟩
theorem caf10 : cFunc Try.prog Try.f10 = some af10 := by kernel_rfl
def af11_l0 : AC :=
 (.seq
 (.reg [⟨(some 6), none, (.next (.t 5))⟩,
   ⟨(some 7), none, (.extract 0 (.t 6))⟩])
 (.seq
 (.cond (.t 7) .skip (.exit 0))
 (.block 1
 (.reg [⟨(some 8), none, (.mv (.t 3))⟩,
   ⟨(some 9), none, (.bin .add .num (.t 8) (.c (.int .i64 1)))⟩,
   ⟨(some 3), none, (.mv (.t 9))⟩]))))
/-- limelight/rid.Count -/
def af11 : AFunc := ⟨11, [(.tmp 2)],
 (.seq
 (.reg [⟨(some 2), none, (.mv (.c (.int .i64 0)))⟩])
 (.seq
 (.reg [⟨(some 3), none, (.mv (.c (.int .i64 0)))⟩])
 (.seq
 (.seq
 (.reg [⟨(some 4), none, (.mv (.t 0))⟩,
   ⟨(some 5), none, (.range (.t 4))⟩])
 (.block 0
 (.loop af11_l0)))
 (.seq
 (.reg [⟨(some 10), none, (.mv (.t 3))⟩,
   ⟨(some 2), none, (.mv (.t 10))⟩]) .ret))))⟩
theorem caf11 : cFunc Try.prog Try.f11 = some af11 := by kernel_rfl
def af12_l0 : AC :=
 (.seq
 (.reg [⟨(some 8), none, (.next (.t 7))⟩,
   ⟨(some 9), none, (.extract 0 (.t 8))⟩])
 (.seq
 (.cond (.t 9) .skip (.exit 0))
 (.block 1
 (.seq
 (.reg [⟨(some 10), none, (.extract 2 (.t 8))⟩,
   ⟨(some 5), none, (.mv (.t 10))⟩])
 (.seq
 (.reg [⟨(some 11), none, (.mv (.t 3))⟩,
   ⟨(some 12), none, (.bin .add .num (.t 11) (.c (.int .i64 1)))⟩,
   ⟨(some 3), none, (.mv (.t 12))⟩])
 (.seq
 (.reg [⟨(some 13), none, (.mv (.t 5))⟩,
   ⟨(some 14), none, (.call 18 [(.t 13)])⟩,
   ⟨(some 15), none, (.un .not (.t 14))⟩])
 (.cond (.t 15)
 (.seq
 (.reg [⟨(some 2), none, (.mv (.c (.bool false)))⟩]) .ret) .skip)))))))
/-- limelight/rid.Right -/
def af12 : AFunc := ⟨22, [(.tmp 2)],
 (.seq
 (.reg [⟨(some 2), none, (.mv (.c (.bool false)))⟩])
 (.seq
 (.reg [⟨(some 3), none, (.mv (.c (.int .i64 0)))⟩])
 (.seq
 (.seq
 (.reg [⟨(some 6), none, (.mv (.t 0))⟩,
   ⟨(some 7), none, (.range (.t 6))⟩])
 (.block 0
 (.loop af12_l0)))
 (.seq
 (.reg [⟨(some 16), none, (.mv (.t 3))⟩,
   ⟨(some 17), none, (.bin .geq .num (.t 16) (.c (.int .i64 1)))⟩,
   ⟨(some 18), none, (.mv (.t 17))⟩,
   ⟨(some 19), (some (18, true)), (.mv (.t 3))⟩,
   ⟨(some 20), (some (18, true)), (.bin .leq .num (.t 19) (.c (.int .i64 8)))⟩,
   ⟨(some 21), none, (.pick (.t 18) (.t 20) (.c (.bool false)))⟩,
   ⟨(some 2), none, (.mv (.t 21))⟩]) .ret))))⟩
theorem caf12 : cFunc Try.prog Try.f12 = some af12 := by kernel_rfl
/-- limelight/rid.Same -/
def af13 : AFunc := ⟨10, [(.tmp 4)],
 (.seq
 (.reg [⟨(some 4), none, (.mv (.c (.bool false)))⟩])
 (.seq
 (.reg [⟨(some 5), none, (.mv (.t 0))⟩,
   ⟨(some 6), none, (.call 10 [(.t 5)])⟩,
   ⟨(some 7), none, (.mv (.t 1))⟩,
   ⟨(some 8), none, (.call 10 [(.t 7)])⟩,
   ⟨(some 9), none, (.bin .eql .str (.t 6) (.t 8))⟩,
   ⟨(some 4), none, (.mv (.t 9))⟩]) .ret))⟩
theorem caf13 : cFunc Try.prog Try.f13 = some af13 := by kernel_rfl
def af14_l0 : AC :=
 (.seq
 (.reg [⟨(some 6), none, (.next (.t 5))⟩,
   ⟨(some 7), none, (.extract 0 (.t 6))⟩])
 (.seq
 (.cond (.t 7) .skip (.exit 0))
 (.block 1
 (.reg [⟨(some 8), none, (.mv (.t 3))⟩,
   ⟨(some 9), none, (.bin .add .num (.t 8) (.c (.int .i64 1)))⟩,
   ⟨(some 3), none, (.mv (.t 9))⟩]))))
/-- limelight/limelightref1.Count -/
def af14 : AFunc := ⟨11, [(.tmp 2)],
 (.seq
 (.reg [⟨(some 2), none, (.mv (.c (.int .i64 0)))⟩])
 (.seq
 (.reg [⟨(some 3), none, (.mv (.c (.int .i64 0)))⟩])
 (.seq
 (.seq
 (.reg [⟨(some 4), none, (.mv (.t 0))⟩,
   ⟨(some 5), none, (.range (.t 4))⟩])
 (.block 0
 (.loop af14_l0)))
 (.seq
 (.reg [⟨(some 10), none, (.mv (.t 3))⟩,
   ⟨(some 2), none, (.mv (.t 10))⟩]) .ret))))⟩
theorem caf14 : cFunc Try.prog Try.f14 = some af14 := by kernel_rfl
def af15_l0 : AC :=
 (.seq
 (.reg [⟨(some 7), none, (.next (.t 6))⟩,
   ⟨(some 8), none, (.extract 0 (.t 7))⟩])
 (.seq
 (.cond (.t 8) .skip (.exit 0))
 (.block 1
 (.seq
 (.reg [⟨(some 9), none, (.extract 2 (.t 7))⟩,
   ⟨(some 4), none, (.mv (.t 9))⟩])
 (.seq
 (.reg [⟨(some 10), none, (.mv (.t 4))⟩,
   ⟨(some 11), none, (.call 19 [(.t 10)])⟩,
   ⟨(some 12), none, (.un .not (.t 11))⟩])
 (.cond (.t 12)
 (.seq
 (.reg [⟨(some 2), none, (.mv (.c (.bool false)))⟩]) .ret) .skip))))))
/-- limelight/limelightref1.Rid -/
def af15 : AFunc := ⟨21, [(.tmp 2)],
 (.seq
 (.reg [⟨(some 2), none, (.mv (.c (.bool false)))⟩])
 (.seq
 (.seq
 (.reg [⟨(some 5), none, (.mv (.t 0))⟩,
   ⟨(some 6), none, (.range (.t 5))⟩])
 (.block 0
 (.loop af15_l0)))
 (.seq
 (.reg [⟨(some 13), none, (.mv (.t 0))⟩,
   ⟨(some 14), none, (.call 14 [(.t 13)])⟩,
   ⟨(some 15), none, (.bin .geq .num (.t 14) (.c (.int .i64 1)))⟩,
   ⟨(some 16), none, (.mv (.t 15))⟩,
   ⟨(some 17), (some (16, true)), (.mv (.t 0))⟩,
   ⟨(some 18), (some (16, true)), (.call 14 [(.t 17)])⟩,
   ⟨(some 19), (some (16, true)), (.bin .leq .num (.t 18) (.c (.int .i64 8)))⟩,
   ⟨(some 20), none, (.pick (.t 16) (.t 19) (.c (.bool false)))⟩,
   ⟨(some 2), none, (.mv (.t 20))⟩]) .ret)))⟩
theorem caf15 : cFunc Try.prog Try.f15 = some af15 := by kernel_rfl
def af16_l0 : AC :=
 (.seq
 (.reg [⟨(some 8), none, (.next (.t 7))⟩,
   ⟨(some 9), none, (.extract 0 (.t 8))⟩])
 (.seq
 (.cond (.t 9) .skip (.exit 0))
 (.block 1
 (.seq
 (.reg [⟨(some 10), none, (.extract 2 (.t 8))⟩,
   ⟨(some 5), none, (.mv (.t 10))⟩])
 (.seq
 (.seq
 (.reg [⟨(some 11), none, (.mv (.t 5))⟩,
   ⟨(some 12), none, (.bin .geq .num (.t 11) (.c (.int .i32 65)))⟩,
   ⟨(some 13), none, (.mv (.t 12))⟩,
   ⟨(some 14), (some (13, true)), (.mv (.t 5))⟩,
   ⟨(some 15), (some (13, true)), (.bin .leq .num (.t 14) (.c (.int .i32 90)))⟩,
   ⟨(some 16), none, (.pick (.t 13) (.t 15) (.c (.bool false)))⟩])
 (.cond (.t 16)
 (.reg [⟨(some 17), none, (.mv (.t 5))⟩,
   ⟨(some 18), none, (.bin .sub .num (.t 17) (.c (.int .i32 65)))⟩,
   ⟨(some 19), none, (.bin .add .num (.t 18) (.c (.int .i32 97)))⟩,
   ⟨(some 5), none, (.mv (.t 19))⟩]) .skip))
 (.reg [⟨(some 20), none, (.mv (.t 3))⟩,
   ⟨(some 21), none, (.mv (.t 5))⟩,
   ⟨(some 22), none, (.conv .runeStr (.t 21))⟩,
   ⟨(some 23), none, (.bin .add .num (.t 20) (.t 22))⟩,
   ⟨(some 3), none, (.mv (.t 23))⟩]))))))
/-- limelight/limelightref1.Fold -/
def af16 : AFunc := ⟨25, [(.tmp 2)],
 (.seq
 (.reg [⟨(some 2), none, (.mv (.c (.str [])))⟩])
 (.seq
 (.reg [⟨(some 3), none, (.mv (.c (.str [])))⟩])
 (.seq
 (.seq
 (.reg [⟨(some 6), none, (.mv (.t 0))⟩,
   ⟨(some 7), none, (.range (.t 6))⟩])
 (.block 0
 (.loop af16_l0)))
 (.seq
 (.reg [⟨(some 24), none, (.mv (.t 3))⟩,
   ⟨(some 2), none, (.mv (.t 24))⟩]) .ret))))⟩
theorem caf16 : cFunc Try.prog Try.f16 = some af16 := by kernel_rfl
def af17_l0 : AC :=
 (.seq
 (.reg [⟨(some 9), none, (.next (.t 8))⟩,
   ⟨(some 10), none, (.extract 0 (.t 9))⟩])
 (.seq
 (.cond (.t 10) .skip (.exit 0))
 (.block 1
 (.seq
 (.reg [⟨(some 11), none, (.extract 1 (.t 9))⟩,
   ⟨(some 6), none, (.mv (.t 11))⟩])
 (.seq
 (.seq
 (.reg [⟨(some 12), none, (.mv (.t 5))⟩,
   ⟨(some 13), none, (.mv (.t 1))⟩,
   ⟨(some 14), none, (.mx [(.t 13), (.c (.int .i64 0))])⟩,
   ⟨(some 15), none, (.bin .geq .num (.t 12) (.t 14))⟩])
 (.cond (.t 15)
 (.seq
 (.reg [⟨(some 16), none, (.mv (.t 0))⟩,
   ⟨(some 17), none, (.mv (.t 6))⟩,
   ⟨(some 18), none, (.cutStr (.t 16) none (some (.t 17)))⟩,
   ⟨(some 4), none, (.mv (.t 18))⟩]) .ret) .skip))
 (.reg [⟨(some 19), none, (.mv (.t 5))⟩,
   ⟨(some 20), none, (.bin .add .num (.t 19) (.c (.int .i64 1)))⟩,
   ⟨(some 5), none, (.mv (.t 20))⟩]))))))
/-- limelight/limelightref1.Short -/
def af17 : AFunc := ⟨22, [(.tmp 4)],
 (.seq
 (.reg [⟨(some 4), none, (.mv (.c (.str [])))⟩])
 (.seq
 (.reg [⟨(some 5), none, (.mv (.c (.int .i64 0)))⟩])
 (.seq
 (.seq
 (.reg [⟨(some 7), none, (.mv (.t 0))⟩,
   ⟨(some 8), none, (.range (.t 7))⟩])
 (.block 0
 (.loop af17_l0)))
 (.seq
 (.reg [⟨(some 21), none, (.mv (.t 0))⟩,
   ⟨(some 4), none, (.mv (.t 21))⟩]) .ret))))⟩
theorem caf17 : cFunc Try.prog Try.f17 = some af17 := by kernel_rfl
/-- limelight/rid.one -/
def af18 : AFunc := ⟨33, [(.tmp 2)],
 (.seq
 (.reg [⟨(some 2), none, (.mv (.c (.bool false)))⟩])
 (.seq
 (.reg [⟨(some 3), none, (.mv (.t 0))⟩,
   ⟨(some 4), none, (.bin .geq .num (.t 3) (.c (.int .i32 97)))⟩,
   ⟨(some 5), none, (.mv (.t 4))⟩,
   ⟨(some 6), (some (5, true)), (.mv (.t 0))⟩,
   ⟨(some 7), (some (5, true)), (.bin .leq .num (.t 6) (.c (.int .i32 122)))⟩,
   ⟨(some 8), none, (.pick (.t 5) (.t 7) (.c (.bool false)))⟩,
   ⟨(some 9), none, (.mv (.t 8))⟩,
   ⟨(some 10), (some (9, false)), (.mv (.t 0))⟩,
   ⟨(some 11), (some (9, false)), (.bin .geq .num (.t 10) (.c (.int .i32 65)))⟩,
   ⟨(some 12), (some (9, false)), (.mv (.t 11))⟩,
   ⟨(some 13), (some (12, true)), (.mv (.t 0))⟩,
   ⟨(some 14), (some (12, true)), (.bin .leq .num (.t 13) (.c (.int .i32 90)))⟩,
   ⟨(some 15), (some (9, false)), (.pick (.t 12) (.t 14) (.c (.bool false)))⟩,
   ⟨(some 16), none, (.pick (.t 9) (.c (.bool true)) (.t 15))⟩,
   ⟨(some 17), none, (.mv (.t 16))⟩,
   ⟨(some 18), (some (17, false)), (.mv (.t 0))⟩,
   ⟨(some 19), (some (17, false)), (.bin .geq .num (.t 18) (.c (.int .i32 48)))⟩,
   ⟨(some 20), (some (17, false)), (.mv (.t 19))⟩,
   ⟨(some 21), (some (20, true)), (.mv (.t 0))⟩,
   ⟨(some 22), (some (20, true)), (.bin .leq .num (.t 21) (.c (.int .i32 57)))⟩,
   ⟨(some 23), (some (17, false)), (.pick (.t 20) (.t 22) (.c (.bool false)))⟩,
   ⟨(some 24), none, (.pick (.t 17) (.c (.bool true)) (.t 23))⟩,
   ⟨(some 25), none, (.mv (.t 24))⟩,
   ⟨(some 26), (some (25, false)), (.mv (.t 0))⟩,
   ⟨(some 27), (some (25, false)), (.bin .eql .num (.t 26) (.c (.int .i32 45)))⟩,
   ⟨(some 28), none, (.pick (.t 25) (.c (.bool true)) (.t 27))⟩,
   ⟨(some 29), none, (.mv (.t 28))⟩,
   ⟨(some 30), (some (29, false)), (.mv (.t 0))⟩,
   ⟨(some 31), (some (29, false)), (.bin .eql .num (.t 30) (.c (.int .i32 95)))⟩,
   ⟨(some 32), none, (.pick (.t 29) (.c (.bool true)) (.t 31))⟩,
   ⟨(some 2), none, (.mv (.t 32))⟩]) .ret))⟩
theorem caf18 : cFunc Try.prog Try.f18 = some af18 := by kernel_rfl
/-- limelight/limelightref1.letter -/
def af19 : AFunc := ⟨33, [(.tmp 2)],
 (.seq
 (.reg [⟨(some 2), none, (.mv (.c (.bool false)))⟩])
 (.seq
 (.reg [⟨(some 3), none, (.mv (.t 0))⟩,
   ⟨(some 4), none, (.bin .geq .num (.t 3) (.c (.int .i32 97)))⟩,
   ⟨(some 5), none, (.mv (.t 4))⟩,
   ⟨(some 6), (some (5, true)), (.mv (.t 0))⟩,
   ⟨(some 7), (some (5, true)), (.bin .leq .num (.t 6) (.c (.int .i32 122)))⟩,
   ⟨(some 8), none, (.pick (.t 5) (.t 7) (.c (.bool false)))⟩,
   ⟨(some 9), none, (.mv (.t 8))⟩,
   ⟨(some 10), (some (9, false)), (.mv (.t 0))⟩,
   ⟨(some 11), (some (9, false)), (.bin .geq .num (.t 10) (.c (.int .i32 65)))⟩,
   ⟨(some 12), (some (9, false)), (.mv (.t 11))⟩,
   ⟨(some 13), (some (12, true)), (.mv (.t 0))⟩,
   ⟨(some 14), (some (12, true)), (.bin .leq .num (.t 13) (.c (.int .i32 90)))⟩,
   ⟨(some 15), (some (9, false)), (.pick (.t 12) (.t 14) (.c (.bool false)))⟩,
   ⟨(some 16), none, (.pick (.t 9) (.c (.bool true)) (.t 15))⟩,
   ⟨(some 17), none, (.mv (.t 16))⟩,
   ⟨(some 18), (some (17, false)), (.mv (.t 0))⟩,
   ⟨(some 19), (some (17, false)), (.bin .geq .num (.t 18) (.c (.int .i32 48)))⟩,
   ⟨(some 20), (some (17, false)), (.mv (.t 19))⟩,
   ⟨(some 21), (some (20, true)), (.mv (.t 0))⟩,
   ⟨(some 22), (some (20, true)), (.bin .leq .num (.t 21) (.c (.int .i32 57)))⟩,
   ⟨(some 23), (some (17, false)), (.pick (.t 20) (.t 22) (.c (.bool false)))⟩,
   ⟨(some 24), none, (.pick (.t 17) (.c (.bool true)) (.t 23))⟩,
   ⟨(some 25), none, (.mv (.t 24))⟩,
   ⟨(some 26), (some (25, false)), (.mv (.t 0))⟩,
   ⟨(some 27), (some (25, false)), (.bin .eql .num (.t 26) (.c (.int .i32 45)))⟩,
   ⟨(some 28), none, (.pick (.t 25) (.c (.bool true)) (.t 27))⟩,
   ⟨(some 29), none, (.mv (.t 28))⟩,
   ⟨(some 30), (some (29, false)), (.mv (.t 0))⟩,
   ⟨(some 31), (some (29, false)), (.bin .eql .num (.t 30) (.c (.int .i32 95)))⟩,
   ⟨(some 32), none, (.pick (.t 29) (.c (.bool true)) (.t 31))⟩,
   ⟨(some 2), none, (.mv (.t 32))⟩]) .ret))⟩
theorem caf19 : cFunc Try.prog Try.f19 = some af19 := by kernel_rfl
def AP : Nat → Option AFunc
  | 3 => some af3
  | 4 => some af4
  | 5 => some af5
  | 6 => some af6
  | 7 => some af7
  | 8 => some af8
  | 9 => some af9
  | 10 => some af10
  | 11 => some af11
  | 12 => some af12
  | 13 => some af13
  | 14 => some af14
  | 15 => some af15
  | 16 => some af16
  | 17 => some af17
  | 18 => some af18
  | 19 => some af19
  | _ => none
theorem apOk : APOk Try.prog AP := by
  intro f af h
  unfold AP at h
  split at h
  · cases h; exact ⟨_, Try.func3, caf3⟩
  · cases h; exact ⟨_, Try.func4, caf4⟩
  · cases h; exact ⟨_, Try.func5, caf5⟩
  · cases h; exact ⟨_, Try.func6, caf6⟩
  · cases h; exact ⟨_, Try.func7, caf7⟩
  · cases h; exact ⟨_, Try.func8, caf8⟩
  · cases h; exact ⟨_, Try.func9, caf9⟩
  · cases h; exact ⟨_, Try.func10, caf10⟩
  · cases h; exact ⟨_, Try.func11, caf11⟩
  · cases h; exact ⟨_, Try.func12, caf12⟩
  · cases h; exact ⟨_, Try.func13, caf13⟩
  · cases h; exact ⟨_, Try.func14, caf14⟩
  · cases h; exact ⟨_, Try.func15, caf15⟩
  · cases h; exact ⟨_, Try.func16, caf16⟩
  · cases h; exact ⟨_, Try.func17, caf17⟩
  · cases h; exact ⟨_, Try.func18, caf18⟩
  · cases h; exact ⟨_, Try.func19, caf19⟩
  · cases h
theorem mixed : Try.prog.follows .mixedOrders = true := by kernel_rfl
end Go.Proofs.YtihddjacbalekaaA
