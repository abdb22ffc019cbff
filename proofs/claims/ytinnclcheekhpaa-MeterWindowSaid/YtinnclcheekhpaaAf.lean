/- The loaded functions of this seat, their types resolved: printed by a program of this claim; each is held against the loaded one. -/
import Derived.Test.YtinnclcheekhpaaAeZ
import Derived.Test.YtinnclcheekhpaaProg
set_option maxRecDepth 100000
namespace Go.Proofs.YtinnclcheekhpaaA
open Go.RowKit
def af3_l0 : AC :=
 (.seq
 (.seq
 (.reg [⟨(some 9), none, (.mv (.t 4))⟩,
   ⟨(some 10), none, (.bin .lss .num (.t 9) (.c (.int .i64 100)))⟩])
 (.cond (.t 10) .skip (.exit 2)))
 (.seq
 (.block 3
 (.seq
 (.reg [⟨(some 13), none, (.mv (.t 3))⟩,
   ⟨(some 14), none, (.mv (.t 4))⟩,
   ⟨(some 15), none, (.mv (.t 4))⟩,
   ⟨(some 16), none, (.bin .mul .num (.t 14) (.t 15))⟩,
   ⟨(some 17), none, (.mv (.t 1))⟩,
   ⟨(some 18), none, (.bin .add .num (.t 16) (.t 17))⟩,
   ⟨(some 19), none, (.bin .rem .num (.t 18) (.c (.int .i64 7)))⟩,
   ⟨(some 20), none, (.mv (.t 1))⟩,
   ⟨(some 21), none, (.bin .mul .num (.t 20) (.c (.int .i64 4000)))⟩,
   ⟨(some 22), none, (.bin .mul .num (.t 19) (.t 21))⟩,
   ⟨(some 23), none, (.bin .add .num (.t 13) (.t 22))⟩,
   ⟨(some 24), none, (.mv (.t 4))⟩,
   ⟨(some 25), none, (.bin .rem .num (.t 24) (.c (.int .i64 11)))⟩,
   ⟨(some 26), none, (.bin .mul .num (.t 25) (.c (.int .i64 1000)))⟩,
   ⟨(some 27), none, (.bin .sub .num (.t 23) (.t 26))⟩,
   ⟨(some 3), none, (.mv (.t 27))⟩])
 (.reg [⟨(some 28), none, (.mv (.t 2))⟩,
   ⟨(some 29), none, (.mv (.t 4))⟩,
   ⟨(some 30), none, (.bin .rem .num (.t 29) (.c (.int .i64 3)))⟩,
   ⟨(some 31), none, (.bin .gtr .num (.t 30) (.c (.int .i64 0)))⟩,
   ⟨(some 32), none, (.mv (.t 4))⟩,
   ⟨(some 33), none, (.mv (.t 1))⟩,
   ⟨(some 34), none, (.bin .mul .num (.t 32) (.t 33))⟩,
   ⟨(some 35), none, (.bin .rem .num (.t 34) (.c (.int .i64 1500)))⟩,
   ⟨(some 36), none, (.bin .sub .num (.t 35) (.c (.int .i64 3)))⟩,
   ⟨(some 37), none, (.mv (.t 3))⟩,
   ⟨(some 38), none, (.build [(.bool false), (.int .i64 0), (.int .i64 0)] [(0, (1, (.t 31))), (1, (1, (.t 36))), (2, (1, (.t 37)))])⟩,
   ⟨(some 39), none, (.buildSlice 3 [(.bool false), (.int .i64 0), (.int .i64 0)] 1 [(0, (3, (.t 38)))])⟩,
   ⟨(some 40), none, (.append 3 24 (.t 28) (.t 39))⟩,
   ⟨(some 2), none, (.mv (.t 40))⟩])))
 (.reg [⟨(some 11), none, (.mv (.t 4))⟩,
   ⟨(some 12), none, (.bin .add .num (.t 11) (.c (.int .i64 1)))⟩,
   ⟨(some 4), none, (.mv (.t 12))⟩])))
def af3_l1 : AC :=
 (.seq
 (.seq
 (.reg [⟨(some 5), none, (.mv (.t 1))⟩,
   ⟨(some 6), none, (.bin .lss .num (.t 5) (.c (.int .i64 40)))⟩])
 (.cond (.t 6) .skip (.exit 0)))
 (.seq
 (.block 1
 (.seq
 (.reg [⟨(some 2), none, (.mv (.c (.slice none 0 0 none)))⟩])
 (.seq
 (.reg [⟨(some 3), none, (.mv (.c (.int .i64 0)))⟩])
 (.seq
 (.seq
 (.reg [⟨(some 4), none, (.mv (.c (.int .i64 0)))⟩])
 (.block 2
 (.loop af3_l0)))
 (.seq
 (.reg [⟨(some 41), none, (.mv (.t 2))⟩,
   ⟨(some 42), none, (.call 6 [(.t 41)])⟩,
   ⟨(some 43), none, (.un .not (.t 42))⟩])
 (.cond (.t 43)
 (.seq
 (.reg [⟨(some 0), none, (.mv (.c (.bool false)))⟩]) .ret) .skip))))))
 (.reg [⟨(some 7), none, (.mv (.t 1))⟩,
   ⟨(some 8), none, (.bin .add .num (.t 7) (.c (.int .i64 1)))⟩,
   ⟨(some 1), none, (.mv (.t 8))⟩])))
/-- limelight/limelightlaw16.MeterNumbers -/
def af3 : AFunc := ⟨54, [(.tmp 0)],
 (.seq
 (.reg [⟨(some 0), none, (.mv (.c (.bool false)))⟩])
 (.seq
 (.seq
 (.reg [⟨(some 1), none, (.mv (.c (.int .i64 0)))⟩])
 (.block 0
 (.loop af3_l1)))
 (.seq
 (.reg [⟨(some 44), none, (.build [(.bool false), (.int .i64 0), (.int .i64 0)] [(0, (1, (.c (.bool true)))), (1, (1, (.c (.int .i64 4611686018427387904)))), (2, (1, (.c (.int .i64 0))))])⟩,
   ⟨(some 45), none, (.build [(.bool false), (.int .i64 0), (.int .i64 0)] [(0, (1, (.c (.bool true)))), (1, (1, (.c (.int .i64 4611686018427387904)))), (2, (1, (.c (.int .i64 100000))))])⟩,
   ⟨(some 46), none, (.build [(.bool false), (.int .i64 0), (.int .i64 0)] [(2, (1, (.c (.int .i64 500000))))])⟩,
   ⟨(some 47), none, (.build [(.bool false), (.int .i64 0), (.int .i64 0)] [(0, (1, (.c (.bool true)))), (1, (1, (.c (.int .i64 7)))), (2, (1, (.c (.int .i64 9223372036854775807))))])⟩,
   ⟨(some 48), none, (.build [(.bool false), (.int .i64 0), (.int .i64 0)] [(2, (1, (.c (.int .i64 (-9223372036854775808)))))])⟩,
   ⟨(some 49), none, (.buildSlice 3 [(.bool false), (.int .i64 0), (.int .i64 0)] 5 [(0, (3, (.t 44))), (3, (3, (.t 45))), (6, (3, (.t 46))), (9, (3, (.t 47))), (12, (3, (.t 48)))])⟩,
   ⟨(some 50), none, (.call 6 [(.t 49)])⟩,
   ⟨(some 51), none, (.mv (.t 50))⟩,
   ⟨(some 52), (some (51, true)), (.call 7 [])⟩,
   ⟨(some 53), none, (.pick (.t 51) (.t 52) (.c (.bool false)))⟩,
   ⟨(some 0), none, (.mv (.t 53))⟩]) .ret)))⟩
theorem caf3 : cFunc Try.prog Try.f3 = some af3 := by kernel_rfl
def af4_l0 : AC :=
 (.seq
 (.reg [⟨(some 70), none, (.bin .lss .num (.t 69) (.t 68))⟩])
 (.seq
 (.cond (.t 70) .skip (.exit 2))
 (.seq
 (.block 3
 (.seq
 (.reg [⟨(some 71), none, (.mv (.t 69))⟩,
   ⟨(some 12), none, (.mv (.t 71))⟩])
 (.seq
 (.reg [⟨(some 72), none, (.mv (.t 8))⟩,
   ⟨(some 73), none, (.mv (.t 12))⟩,
   ⟨(some 74), none, (.ixSlice 1 (.t 72) (.t 73))⟩,
   ⟨(some 75), none, (.load1 (.t 74))⟩,
   ⟨(some 76), none, (.mv (.t 6))⟩,
   ⟨(some 77), none, (.bin .quo .num (.t 76) (.c (.int .i64 100000)))⟩,
   ⟨(some 78), none, (.bin .sub .num (.t 77) (.c (.int .i64 5)))⟩,
   ⟨(some 79), none, (.bin .gtr .num (.t 75) (.t 78))⟩])
 (.cond (.t 79)
 (.reg [⟨(some 80), none, (.mv (.t 11))⟩,
   ⟨(some 81), none, (.mv (.t 9))⟩,
   ⟨(some 82), none, (.mv (.t 12))⟩,
   ⟨(some 83), none, (.ixSlice 1 (.t 81) (.t 82))⟩,
   ⟨(some 84), none, (.load1 (.t 83))⟩,
   ⟨(some 85), none, (.bin .add .num (.t 80) (.t 84))⟩,
   ⟨(some 11), none, (.mv (.t 85))⟩]) .skip))))
 (.reg [⟨(some 86), none, (.bin .add .num (.t 69) (.c (.int .i64 1)))⟩,
   ⟨(some 69), none, (.mv (.t 86))⟩]))))
def af4_l1 : AC :=
 (.seq
 (.seq
 (.reg [⟨(some 16), none, (.mv (.t 10))⟩,
   ⟨(some 17), none, (.mv (.t 0))⟩,
   ⟨(some 18), none, (.len (.t 17))⟩,
   ⟨(some 19), none, (.bin .lss .num (.t 16) (.t 18))⟩,
   ⟨(some 20), none, (.mv (.t 19))⟩,
   ⟨(some 21), (some (20, true)), (.mv (.t 10))⟩,
   ⟨(some 22), (some (20, true)), (.mv (.t 1))⟩,
   ⟨(some 23), (some (20, true)), (.len (.t 22))⟩,
   ⟨(some 24), (some (20, true)), (.bin .lss .num (.t 21) (.t 23))⟩,
   ⟨(some 25), none, (.pick (.t 20) (.t 24) (.c (.bool false)))⟩,
   ⟨(some 26), none, (.mv (.t 25))⟩,
   ⟨(some 27), (some (26, true)), (.mv (.t 10))⟩,
   ⟨(some 28), (some (26, true)), (.bin .lss .num (.t 27) (.c (.int .i64 60)))⟩,
   ⟨(some 29), none, (.pick (.t 26) (.t 28) (.c (.bool false)))⟩])
 (.cond (.t 29) .skip (.exit 0)))
 (.seq
 (.block 1
 (.seq
 (.reg [⟨(some 32), none, (.mv (.t 6))⟩,
   ⟨(some 33), none, (.mv (.t 1))⟩,
   ⟨(some 34), none, (.mv (.t 10))⟩,
   ⟨(some 35), none, (.ixSlice 1 (.t 33) (.t 34))⟩,
   ⟨(some 36), none, (.load1 (.t 35))⟩,
   ⟨(some 37), none, (.bin .and .num (.t 36) (.c (.int .i64 131071)))⟩,
   ⟨(some 38), none, (.bin .add .num (.t 32) (.t 37))⟩,
   ⟨(some 6), none, (.mv (.t 38))⟩])
 (.seq
 (.reg [⟨(some 39), none, (.mv (.t 5))⟩,
   ⟨(some 40), none, (.mv (.t 0))⟩,
   ⟨(some 41), none, (.mv (.t 10))⟩,
   ⟨(some 42), none, (.ixSlice 1 (.t 40) (.t 41))⟩,
   ⟨(some 43), none, (.load1 (.t 42))⟩,
   ⟨(some 44), none, (.bin .and .num (.t 43) (.c (.int .i64 2047)))⟩,
   ⟨(some 45), none, (.mv (.t 6))⟩,
   ⟨(some 46), none, (.call 9 [(.t 39), (.t 44), (.t 45)])⟩])
 (.seq
 (.dreg [⟨(some 47), none, (.mv (.t 8))⟩,
   ⟨(some 48), none, (.mv (.t 6))⟩,
   ⟨(some 49), none, (.bin .quo .num (.t 48) (.c (.int .i64 100000)))⟩,
   ⟨(some 50), none, (.buildSlice 1 [(.int .i64 0)] 1 [(0, (1, (.t 49)))])⟩,
   ⟨(some 51), none, (.append 1 8 (.t 47) (.t 50))⟩,
   ⟨(some 52), none, (.mv (.t 9))⟩,
   ⟨(some 53), none, (.mv (.t 0))⟩,
   ⟨(some 54), none, (.mv (.t 10))⟩,
   ⟨(some 55), none, (.ixSlice 1 (.t 53) (.t 54))⟩,
   ⟨(some 56), none, (.load1 (.t 55))⟩,
   ⟨(some 57), none, (.bin .and .num (.t 56) (.c (.int .i64 2047)))⟩,
   ⟨(some 58), none, (.buildSlice 1 [(.int .i64 0)] 1 [(0, (1, (.t 57)))])⟩,
   ⟨(some 59), none, (.append 1 8 (.t 52) (.t 58))⟩,
   ⟨(some 8), none, (.mv (.t 51))⟩,
   ⟨(some 9), none, (.mv (.t 59))⟩] [(11, 11), (9, 3), (9, 4)])
 (.seq
 (.reg [⟨(some 60), none, (.mv (.t 7))⟩,
   ⟨(some 61), none, (.mv (.t 0))⟩,
   ⟨(some 62), none, (.mv (.t 10))⟩,
   ⟨(some 63), none, (.ixSlice 1 (.t 61) (.t 62))⟩,
   ⟨(some 64), none, (.load1 (.t 63))⟩,
   ⟨(some 65), none, (.bin .and .num (.t 64) (.c (.int .i64 2047)))⟩,
   ⟨(some 66), none, (.bin .add .num (.t 60) (.t 65))⟩,
   ⟨(some 7), none, (.mv (.t 66))⟩])
 (.seq
 (.reg [⟨(some 11), none, (.mv (.c (.int .i64 0)))⟩])
 (.seq
 (.seq
 (.reg [⟨(some 67), none, (.mv (.t 8))⟩,
   ⟨(some 68), none, (.len (.t 67))⟩,
   ⟨(some 69), none, (.mv (.c (.int .i64 0)))⟩])
 (.block 2
 (.loop af4_l0)))
 (.seq
 (.reg [⟨(some 87), none, (.mv (.t 5))⟩,
   ⟨(some 88), none, (.mv (.t 6))⟩,
   ⟨(some 89), none, (.call 10 [(.t 87), (.t 88)])⟩,
   ⟨(some 90), none, (.mv (.t 11))⟩,
   ⟨(some 91), none, (.bin .mul .num (.t 90) (.c (.int .i64 1000000)))⟩,
   ⟨(some 92), none, (.call 11 [(.t 91), (.c (.int .i64 500000))])⟩,
   ⟨(some 93), none, (.bin .neq .num (.t 89) (.t 92))⟩,
   ⟨(some 94), none, (.mv (.t 93))⟩,
   ⟨(some 95), (some (94, false)), (.mv (.t 5))⟩,
   ⟨(some 96), (some (94, false)), (.call 12 [(.t 95)])⟩,
   ⟨(some 97), (some (94, false)), (.mv (.t 7))⟩,
   ⟨(some 98), (some (94, false)), (.bin .neq .num (.t 96) (.t 97))⟩,
   ⟨(some 99), none, (.pick (.t 94) (.c (.bool true)) (.t 98))⟩])
 (.cond (.t 99)
 (.seq
 (.reg [⟨(some 4), none, (.mv (.c (.bool false)))⟩]) .ret) .skip)))))))))
 (.reg [⟨(some 30), none, (.mv (.t 10))⟩,
   ⟨(some 31), none, (.bin .add .num (.t 30) (.c (.int .i64 1)))⟩,
   ⟨(some 10), none, (.mv (.t 31))⟩])))
/-- limelight/limelightlaw16.MeterWindow -/
def af4 : AFunc := ⟨101, [(.tmp 4)],
 (.seq
 (.reg [⟨(some 4), none, (.mv (.c (.bool false)))⟩])
 (.seq
 (.reg [⟨(some 13), none, (.call 8 [])⟩,
   ⟨(some 5), none, (.mv (.t 13))⟩])
 (.seq
 (.seq
 (.reg [⟨(some 14), none, (.mv (.t 5))⟩,
   ⟨(some 15), none, (.bin .eql .ptr (.t 14) (.c (.ptr none)))⟩])
 (.cond (.t 15)
 (.seq
 (.reg [⟨(some 4), none, (.mv (.c (.bool false)))⟩]) .ret) .skip))
 (.seq
 (.reg [⟨(some 6), none, (.mv (.c (.int .i64 0)))⟩,
   ⟨(some 7), none, (.mv (.c (.int .i64 0)))⟩])
 (.seq
 (.reg [⟨(some 8), none, (.mv (.c (.slice none 0 0 none)))⟩])
 (.seq
 (.reg [⟨(some 9), none, (.mv (.c (.slice none 0 0 none)))⟩])
 (.seq
 (.seq
 (.reg [⟨(some 10), none, (.mv (.c (.int .i64 0)))⟩])
 (.block 0
 (.loop af4_l1)))
 (.seq
 (.reg [⟨(some 100), none, (.call 7 [])⟩,
   ⟨(some 4), none, (.mv (.t 100))⟩]) .ret))))))))⟩
theorem caf4 : cFunc Try.prog Try.f4 = some af4 := by kernel_rfl
def af5_l0 : AC :=
 (.seq
 (.seq
 (.reg [⟨(some 50), none, (.mv (.t 10))⟩,
   ⟨(some 51), none, (.bin .lss .num (.t 50) (.c (.int .i64 7)))⟩])
 (.cond (.t 51) .skip (.exit 2)))
 (.seq
 (.block 3
 (.seq
 (.reg [⟨(some 54), none, (.mv (.t 5))⟩,
   ⟨(some 55), none, (.mv (.t 7))⟩,
   ⟨(some 56), none, (.mv (.t 10))⟩,
   ⟨(some 57), none, (.bin .mul .num (.t 56) (.c (.int .i64 100000)))⟩,
   ⟨(some 58), none, (.bin .add .num (.t 55) (.t 57))⟩,
   ⟨(some 59), none, (.call 10 [(.t 54), (.t 58)])⟩,
   ⟨(some 60), none, (.mv (.t 6))⟩,
   ⟨(some 61), none, (.mv (.t 7))⟩,
   ⟨(some 62), none, (.mv (.t 10))⟩,
   ⟨(some 63), none, (.bin .mul .num (.t 62) (.c (.int .i64 100000)))⟩,
   ⟨(some 64), none, (.bin .add .num (.t 61) (.t 63))⟩,
   ⟨(some 65), none, (.call 10 [(.t 60), (.t 64)])⟩,
   ⟨(some 66), none, (.bin .neq .num (.t 59) (.t 65))⟩])
 (.cond (.t 66)
 (.seq
 (.reg [⟨(some 4), none, (.mv (.c (.bool false)))⟩]) .ret) .skip)))
 (.reg [⟨(some 52), none, (.mv (.t 10))⟩,
   ⟨(some 53), none, (.bin .add .num (.t 52) (.c (.int .i64 1)))⟩,
   ⟨(some 10), none, (.mv (.t 53))⟩])))
def af5_l1 : AC :=
 (.seq
 (.seq
 (.reg [⟨(some 21), none, (.mv (.t 9))⟩,
   ⟨(some 22), none, (.mv (.t 0))⟩,
   ⟨(some 23), none, (.len (.t 22))⟩,
   ⟨(some 24), none, (.bin .lss .num (.t 21) (.t 23))⟩,
   ⟨(some 25), none, (.mv (.t 24))⟩,
   ⟨(some 26), (some (25, true)), (.mv (.t 9))⟩,
   ⟨(some 27), (some (25, true)), (.bin .lss .num (.t 26) (.c (.int .i64 40)))⟩,
   ⟨(some 28), none, (.pick (.t 25) (.t 27) (.c (.bool false)))⟩])
 (.cond (.t 28) .skip (.exit 0)))
 (.seq
 (.block 1
 (.seq
 (.reg [⟨(some 31), none, (.mv (.t 5))⟩,
   ⟨(some 32), none, (.mv (.t 0))⟩,
   ⟨(some 33), none, (.mv (.t 9))⟩,
   ⟨(some 34), none, (.ixSlice 1 (.t 32) (.t 33))⟩,
   ⟨(some 35), none, (.load1 (.t 34))⟩,
   ⟨(some 36), none, (.bin .and .num (.t 35) (.c (.int .i64 1023)))⟩,
   ⟨(some 37), none, (.mv (.t 7))⟩,
   ⟨(some 38), none, (.call 9 [(.t 31), (.t 36), (.t 37)])⟩])
 (.reg [⟨(some 39), none, (.mv (.t 8))⟩,
   ⟨(some 40), none, (.mv (.t 0))⟩,
   ⟨(some 41), none, (.mv (.t 9))⟩,
   ⟨(some 42), none, (.ixSlice 1 (.t 40) (.t 41))⟩,
   ⟨(some 43), none, (.load1 (.t 42))⟩,
   ⟨(some 44), none, (.bin .and .num (.t 43) (.c (.int .i64 1023)))⟩,
   ⟨(some 45), none, (.bin .add .num (.t 39) (.t 44))⟩,
   ⟨(some 8), none, (.mv (.t 45))⟩])))
 (.reg [⟨(some 29), none, (.mv (.t 9))⟩,
   ⟨(some 30), none, (.bin .add .num (.t 29) (.c (.int .i64 1)))⟩,
   ⟨(some 9), none, (.mv (.t 30))⟩])))
/-- limelight/limelightlaw16.MeterParts -/
def af5 : AFunc := ⟨81, [(.tmp 4)],
 (.seq
 (.reg [⟨(some 4), none, (.mv (.c (.bool false)))⟩])
 (.seq
 (.reg [⟨(some 11), none, (.call 8 [])⟩,
   ⟨(some 12), none, (.call 8 [])⟩,
   ⟨(some 5), none, (.mv (.t 11))⟩,
   ⟨(some 6), none, (.mv (.t 12))⟩])
 (.seq
 (.reg [⟨(some 13), none, (.mv (.t 1))⟩,
   ⟨(some 14), none, (.bin .and .num (.t 13) (.c (.int .i64 1099511627775)))⟩,
   ⟨(some 7), none, (.mv (.t 14))⟩])
 (.seq
 (.seq
 (.reg [⟨(some 15), none, (.mv (.t 5))⟩,
   ⟨(some 16), none, (.bin .eql .ptr (.t 15) (.c (.ptr none)))⟩,
   ⟨(some 17), none, (.mv (.t 16))⟩,
   ⟨(some 18), (some (17, false)), (.mv (.t 6))⟩,
   ⟨(some 19), (some (17, false)), (.bin .eql .ptr (.t 18) (.c (.ptr none)))⟩,
   ⟨(some 20), none, (.pick (.t 17) (.c (.bool true)) (.t 19))⟩])
 (.cond (.t 20)
 (.seq
 (.reg [⟨(some 4), none, (.mv (.c (.bool false)))⟩]) .ret) .skip))
 (.seq
 (.reg [⟨(some 8), none, (.mv (.c (.int .i64 0)))⟩])
 (.seq
 (.seq
 (.reg [⟨(some 9), none, (.mv (.c (.int .i64 0)))⟩])
 (.block 0
 (.loop af5_l1)))
 (.seq
 (.reg [⟨(some 46), none, (.mv (.t 6))⟩,
   ⟨(some 47), none, (.mv (.t 8))⟩,
   ⟨(some 48), none, (.mv (.t 7))⟩,
   ⟨(some 49), none, (.call 9 [(.t 46), (.t 47), (.t 48)])⟩])
 (.seq
 (.seq
 (.reg [⟨(some 10), none, (.mv (.c (.int .i64 0)))⟩])
 (.block 2
 (.loop af5_l0)))
 (.seq
 (.reg [⟨(some 67), none, (.mv (.t 5))⟩,
   ⟨(some 68), none, (.call 12 [(.t 67)])⟩,
   ⟨(some 69), none, (.mv (.t 8))⟩,
   ⟨(some 70), none, (.bin .eql .num (.t 68) (.t 69))⟩,
   ⟨(some 71), none, (.mv (.t 70))⟩,
   ⟨(some 72), (some (71, true)), (.mv (.t 6))⟩,
   ⟨(some 73), (some (71, true)), (.call 12 [(.t 72)])⟩,
   ⟨(some 74), (some (71, true)), (.mv (.t 5))⟩,
   ⟨(some 75), (some (71, true)), (.call 12 [(.t 74)])⟩,
   ⟨(some 76), (some (71, true)), (.bin .eql .num (.t 73) (.t 75))⟩,
   ⟨(some 77), none, (.pick (.t 71) (.t 76) (.c (.bool false)))⟩,
   ⟨(some 78), none, (.mv (.t 77))⟩,
   ⟨(some 79), (some (78, true)), (.call 7 [])⟩,
   ⟨(some 80), none, (.pick (.t 78) (.t 79) (.c (.bool false)))⟩,
   ⟨(some 4), none, (.mv (.t 80))⟩]) .ret)))))))))⟩
theorem caf5 : cFunc Try.prog Try.f5 = some af5 := by kernel_rfl
def af6_l0 : AC :=
 (.seq
 (.seq
 (.reg [⟨(some 10), none, (.mv (.t 5))⟩,
   ⟨(some 11), none, (.mv (.t 0))⟩,
   ⟨(some 12), none, (.len (.t 11))⟩,
   ⟨(some 13), none, (.bin .lss .num (.t 10) (.t 12))⟩,
   ⟨(some 14), none, (.mv (.t 13))⟩,
   ⟨(some 15), (some (14, true)), (.mv (.t 5))⟩,
   ⟨(some 16), (some (14, true)), (.bin .lss .num (.t 15) (.c (.int .i64 150)))⟩,
   ⟨(some 17), none, (.pick (.t 14) (.t 16) (.c (.bool false)))⟩])
 (.cond (.t 17) .skip (.exit 0)))
 (.seq
 (.block 1
 (.seq
 (.reg [⟨(some 20), none, (.mv (.t 0))⟩,
   ⟨(some 21), none, (.mv (.t 5))⟩,
   ⟨(some 22), none, (.ixSlice 3 (.t 20) (.t 21))⟩,
   ⟨(some 23), none, (.loadN 3 (.t 22))⟩,
   ⟨(some 6), none, (.alloc [(.bool false), (.int .i64 0), (.int .i64 0)])⟩,
   ⟨none, none, (.store 3 (.t 6) (.t 23))⟩])
 (.seq
 (.seq
 (.reg [⟨(some 24), none, (.mv (.t 3))⟩,
   ⟨(some 25), none, (.bin .eql .ptr (.t 24) (.c (.ptr none)))⟩])
 (.cond (.t 25)
 (.seq
 (.reg [⟨(some 2), none, (.mv (.c (.bool false)))⟩]) .ret) .skip))
 (.seq
 (.seq
 (.reg [⟨(some 26), none, (.fieldAddr 0 1 (.t 6))⟩,
   ⟨(some 27), none, (.load1 (.t 26))⟩])
 (.cond (.t 27)
 (.seq
 (.reg [⟨(some 28), none, (.mv (.t 3))⟩,
   ⟨(some 29), none, (.fieldAddr 1 1 (.t 6))⟩,
   ⟨(some 30), none, (.load1 (.t 29))⟩,
   ⟨(some 31), none, (.fieldAddr 2 1 (.t 6))⟩,
   ⟨(some 32), none, (.load1 (.t 31))⟩,
   ⟨(some 33), none, (.call 9 [(.t 28), (.t 30), (.t 32)])⟩])
 (.reg [⟨(some 34), none, (.mv (.t 4))⟩,
   ⟨(some 35), none, (.fieldAddr 1 1 (.t 6))⟩,
   ⟨(some 36), none, (.load1 (.t 35))⟩,
   ⟨(some 37), none, (.fieldAddr 2 1 (.t 6))⟩,
   ⟨(some 38), none, (.load1 (.t 37))⟩,
   ⟨(some 39), none, (.call 13 [(.t 34), (.t 36), (.t 38)])⟩])) .skip))
 (.seq
 (.dreg [⟨(some 40), none, (.mv (.t 3))⟩,
   ⟨(some 41), none, (.fieldAddr 2 1 (.t 6))⟩,
   ⟨(some 42), none, (.load1 (.t 41))⟩,
   ⟨(some 43), none, (.call 10 [(.t 40), (.t 42)])⟩,
   ⟨(some 44), none, (.mv (.t 4))⟩,
   ⟨(some 45), none, (.fieldAddr 2 1 (.t 6))⟩,
   ⟨(some 46), none, (.load1 (.t 45))⟩,
   ⟨(some 47), none, (.call 14 [(.t 44), (.t 46)])⟩,
   ⟨(some 48), none, (.bin .neq .num (.t 43) (.t 47))⟩,
   ⟨(some 49), none, (.mv (.t 48))⟩,
   ⟨(some 50), (some (49, false)), (.mv (.t 3))⟩,
   ⟨(some 51), (some (49, false)), (.call 12 [(.t 50)])⟩,
   ⟨(some 52), (some (49, false)), (.mv (.t 4))⟩,
   ⟨(some 53), (some (49, false)), (.nilCheck (.t 52))⟩,
   ⟨(some 54), (some (49, false)), (.fieldAddr 6 1 (.t 53))⟩,
   ⟨(some 55), (some (49, false)), (.load1 (.t 54))⟩,
   ⟨(some 56), (some (49, false)), (.bin .neq .num (.t 51) (.t 55))⟩,
   ⟨(some 57), none, (.pick (.t 49) (.c (.bool true)) (.t 56))⟩,
   ⟨(some 58), none, (.mv (.t 57))⟩,
   ⟨(some 59), (some (58, false)), (.mv (.t 3))⟩,
   ⟨(some 60), (some (58, false)), (.fieldAddr 2 1 (.t 6))⟩,
   ⟨(some 61), (some (58, false)), (.load1 (.t 60))⟩,
   ⟨(some 62), (some (58, false)), (.bin .quo .num (.t 61) (.c (.int .i64 2)))⟩,
   ⟨(some 63), (some (58, false)), (.call 10 [(.t 59), (.t 62)])⟩,
   ⟨(some 64), (some (58, false)), (.mv (.t 4))⟩,
   ⟨(some 65), (some (58, false)), (.fieldAddr 2 1 (.t 6))⟩,
   ⟨(some 66), (some (58, false)), (.load1 (.t 65))⟩,
   ⟨(some 67), (some (58, false)), (.bin .quo .num (.t 66) (.c (.int .i64 2)))⟩,
   ⟨(some 68), (some (58, false)), (.call 14 [(.t 64), (.t 67)])⟩,
   ⟨(some 69), (some (58, false)), (.bin .neq .num (.t 63) (.t 68))⟩,
   ⟨(some 70), none, (.pick (.t 58) (.c (.bool true)) (.t 69))⟩] [(6, 3), (15, 11), (26, 23)])
 (.cond (.t 70)
 (.seq
 (.reg [⟨(some 2), none, (.mv (.c (.bool false)))⟩]) .ret) .skip))))))
 (.reg [⟨(some 18), none, (.mv (.t 5))⟩,
   ⟨(some 19), none, (.bin .add .num (.t 18) (.c (.int .i64 1)))⟩,
   ⟨(some 5), none, (.mv (.t 19))⟩])))
/-- limelight/limelightlaw16.play -/
def af6 : AFunc := ⟨73, [(.tmp 2)],
 (.seq
 (.reg [⟨(some 2), none, (.mv (.c (.bool false)))⟩])
 (.seq
 (.reg [⟨(some 7), none, (.call 8 [])⟩,
   ⟨(some 8), none, (.build [(.int .i64 0), (.int .i64 0), (.int .i64 0), (.int .i64 0), (.int .i64 0), (.int .i64 0), (.int .i64 0)] [])⟩,
   ⟨(some 9), none, (.box (.t 8))⟩,
   ⟨(some 3), none, (.mv (.t 7))⟩,
   ⟨(some 4), none, (.mv (.t 9))⟩])
 (.seq
 (.seq
 (.reg [⟨(some 5), none, (.mv (.c (.int .i64 0)))⟩])
 (.block 0
 (.loop af6_l0)))
 (.seq
 (.reg [⟨(some 71), none, (.mv (.t 3))⟩,
   ⟨(some 72), none, (.bin .neq .ptr (.t 71) (.c (.ptr none)))⟩,
   ⟨(some 2), none, (.mv (.t 72))⟩]) .ret))))⟩
theorem caf6 : cFunc Try.prog Try.f6 = some af6 := by kernel_rfl
/-- limelight/limelightlaw16.known -/
def af7 : AFunc := ⟨40, [(.tmp 0)],
 (.seq
 (.reg [⟨(some 0), none, (.mv (.c (.bool false)))⟩])
 (.seq
 (.reg [⟨(some 6), none, (.call 8 [])⟩,
   ⟨(some 1), none, (.mv (.t 6))⟩])
 (.seq
 (.seq
 (.reg [⟨(some 7), none, (.mv (.t 1))⟩,
   ⟨(some 8), none, (.bin .eql .ptr (.t 7) (.c (.ptr none)))⟩])
 (.cond (.t 8)
 (.seq
 (.reg [⟨(some 0), none, (.mv (.c (.bool false)))⟩]) .ret) .skip))
 (.seq
 (.reg [⟨(some 9), none, (.mv (.t 1))⟩,
   ⟨(some 10), none, (.call 10 [(.t 9), (.c (.int .i64 0))])⟩,
   ⟨(some 2), none, (.mv (.t 10))⟩])
 (.seq
 (.reg [⟨(some 11), none, (.mv (.t 1))⟩,
   ⟨(some 12), none, (.call 9 [(.t 11), (.c (.int .i64 500)), (.c (.int .i64 0))])⟩])
 (.seq
 (.reg [⟨(some 13), none, (.mv (.t 1))⟩,
   ⟨(some 14), none, (.call 10 [(.t 13), (.c (.int .i64 0))])⟩,
   ⟨(some 3), none, (.mv (.t 14))⟩])
 (.seq
 (.reg [⟨(some 15), none, (.mv (.t 1))⟩,
   ⟨(some 16), none, (.call 9 [(.t 15), (.c (.int .i64 (-5))), (.c (.int .i64 1))])⟩])
 (.seq
 (.reg [⟨(some 17), none, (.mv (.t 1))⟩,
   ⟨(some 18), none, (.call 10 [(.t 17), (.c (.int .i64 499999))])⟩,
   ⟨(some 4), none, (.mv (.t 18))⟩])
 (.seq
 (.reg [⟨(some 19), none, (.mv (.t 1))⟩,
   ⟨(some 20), none, (.call 10 [(.t 19), (.c (.int .i64 500000))])⟩,
   ⟨(some 5), none, (.mv (.t 20))⟩])
 (.seq
 (.reg [⟨(some 21), none, (.mv (.t 2))⟩,
   ⟨(some 22), none, (.bin .eql .num (.t 21) (.c (.int .i64 0)))⟩,
   ⟨(some 23), none, (.mv (.t 22))⟩,
   ⟨(some 24), (some (23, true)), (.mv (.t 3))⟩,
   ⟨(some 25), (some (23, true)), (.bin .eql .num (.t 24) (.c (.int .i64 1000)))⟩,
   ⟨(some 26), none, (.pick (.t 23) (.t 25) (.c (.bool false)))⟩,
   ⟨(some 27), none, (.mv (.t 26))⟩,
   ⟨(some 28), (some (27, true)), (.mv (.t 4))⟩,
   ⟨(some 29), (some (27, true)), (.bin .eql .num (.t 28) (.c (.int .i64 1000)))⟩,
   ⟨(some 30), none, (.pick (.t 27) (.t 29) (.c (.bool false)))⟩,
   ⟨(some 31), none, (.mv (.t 30))⟩,
   ⟨(some 32), (some (31, true)), (.mv (.t 5))⟩,
   ⟨(some 33), (some (31, true)), (.bin .eql .num (.t 32) (.c (.int .i64 0)))⟩,
   ⟨(some 34), none, (.pick (.t 31) (.t 33) (.c (.bool false)))⟩,
   ⟨(some 35), none, (.mv (.t 34))⟩,
   ⟨(some 36), (some (35, true)), (.mv (.t 1))⟩,
   ⟨(some 37), (some (35, true)), (.call 12 [(.t 36)])⟩,
   ⟨(some 38), (some (35, true)), (.bin .eql .num (.t 37) (.c (.int .i64 500)))⟩,
   ⟨(some 39), none, (.pick (.t 35) (.t 38) (.c (.bool false)))⟩,
   ⟨(some 0), none, (.mv (.t 39))⟩]) .ret))))))))))⟩
theorem caf7 : cFunc Try.prog Try.f7 = some af7 := by kernel_rfl
/-- limelight/meter.New -/
def af8 : AFunc := ⟨3, [(.tmp 0)],
 (.seq
 (.reg [⟨(some 0), none, (.mv (.c (.ptr none)))⟩])
 (.seq
 (.reg [⟨(some 1), none, (.build [(.int .i64 0), (.int .i64 0), (.int .i64 0), (.int .i64 0), (.int .i64 0), (.int .i64 0), (.int .i64 0)] [])⟩,
   ⟨(some 2), none, (.box (.t 1))⟩,
   ⟨(some 0), none, (.mv (.t 2))⟩]) .ret))⟩
theorem caf8 : cFunc Try.prog Try.f8 = some af8 := by kernel_rfl
def af9_l0 : AC :=
 (.seq
 (.reg [⟨(some 25), none, (.bin .lss .num (.t 24) (.t 23))⟩])
 (.seq
 (.cond (.t 25) .skip (.exit 0))
 (.seq
 (.block 1
 (.seq
 (.reg [⟨(some 26), none, (.mv (.t 24))⟩,
   ⟨(some 7), none, (.mv (.t 26))⟩])
 (.reg [⟨(some 27), none, (.mv (.t 0))⟩,
   ⟨(some 28), none, (.mv (.t 6))⟩,
   ⟨(some 29), none, (.mv (.t 7))⟩,
   ⟨(some 30), none, (.bin .sub .num (.t 28) (.t 29))⟩,
   ⟨(some 31), none, (.bin .rem .num (.t 30) (.c (.int .i64 5)))⟩,
   ⟨(some 32), none, (.nilCheck (.t 27))⟩,
   ⟨(some 33), none, (.fieldAddr 0 5 (.t 32))⟩,
   ⟨(some 34), none, (.ixArr 5 1 (.t 33) (.t 31))⟩,
   ⟨none, none, (.store 1 (.t 34) (.c (.int .i64 0)))⟩])))
 (.reg [⟨(some 35), none, (.bin .add .num (.t 24) (.c (.int .i64 1)))⟩,
   ⟨(some 24), none, (.mv (.t 35))⟩]))))
/-- (*limelight/meter.Meter).Add -/
def af9 : AFunc := ⟨64, [],
 (.seq
 (.seq
 (.reg [⟨(some 8), none, (.mv (.t 1))⟩,
   ⟨(some 9), none, (.bin .lss .num (.t 8) (.c (.int .i64 0)))⟩])
 (.cond (.t 9) .ret .skip))
 (.seq
 (.dreg [⟨(some 10), none, (.mv (.t 0))⟩,
   ⟨(some 11), none, (.nilCheck (.t 10))⟩,
   ⟨(some 12), none, (.fieldAddr 5 1 (.t 11))⟩,
   ⟨(some 13), none, (.load1 (.t 12))⟩,
   ⟨(some 14), none, (.mv (.t 2))⟩,
   ⟨(some 15), none, (.call 15 [(.t 14)])⟩,
   ⟨(some 16), none, (.mx [(.t 13), (.t 15)])⟩,
   ⟨(some 6), none, (.mv (.t 16))⟩] [(3, 6)])
 (.seq
 (.seq
 (.reg [⟨(some 17), none, (.mv (.t 6))⟩,
   ⟨(some 18), none, (.mv (.t 0))⟩,
   ⟨(some 19), none, (.nilCheck (.t 18))⟩,
   ⟨(some 20), none, (.fieldAddr 5 1 (.t 19))⟩,
   ⟨(some 21), none, (.load1 (.t 20))⟩,
   ⟨(some 22), none, (.bin .sub .num (.t 17) (.t 21))⟩,
   ⟨(some 23), none, (.mn [(.t 22), (.c (.int .i64 5))])⟩,
   ⟨(some 24), none, (.mv (.c (.int .i64 0)))⟩])
 (.block 0
 (.loop af9_l0)))
 (.seq
 (.reg [⟨(some 36), none, (.mv (.t 0))⟩,
   ⟨(some 37), none, (.mv (.t 6))⟩,
   ⟨(some 38), none, (.nilCheck (.t 36))⟩,
   ⟨(some 39), none, (.fieldAddr 5 1 (.t 38))⟩,
   ⟨none, none, (.store 1 (.t 39) (.t 37))⟩])
 (.seq
 (.dreg [⟨(some 40), none, (.mv (.t 0))⟩,
   ⟨(some 41), none, (.mv (.t 6))⟩,
   ⟨(some 42), none, (.bin .rem .num (.t 41) (.c (.int .i64 5)))⟩,
   ⟨(some 43), none, (.mv (.t 0))⟩,
   ⟨(some 44), none, (.mv (.t 6))⟩,
   ⟨(some 45), none, (.bin .rem .num (.t 44) (.c (.int .i64 5)))⟩,
   ⟨(some 46), none, (.nilCheck (.t 43))⟩,
   ⟨(some 47), none, (.fieldAddr 0 5 (.t 46))⟩,
   ⟨(some 48), none, (.ixArr 5 1 (.t 47) (.t 45))⟩,
   ⟨(some 49), none, (.load1 (.t 48))⟩,
   ⟨(some 50), none, (.mv (.t 1))⟩,
   ⟨(some 51), none, (.call 16 [(.t 49), (.t 50)])⟩,
   ⟨(some 52), none, (.nilCheck (.t 40))⟩,
   ⟨(some 53), none, (.fieldAddr 0 5 (.t 52))⟩,
   ⟨(some 54), none, (.ixArr 5 1 (.t 53) (.t 42))⟩,
   ⟨none, none, (.store 1 (.t 54) (.t 51))⟩] [])
 (.reg [⟨(some 55), none, (.mv (.t 0))⟩,
   ⟨(some 56), none, (.mv (.t 0))⟩,
   ⟨(some 57), none, (.nilCheck (.t 56))⟩,
   ⟨(some 58), none, (.fieldAddr 6 1 (.t 57))⟩,
   ⟨(some 59), none, (.load1 (.t 58))⟩,
   ⟨(some 60), none, (.mv (.t 1))⟩,
   ⟨(some 61), none, (.call 16 [(.t 59), (.t 60)])⟩,
   ⟨(some 62), none, (.nilCheck (.t 55))⟩,
   ⟨(some 63), none, (.fieldAddr 6 1 (.t 62))⟩,
   ⟨none, none, (.store 1 (.t 63) (.t 61))⟩]))))))⟩
theorem caf9 : cFunc Try.prog Try.f9 = some af9 := by kernel_rfl
def af10_l0 : AC :=
 (.seq
 (.seq
 (.reg [⟨(some 18), none, (.mv (.t 7))⟩,
   ⟨(some 19), none, (.mv (.t 0))⟩,
   ⟨(some 20), none, (.nilCheck (.t 19))⟩,
   ⟨(some 21), none, (.fieldAddr 5 1 (.t 20))⟩,
   ⟨(some 22), none, (.load1 (.t 21))⟩,
   ⟨(some 23), none, (.bin .leq .num (.t 18) (.t 22))⟩])
 (.cond (.t 23) .skip (.exit 0)))
 (.seq
 (.block 1
 (.seq
 (.reg [⟨(some 26), none, (.mv (.t 7))⟩,
   ⟨(some 27), none, (.bin .geq .num (.t 26) (.c (.int .i64 0)))⟩,
   ⟨(some 28), none, (.mv (.t 27))⟩,
   ⟨(some 29), (some (28, true)), (.mv (.t 7))⟩,
   ⟨(some 30), (some (28, true)), (.mv (.t 0))⟩,
   ⟨(some 31), (some (28, true)), (.nilCheck (.t 30))⟩,
   ⟨(some 32), (some (28, true)), (.fieldAddr 5 1 (.t 31))⟩,
   ⟨(some 33), (some (28, true)), (.load1 (.t 32))⟩,
   ⟨(some 34), (some (28, true)), (.bin .sub .num (.t 33) (.c (.int .i64 5)))⟩,
   ⟨(some 35), (some (28, true)), (.bin .gtr .num (.t 29) (.t 34))⟩,
   ⟨(some 36), none, (.pick (.t 28) (.t 35) (.c (.bool false)))⟩])
 (.cond (.t 36)
 (.reg [⟨(some 37), none, (.mv (.t 6))⟩,
   ⟨(some 38), none, (.mv (.t 0))⟩,
   ⟨(some 39), none, (.mv (.t 7))⟩,
   ⟨(some 40), none, (.bin .rem .num (.t 39) (.c (.int .i64 5)))⟩,
   ⟨(some 41), none, (.nilCheck (.t 38))⟩,
   ⟨(some 42), none, (.fieldAddr 0 5 (.t 41))⟩,
   ⟨(some 43), none, (.ixArr 5 1 (.t 42) (.t 40))⟩,
   ⟨(some 44), none, (.load1 (.t 43))⟩,
   ⟨(some 45), none, (.call 16 [(.t 37), (.t 44)])⟩,
   ⟨(some 6), none, (.mv (.t 45))⟩]) .skip)))
 (.reg [⟨(some 24), none, (.mv (.t 7))⟩,
   ⟨(some 25), none, (.bin .add .num (.t 24) (.c (.int .i64 1)))⟩,
   ⟨(some 7), none, (.mv (.t 25))⟩])))
/-- (*limelight/meter.Meter).Rate -/
def af10 : AFunc := ⟨49, [(.tmp 4)],
 (.seq
 (.reg [⟨(some 4), none, (.mv (.c (.int .i64 0)))⟩])
 (.seq
 (.dreg [⟨(some 8), none, (.mv (.t 0))⟩,
   ⟨(some 9), none, (.nilCheck (.t 8))⟩,
   ⟨(some 10), none, (.fieldAddr 5 1 (.t 9))⟩,
   ⟨(some 11), none, (.load1 (.t 10))⟩,
   ⟨(some 12), none, (.mv (.t 1))⟩,
   ⟨(some 13), none, (.call 15 [(.t 12)])⟩,
   ⟨(some 14), none, (.mx [(.t 11), (.t 13)])⟩,
   ⟨(some 5), none, (.mv (.t 14))⟩] [(3, 6)])
 (.seq
 (.reg [⟨(some 6), none, (.mv (.c (.int .i64 0)))⟩])
 (.seq
 (.seq
 (.reg [⟨(some 15), none, (.mv (.t 5))⟩,
   ⟨(some 16), none, (.bin .sub .num (.t 15) (.c (.int .i64 5)))⟩,
   ⟨(some 17), none, (.bin .add .num (.t 16) (.c (.int .i64 1)))⟩,
   ⟨(some 7), none, (.mv (.t 17))⟩])
 (.block 0
 (.loop af10_l0)))
 (.seq
 (.reg [⟨(some 46), none, (.mv (.t 6))⟩,
   ⟨(some 47), none, (.call 18 [(.t 46), (.c (.int .i64 1000000))])⟩,
   ⟨(some 48), none, (.call 17 [(.t 47), (.c (.int .i64 500000))])⟩,
   ⟨(some 4), none, (.mv (.t 48))⟩]) .ret)))))⟩
theorem caf10 : cFunc Try.prog Try.f10 = some af10 := by kernel_rfl
/-- limelight/limelightref9.Over -/
def af11 : AFunc := ⟨22, [(.tmp 4)],
 (.seq
 (.reg [⟨(some 4), none, (.mv (.c (.int .i64 0)))⟩])
 (.seq
 (.reg [⟨(some 6), none, (.mv (.t 0))⟩,
   ⟨(some 7), none, (.mx [(.t 6), (.c (.int .i64 0))])⟩,
   ⟨(some 8), none, (.mv (.t 1))⟩,
   ⟨(some 9), none, (.mx [(.t 8), (.c (.int .i64 0))])⟩,
   ⟨(some 0), none, (.mv (.t 7))⟩,
   ⟨(some 1), none, (.mv (.t 9))⟩])
 (.seq
 (.seq
 (.reg [⟨(some 10), none, (.mv (.t 1))⟩,
   ⟨(some 11), none, (.bin .eql .num (.t 10) (.c (.int .i64 0)))⟩])
 (.cond (.t 11)
 (.seq
 (.reg [⟨(some 4), none, (.mv (.c (.int .i64 0)))⟩]) .ret) .skip))
 (.seq
 (.reg [⟨(some 12), none, (.mv (.t 0))⟩,
   ⟨(some 13), none, (.mv (.t 1))⟩,
   ⟨(some 14), none, (.bin .quo .num (.t 12) (.t 13))⟩,
   ⟨(some 5), none, (.mv (.t 14))⟩])
 (.seq
 (.seq
 (.reg [⟨(some 15), none, (.mv (.t 0))⟩,
   ⟨(some 16), none, (.mv (.t 1))⟩,
   ⟨(some 17), none, (.bin .rem .num (.t 15) (.t 16))⟩,
   ⟨(some 18), none, (.bin .gtr .num (.t 17) (.c (.int .i64 0)))⟩])
 (.cond (.t 18)
 (.reg [⟨(some 19), none, (.mv (.t 5))⟩,
   ⟨(some 20), none, (.bin .add .num (.t 19) (.c (.int .i64 1)))⟩,
   ⟨(some 5), none, (.mv (.t 20))⟩]) .skip))
 (.seq
 (.reg [⟨(some 21), none, (.mv (.t 5))⟩,
   ⟨(some 4), none, (.mv (.t 21))⟩]) .ret))))))⟩
theorem caf11 : cFunc Try.prog Try.f11 = some af11 := by kernel_rfl
/-- (*limelight/meter.Meter).Total -/
def af12 : AFunc := ⟨7, [(.tmp 2)],
 (.seq
 (.reg [⟨(some 2), none, (.mv (.c (.int .i64 0)))⟩])
 (.seq
 (.reg [⟨(some 3), none, (.mv (.t 0))⟩,
   ⟨(some 4), none, (.nilCheck (.t 3))⟩,
   ⟨(some 5), none, (.fieldAddr 6 1 (.t 4))⟩,
   ⟨(some 6), none, (.load1 (.t 5))⟩,
   ⟨(some 2), none, (.mv (.t 6))⟩]) .ret))⟩
theorem caf12 : cFunc Try.prog Try.f12 = some af12 := by kernel_rfl
/-- (*limelight/limelightref9.Meter).Add -/
def af13 : AFunc := ⟨43, [],
 (.seq
 (.seq
 (.reg [⟨(some 6), none, (.mv (.t 1))⟩,
   ⟨(some 7), none, (.bin .lss .num (.t 6) (.c (.int .i64 0)))⟩])
 (.cond (.t 7) .ret .skip))
 (.seq
 (.reg [⟨(some 8), none, (.mv (.t 0))⟩,
   ⟨(some 9), none, (.mv (.t 2))⟩,
   ⟨(some 10), none, (.mx [(.t 9), (.c (.int .i64 0))])⟩,
   ⟨(some 11), none, (.bin .quo .num (.t 10) (.c (.int .i64 100000)))⟩,
   ⟨(some 12), none, (.call 19 [(.t 8), (.t 11)])⟩])
 (.seq
 (.dreg [⟨(some 13), none, (.mv (.t 0))⟩,
   ⟨(some 14), none, (.mv (.t 0))⟩,
   ⟨(some 15), none, (.nilCheck (.t 14))⟩,
   ⟨(some 16), none, (.fieldAddr 0 1 (.t 15))⟩,
   ⟨(some 17), none, (.load1 (.t 16))⟩,
   ⟨(some 18), none, (.bin .rem .num (.t 17) (.c (.int .i64 5)))⟩,
   ⟨(some 19), none, (.mv (.t 0))⟩,
   ⟨(some 20), none, (.mv (.t 0))⟩,
   ⟨(some 21), none, (.nilCheck (.t 20))⟩,
   ⟨(some 22), none, (.fieldAddr 0 1 (.t 21))⟩,
   ⟨(some 23), none, (.load1 (.t 22))⟩,
   ⟨(some 24), none, (.bin .rem .num (.t 23) (.c (.int .i64 5)))⟩,
   ⟨(some 25), none, (.nilCheck (.t 19))⟩,
   ⟨(some 26), none, (.fieldAddr 1 5 (.t 25))⟩,
   ⟨(some 27), none, (.ixArr 5 1 (.t 26) (.t 24))⟩,
   ⟨(some 28), none, (.load1 (.t 27))⟩,
   ⟨(some 29), none, (.mv (.t 1))⟩,
   ⟨(some 30), none, (.call 20 [(.t 28), (.t 29)])⟩,
   ⟨(some 31), none, (.nilCheck (.t 13))⟩,
   ⟨(some 32), none, (.fieldAddr 1 5 (.t 31))⟩,
   ⟨(some 33), none, (.ixArr 5 1 (.t 32) (.t 18))⟩,
   ⟨none, none, (.store 1 (.t 33) (.t 30))⟩] [(4, 18)])
 (.reg [⟨(some 34), none, (.mv (.t 0))⟩,
   ⟨(some 35), none, (.mv (.t 0))⟩,
   ⟨(some 36), none, (.nilCheck (.t 35))⟩,
   ⟨(some 37), none, (.fieldAddr 6 1 (.t 36))⟩,
   ⟨(some 38), none, (.load1 (.t 37))⟩,
   ⟨(some 39), none, (.mv (.t 1))⟩,
   ⟨(some 40), none, (.call 20 [(.t 38), (.t 39)])⟩,
   ⟨(some 41), none, (.nilCheck (.t 34))⟩,
   ⟨(some 42), none, (.fieldAddr 6 1 (.t 41))⟩,
   ⟨none, none, (.store 1 (.t 42) (.t 40))⟩]))))⟩
theorem caf13 : cFunc Try.prog Try.f13 = some af13 := by kernel_rfl
def af14_l0 : AC :=
 (.seq
 (.reg [⟨(some 19), none, (.bin .lss .num (.t 18) (.c (.int .i64 5)))⟩])
 (.seq
 (.cond (.t 19) .skip (.exit 0))
 (.seq
 (.block 1
 (.seq
 (.reg [⟨(some 20), none, (.ixAgg1 5 (.t 17) (.t 18))⟩,
   ⟨(some 8), none, (.mv (.t 20))⟩])
 (.reg [⟨(some 21), none, (.mv (.t 6))⟩,
   ⟨(some 22), none, (.mv (.t 8))⟩,
   ⟨(some 23), none, (.call 20 [(.t 21), (.t 22)])⟩,
   ⟨(some 6), none, (.mv (.t 23))⟩])))
 (.reg [⟨(some 24), none, (.bin .add .num (.t 18) (.c (.int .i64 1)))⟩,
   ⟨(some 18), none, (.mv (.t 24))⟩]))))
/-- (*limelight/limelightref9.Meter).Rate -/
def af14 : AFunc := ⟨28, [(.tmp 4)],
 (.seq
 (.reg [⟨(some 4), none, (.mv (.c (.int .i64 0)))⟩])
 (.seq
 (.reg [⟨(some 9), none, (.mv (.t 0))⟩,
   ⟨(some 10), none, (.nilCheck (.t 9))⟩,
   ⟨(some 11), none, (.loadN 7 (.t 10))⟩,
   ⟨(some 5), none, (.alloc [(.int .i64 0), (.int .i64 0), (.int .i64 0), (.int .i64 0), (.int .i64 0), (.int .i64 0), (.int .i64 0)])⟩,
   ⟨none, none, (.store 7 (.t 5) (.t 11))⟩])
 (.seq
 (.reg [⟨(some 12), none, (.mv (.t 1))⟩,
   ⟨(some 13), none, (.mx [(.t 12), (.c (.int .i64 0))])⟩,
   ⟨(some 14), none, (.bin .quo .num (.t 13) (.c (.int .i64 100000)))⟩,
   ⟨(some 15), none, (.call 19 [(.t 5), (.t 14)])⟩])
 (.seq
 (.reg [⟨(some 6), none, (.mv (.c (.int .i64 0)))⟩])
 (.seq
 (.seq
 (.reg [⟨(some 16), none, (.fieldAddr 1 5 (.t 5))⟩,
   ⟨(some 17), none, (.loadN 5 (.t 16))⟩,
   ⟨(some 18), none, (.mv (.c (.int .i64 0)))⟩])
 (.block 0
 (.loop af14_l0)))
 (.seq
 (.reg [⟨(some 25), none, (.mv (.t 6))⟩,
   ⟨(some 26), none, (.call 21 [(.t 25), (.c (.int .i64 1000000))])⟩,
   ⟨(some 27), none, (.call 11 [(.t 26), (.c (.int .i64 500000))])⟩,
   ⟨(some 4), none, (.mv (.t 27))⟩]) .ret))))))⟩
theorem caf14 : cFunc Try.prog Try.f14 = some af14 := by kernel_rfl
/-- limelight/meter.slot -/
def af15 : AFunc := ⟨6, [(.tmp 2)],
 (.seq
 (.reg [⟨(some 2), none, (.mv (.c (.int .i64 0)))⟩])
 (.seq
 (.reg [⟨(some 3), none, (.mv (.t 0))⟩,
   ⟨(some 4), none, (.mx [(.c (.int .i64 0)), (.t 3)])⟩,
   ⟨(some 5), none, (.bin .quo .num (.t 4) (.c (.int .i64 100000)))⟩,
   ⟨(some 2), none, (.mv (.t 5))⟩]) .ret))⟩
theorem caf15 : cFunc Try.prog Try.f15 = some af15 := by kernel_rfl
/-- limelight/clock.Add -/
def af16 : AFunc := ⟨12, [(.tmp 4)],
 (.seq
 (.reg [⟨(some 4), none, (.mv (.c (.int .i64 0)))⟩])
 (.seq
 (.reg [⟨(some 5), none, (.mv (.t 0))⟩,
   ⟨(some 6), none, (.call 22 [(.t 5)])⟩,
   ⟨(some 7), none, (.mv (.t 1))⟩,
   ⟨(some 8), none, (.call 22 [(.t 7)])⟩,
   ⟨(some 9), none, (.bin .add .num (.t 6) (.t 8))⟩,
   ⟨(some 10), none, (.mn [(.t 9), (.c (.int .u64 9223372036854775807))])⟩,
   ⟨(some 11), none, (.conv (.int .i64) (.t 10))⟩,
   ⟨(some 4), none, (.mv (.t 11))⟩]) .ret))⟩
theorem caf16 : cFunc Try.prog Try.f16 = some af16 := by kernel_rfl
/-- limelight/clock.Over -/
def af17 : AFunc := ⟨25, [(.tmp 4)],
 (.seq
 (.reg [⟨(some 4), none, (.mv (.c (.int .i64 0)))⟩])
 (.seq
 (.reg [⟨(some 8), none, (.mv (.t 0))⟩,
   ⟨(some 9), none, (.call 22 [(.t 8)])⟩,
   ⟨(some 10), none, (.mv (.t 1))⟩,
   ⟨(some 11), none, (.call 22 [(.t 10)])⟩,
   ⟨(some 5), none, (.mv (.t 9))⟩,
   ⟨(some 6), none, (.mv (.t 11))⟩])
 (.seq
 (.seq
 (.reg [⟨(some 12), none, (.mv (.t 6))⟩,
   ⟨(some 13), none, (.bin .eql .num (.t 12) (.c (.int .u64 0)))⟩])
 (.cond (.t 13)
 (.seq
 (.reg [⟨(some 4), none, (.mv (.c (.int .i64 0)))⟩]) .ret) .skip))
 (.seq
 (.reg [⟨(some 14), none, (.mv (.t 5))⟩,
   ⟨(some 15), none, (.mv (.t 6))⟩,
   ⟨(some 16), none, (.bin .quo .num (.t 14) (.t 15))⟩,
   ⟨(some 7), none, (.mv (.t 16))⟩])
 (.seq
 (.seq
 (.reg [⟨(some 17), none, (.mv (.t 5))⟩,
   ⟨(some 18), none, (.mv (.t 6))⟩,
   ⟨(some 19), none, (.bin .rem .num (.t 17) (.t 18))⟩,
   ⟨(some 20), none, (.bin .gtr .num (.t 19) (.c (.int .u64 0)))⟩])
 (.cond (.t 20)
 (.reg [⟨(some 21), none, (.mv (.t 7))⟩,
   ⟨(some 22), none, (.bin .add .num (.t 21) (.c (.int .u64 1)))⟩,
   ⟨(some 7), none, (.mv (.t 22))⟩]) .skip))
 (.seq
 (.reg [⟨(some 23), none, (.mv (.t 7))⟩,
   ⟨(some 24), none, (.conv (.int .i64) (.t 23))⟩,
   ⟨(some 4), none, (.mv (.t 24))⟩]) .ret))))))⟩
theorem caf17 : cFunc Try.prog Try.f17 = some af17 := by kernel_rfl
/-- limelight/clock.Mul -/
def af18 : AFunc := ⟨20, [(.tmp 4)],
 (.seq
 (.reg [⟨(some 4), none, (.mv (.c (.int .i64 0)))⟩])
 (.seq
 (.reg [⟨(some 8), none, (.mv (.t 0))⟩,
   ⟨(some 9), none, (.call 22 [(.t 8)])⟩,
   ⟨(some 10), none, (.mv (.t 1))⟩,
   ⟨(some 11), none, (.call 22 [(.t 10)])⟩,
   ⟨(some 12), none, (.call 23 [(.t 9), (.t 11)])⟩,
   ⟨(some 7), none, (.mv (.t 12))⟩,
   ⟨(some 13), none, (.extract 0 (.t 7))⟩,
   ⟨(some 14), none, (.extract 1 (.t 7))⟩,
   ⟨(some 5), none, (.mv (.t 13))⟩,
   ⟨(some 6), none, (.mv (.t 14))⟩])
 (.seq
 (.seq
 (.reg [⟨(some 15), none, (.mv (.t 5))⟩,
   ⟨(some 16), none, (.bin .gtr .num (.t 15) (.c (.int .u64 0)))⟩])
 (.cond (.t 16)
 (.seq
 (.reg [⟨(some 4), none, (.mv (.c (.int .i64 9223372036854775807)))⟩]) .ret) .skip))
 (.seq
 (.reg [⟨(some 17), none, (.mv (.t 6))⟩,
   ⟨(some 18), none, (.mn [(.t 17), (.c (.int .u64 9223372036854775807))])⟩,
   ⟨(some 19), none, (.conv (.int .i64) (.t 18))⟩,
   ⟨(some 4), none, (.mv (.t 19))⟩]) .ret))))⟩
theorem caf18 : cFunc Try.prog Try.f18 = some af18 := by kernel_rfl
def af19_l0 : AC :=
 (.seq
 (.seq
 (.reg [⟨(some 12), none, (.mv (.t 4))⟩,
   ⟨(some 13), none, (.mv (.t 1))⟩,
   ⟨(some 14), none, (.bin .lss .num (.t 12) (.t 13))⟩])
 (.cond (.t 14) .skip (.exit 0)))
 (.seq
 (.block 1
 (.reg [⟨(some 17), none, (.mv (.t 0))⟩,
   ⟨(some 18), none, (.mv (.t 4))⟩,
   ⟨(some 19), none, (.bin .add .num (.t 18) (.c (.int .i64 1)))⟩,
   ⟨(some 20), none, (.bin .rem .num (.t 19) (.c (.int .i64 5)))⟩,
   ⟨(some 21), none, (.nilCheck (.t 17))⟩,
   ⟨(some 22), none, (.fieldAddr 1 5 (.t 21))⟩,
   ⟨(some 23), none, (.ixArr 5 1 (.t 22) (.t 20))⟩,
   ⟨none, none, (.store 1 (.t 23) (.c (.int .i64 0)))⟩]))
 (.reg [⟨(some 15), none, (.mv (.t 4))⟩,
   ⟨(some 16), none, (.bin .add .num (.t 15) (.c (.int .i64 1)))⟩,
   ⟨(some 4), none, (.mv (.t 16))⟩])))
/-- (*limelight/limelightref9.Meter).to -/
def af19 : AFunc := ⟨33, [],
 (.seq
 (.seq
 (.reg [⟨(some 5), none, (.mv (.t 0))⟩,
   ⟨(some 6), none, (.nilCheck (.t 5))⟩,
   ⟨(some 7), none, (.fieldAddr 0 1 (.t 6))⟩,
   ⟨(some 8), none, (.load1 (.t 7))⟩,
   ⟨(some 9), none, (.mv (.t 1))⟩,
   ⟨(some 10), none, (.bin .sub .num (.t 9) (.c (.int .i64 5)))⟩,
   ⟨(some 11), none, (.mx [(.t 8), (.t 10)])⟩,
   ⟨(some 4), none, (.mv (.t 11))⟩])
 (.block 0
 (.loop af19_l0)))
 (.reg [⟨(some 24), none, (.mv (.t 0))⟩,
   ⟨(some 25), none, (.mv (.t 0))⟩,
   ⟨(some 26), none, (.nilCheck (.t 25))⟩,
   ⟨(some 27), none, (.fieldAddr 0 1 (.t 26))⟩,
   ⟨(some 28), none, (.load1 (.t 27))⟩,
   ⟨(some 29), none, (.mv (.t 1))⟩,
   ⟨(some 30), none, (.mx [(.t 28), (.t 29)])⟩,
   ⟨(some 31), none, (.nilCheck (.t 24))⟩,
   ⟨(some 32), none, (.fieldAddr 0 1 (.t 31))⟩,
   ⟨none, none, (.store 1 (.t 32) (.t 30))⟩]))⟩
theorem caf19 : cFunc Try.prog Try.f19 = some af19 := by kernel_rfl
/-- limelight/limelightref9.Add -/
def af20 : AFunc := ⟨16, [(.tmp 4)],
 (.seq
 (.reg [⟨(some 4), none, (.mv (.c (.int .i64 0)))⟩])
 (.seq
 (.reg [⟨(some 5), none, (.mv (.t 0))⟩,
   ⟨(some 6), none, (.mx [(.t 5), (.c (.int .i64 0))])⟩,
   ⟨(some 7), none, (.mv (.t 1))⟩,
   ⟨(some 8), none, (.mx [(.t 7), (.c (.int .i64 0))])⟩,
   ⟨(some 0), none, (.mv (.t 6))⟩,
   ⟨(some 1), none, (.mv (.t 8))⟩])
 (.seq
 (.seq
 (.reg [⟨(some 9), none, (.mv (.t 0))⟩,
   ⟨(some 10), none, (.mv (.t 1))⟩,
   ⟨(some 11), none, (.bin .sub .num (.c (.int .i64 9223372036854775807)) (.t 10))⟩,
   ⟨(some 12), none, (.bin .gtr .num (.t 9) (.t 11))⟩])
 (.cond (.t 12)
 (.seq
 (.reg [⟨(some 4), none, (.mv (.c (.int .i64 9223372036854775807)))⟩]) .ret) .skip))
 (.seq
 (.reg [⟨(some 13), none, (.mv (.t 0))⟩,
   ⟨(some 14), none, (.mv (.t 1))⟩,
   ⟨(some 15), none, (.bin .add .num (.t 13) (.t 14))⟩,
   ⟨(some 4), none, (.mv (.t 15))⟩]) .ret))))⟩
theorem caf20 : cFunc Try.prog Try.f20 = some af20 := by kernel_rfl
/-- limelight/limelightref9.Mul -/
def af21 : AFunc := ⟨20, [(.tmp 4)],
 (.seq
 (.reg [⟨(some 4), none, (.mv (.c (.int .i64 0)))⟩])
 (.seq
 (.reg [⟨(some 5), none, (.mv (.t 0))⟩,
   ⟨(some 6), none, (.mx [(.t 5), (.c (.int .i64 0))])⟩,
   ⟨(some 7), none, (.mv (.t 1))⟩,
   ⟨(some 8), none, (.mx [(.t 7), (.c (.int .i64 0))])⟩,
   ⟨(some 0), none, (.mv (.t 6))⟩,
   ⟨(some 1), none, (.mv (.t 8))⟩])
 (.seq
 (.seq
 (.reg [⟨(some 9), none, (.mv (.t 0))⟩,
   ⟨(some 10), none, (.bin .gtr .num (.t 9) (.c (.int .i64 0)))⟩,
   ⟨(some 11), none, (.mv (.t 10))⟩,
   ⟨(some 12), (some (11, true)), (.mv (.t 1))⟩,
   ⟨(some 13), (some (11, true)), (.mv (.t 0))⟩,
   ⟨(some 14), (some (11, true)), (.bin .quo .num (.c (.int .i64 9223372036854775807)) (.t 13))⟩,
   ⟨(some 15), (some (11, true)), (.bin .gtr .num (.t 12) (.t 14))⟩,
   ⟨(some 16), none, (.pick (.t 11) (.t 15) (.c (.bool false)))⟩])
 (.cond (.t 16)
 (.seq
 (.reg [⟨(some 4), none, (.mv (.c (.int .i64 9223372036854775807)))⟩]) .ret) .skip))
 (.seq
 (.reg [⟨(some 17), none, (.mv (.t 0))⟩,
   ⟨(some 18), none, (.mv (.t 1))⟩,
   ⟨(some 19), none, (.bin .mul .num (.t 17) (.t 18))⟩,
   ⟨(some 4), none, (.mv (.t 19))⟩]) .ret))))⟩
theorem caf21 : cFunc Try.prog Try.f21 = some af21 := by kernel_rfl
/-- limelight/clock.up -/
def af22 : AFunc := ⟨6, [(.tmp 2)],
 (.seq
 (.reg [⟨(some 2), none, (.mv (.c (.int .u64 0)))⟩])
 (.seq
 (.reg [⟨(some 3), none, (.mv (.t 0))⟩,
   ⟨(some 4), none, (.mx [(.c (.int .i64 0)), (.t 3)])⟩,
   ⟨(some 5), none, (.conv (.int .u64) (.t 4))⟩,
   ⟨(some 2), none, (.mv (.t 5))⟩]) .ret))⟩
theorem caf22 : cFunc Try.prog Try.f22 = some af22 := by kernel_rfl
/-- math/bits.Mul64 -/
def af23 : AFunc := ⟨51, [(.tmp 4), (.tmp 5)],
 (.seq
 (.reg [⟨(some 4), none, (.mv (.c (.int .u64 0)))⟩,
   ⟨(some 5), none, (.mv (.c (.int .u64 0)))⟩])
 (.seq
 (.reg [⟨(some 14), none, (.mv (.t 0))⟩,
   ⟨(some 15), none, (.bin .and .num (.t 14) (.c (.int .u64 4294967295)))⟩,
   ⟨(some 6), none, (.mv (.t 15))⟩])
 (.seq
 (.reg [⟨(some 16), none, (.mv (.t 0))⟩,
   ⟨(some 17), none, (.bin .shr .num (.t 16) (.c (.int .u64 32)))⟩,
   ⟨(some 7), none, (.mv (.t 17))⟩])
 (.seq
 (.reg [⟨(some 18), none, (.mv (.t 1))⟩,
   ⟨(some 19), none, (.bin .and .num (.t 18) (.c (.int .u64 4294967295)))⟩,
   ⟨(some 8), none, (.mv (.t 19))⟩])
 (.seq
 (.reg [⟨(some 20), none, (.mv (.t 1))⟩,
   ⟨(some 21), none, (.bin .shr .num (.t 20) (.c (.int .u64 32)))⟩,
   ⟨(some 9), none, (.mv (.t 21))⟩])
 (.seq
 (.reg [⟨(some 22), none, (.mv (.t 6))⟩,
   ⟨(some 23), none, (.mv (.t 8))⟩,
   ⟨(some 24), none, (.bin .mul .num (.t 22) (.t 23))⟩,
   ⟨(some 10), none, (.mv (.t 24))⟩])
 (.seq
 (.reg [⟨(some 25), none, (.mv (.t 7))⟩,
   ⟨(some 26), none, (.mv (.t 8))⟩,
   ⟨(some 27), none, (.bin .mul .num (.t 25) (.t 26))⟩,
   ⟨(some 28), none, (.mv (.t 10))⟩,
   ⟨(some 29), none, (.bin .shr .num (.t 28) (.c (.int .u64 32)))⟩,
   ⟨(some 30), none, (.bin .add .num (.t 27) (.t 29))⟩,
   ⟨(some 11), none, (.mv (.t 30))⟩])
 (.seq
 (.reg [⟨(some 31), none, (.mv (.t 11))⟩,
   ⟨(some 32), none, (.bin .and .num (.t 31) (.c (.int .u64 4294967295)))⟩,
   ⟨(some 12), none, (.mv (.t 32))⟩])
 (.seq
 (.reg [⟨(some 33), none, (.mv (.t 11))⟩,
   ⟨(some 34), none, (.bin .shr .num (.t 33) (.c (.int .u64 32)))⟩,
   ⟨(some 13), none, (.mv (.t 34))⟩])
 (.seq
 (.reg [⟨(some 35), none, (.mv (.t 12))⟩,
   ⟨(some 36), none, (.mv (.t 6))⟩,
   ⟨(some 37), none, (.mv (.t 9))⟩,
   ⟨(some 38), none, (.bin .mul .num (.t 36) (.t 37))⟩,
   ⟨(some 39), none, (.bin .add .num (.t 35) (.t 38))⟩,
   ⟨(some 12), none, (.mv (.t 39))⟩])
 (.seq
 (.reg [⟨(some 40), none, (.mv (.t 7))⟩,
   ⟨(some 41), none, (.mv (.t 9))⟩,
   ⟨(some 42), none, (.bin .mul .num (.t 40) (.t 41))⟩,
   ⟨(some 43), none, (.mv (.t 13))⟩,
   ⟨(some 44), none, (.bin .add .num (.t 42) (.t 43))⟩,
   ⟨(some 45), none, (.mv (.t 12))⟩,
   ⟨(some 46), none, (.bin .shr .num (.t 45) (.c (.int .u64 32)))⟩,
   ⟨(some 47), none, (.bin .add .num (.t 44) (.t 46))⟩,
   ⟨(some 4), none, (.mv (.t 47))⟩])
 (.seq
 (.reg [⟨(some 48), none, (.mv (.t 0))⟩,
   ⟨(some 49), none, (.mv (.t 1))⟩,
   ⟨(some 50), none, (.bin .mul .num (.t 48) (.t 49))⟩,
   ⟨(some 5), none, (.mv (.t 50))⟩]) .ret))))))))))))⟩
theorem caf23 : cFunc Try.prog Try.f23 = some af23 := by kernel_rfl
def AP : Nat → Option AFunc
  | 3 => some af3
  | 4 => some af4
  | 5 => some af5
  | 6 => some af6
  | 7 => some af7
  | 8 => some af8
  | 9 => some af9
  | 10 => some af10
  | 11 => some af11
  | 12 => some af12
  | 13 => some af13
  | 14 => some af14
  | 15 => some af15
  | 16 => some af16
  | 17 => some af17
  | 18 => some af18
  | 19 => some af19
  | 20 => some af20
  | 21 => some af21
  | 22 => some af22
  | 23 => some af23
  | _ => none
theorem apOk : APOk Try.prog AP := by
  intro f af h
  unfold AP at h
  split at h
  · cases h; exact ⟨_, Try.func3, caf3⟩
  · cases h; exact ⟨_, Try.func4, caf4⟩
  · cases h; exact ⟨_, Try.func5, caf5⟩
  · cases h; exact ⟨_, Try.func6, caf6⟩
  · cases h; exact ⟨_, Try.func7, caf7⟩
  · cases h; exact ⟨_, Try.func8, caf8⟩
  · cases h; exact ⟨_, Try.func9, caf9⟩
  · cases h; exact ⟨_, Try.func10, caf10⟩
  · cases h; exact ⟨_, Try.func11, caf11⟩
  · cases h; exact ⟨_, Try.func12, caf12⟩
  · cases h; exact ⟨_, Try.func13, caf13⟩
  · cases h; exact ⟨_, Try.func14, caf14⟩
  · cases h; exact ⟨_, Try.func15, caf15⟩
  · cases h; exact ⟨_, Try.func16, caf16⟩
  · cases h; exact ⟨_, Try.func17, caf17⟩
  · cases h; exact ⟨_, Try.func18, caf18⟩
  · cases h; exact ⟨_, Try.func19, caf19⟩
  · cases h; exact ⟨_, Try.func20, caf20⟩
  · cases h; exact ⟨_, Try.func21, caf21⟩
  · cases h; exact ⟨_, Try.func22, caf22⟩
  · cases h; exact ⟨_, Try.func23, caf23⟩
  · cases h
theorem mixed : Try.prog.follows .mixedOrders = true := by kernel_rfl
end Go.Proofs.YtinnclcheekhpaaA
