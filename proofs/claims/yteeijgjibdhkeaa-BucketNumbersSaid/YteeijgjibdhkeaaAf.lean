/- The loaded functions of this seat, their types resolved: printed by a program of this claim; each is held against the loaded one. -/
import Derived.Test.YteeijgjibdhkeaaAeZ
import Derived.Test.YteeijgjibdhkeaaProg
set_option maxRecDepth 100000
namespace Go.Proofs.YteeijgjibdhkeaaA
open Go.RowKit
def af3_l0 : AC :=
 (.seq
 (.seq
 (.reg [⟨(some 30), none, (.mv (.t 15))⟩,
   ⟨(some 31), none, (.mv (.t 2))⟩,
   ⟨(some 32), none, (.len (.t 31))⟩,
   ⟨(some 33), none, (.bin .lss .num (.t 30) (.t 32))⟩,
   ⟨(some 34), none, (.mv (.t 33))⟩,
   ⟨(some 35), (some (34, true)), (.mv (.t 15))⟩,
   ⟨(some 36), (some (34, true)), (.bin .lss .num (.t 35) (.c (.int .i64 100)))⟩,
   ⟨(some 37), none, (.pick (.t 34) (.t 36) (.c (.bool false)))⟩])
 (.cond (.t 37) .skip (.exit 0)))
 (.seq
 (.block 1
 (.seq
 (.reg [⟨(some 40), none, (.mv (.t 2))⟩,
   ⟨(some 41), none, (.mv (.t 15))⟩,
   ⟨(some 42), none, (.ixSlice 2 (.t 40) (.t 41))⟩,
   ⟨(some 43), none, (.fieldAddr 1 1 (.t 42))⟩,
   ⟨(some 44), none, (.load1 (.t 43))⟩,
   ⟨(some 45), none, (.bin .and .num (.t 44) (.c (.int .i64 262143)))⟩,
   ⟨(some 16), none, (.mv (.t 45))⟩])
 (.seq
 (.seq
 (.reg [⟨(some 46), none, (.mv (.t 2))⟩,
   ⟨(some 47), none, (.mv (.t 15))⟩,
   ⟨(some 48), none, (.ixSlice 2 (.t 46) (.t 47))⟩,
   ⟨(some 49), none, (.fieldAddr 0 1 (.t 48))⟩,
   ⟨(some 50), none, (.load1 (.t 49))⟩,
   ⟨(some 51), none, (.bin .and .num (.t 50) (.c (.int .i64 1)))⟩,
   ⟨(some 52), none, (.bin .eql .num (.t 51) (.c (.int .i64 0)))⟩])
 (.cond (.t 52)
 (.seq
 (.reg [⟨(some 53), none, (.mv (.t 11))⟩,
   ⟨(some 54), none, (.mv (.t 16))⟩,
   ⟨(some 55), none, (.call 10 [(.t 53), (.t 54)])⟩])
 (.seq
 (.seq
 (.reg [⟨(some 56), none, (.mv (.t 15))⟩,
   ⟨(some 57), none, (.mv (.t 14))⟩,
   ⟨(some 58), none, (.bin .geq .num (.t 56) (.t 57))⟩])
 (.cond (.t 58)
 (.reg [⟨(some 59), none, (.mv (.t 13))⟩,
   ⟨(some 60), none, (.mv (.t 16))⟩,
   ⟨(some 61), none, (.bin .add .num (.t 59) (.t 60))⟩,
   ⟨(some 13), none, (.mv (.t 61))⟩]) .skip)) (.exit 1))) .skip))
 (.seq
 (.seq
 (.reg [⟨(some 62), none, (.mv (.t 11))⟩,
   ⟨(some 63), none, (.mv (.t 16))⟩,
   ⟨(some 64), none, (.bin .and .num (.t 63) (.c (.int .i64 4095)))⟩,
   ⟨(some 65), none, (.call 11 [(.t 62), (.t 64)])⟩,
   ⟨(some 66), none, (.mv (.t 65))⟩,
   ⟨(some 67), (some (66, true)), (.mv (.t 15))⟩,
   ⟨(some 68), (some (66, true)), (.mv (.t 14))⟩,
   ⟨(some 69), (some (66, true)), (.bin .geq .num (.t 67) (.t 68))⟩,
   ⟨(some 70), none, (.pick (.t 66) (.t 69) (.c (.bool false)))⟩])
 (.cond (.t 70)
 (.reg [⟨(some 71), none, (.mv (.t 12))⟩,
   ⟨(some 72), none, (.mv (.t 16))⟩,
   ⟨(some 73), none, (.bin .and .num (.t 72) (.c (.int .i64 4095)))⟩,
   ⟨(some 74), none, (.bin .add .num (.t 71) (.t 73))⟩,
   ⟨(some 12), none, (.mv (.t 74))⟩]) .skip))
 (.seq
 (.reg [⟨(some 75), none, (.mv (.t 12))⟩,
   ⟨(some 76), none, (.mv (.t 10))⟩,
   ⟨(some 77), none, (.mv (.t 9))⟩,
   ⟨(some 78), none, (.mv (.t 13))⟩,
   ⟨(some 79), none, (.bin .mul .num (.t 77) (.t 78))⟩,
   ⟨(some 80), none, (.call 12 [(.t 79), (.c (.int .i64 1000000))])⟩,
   ⟨(some 81), none, (.bin .add .num (.t 76) (.t 80))⟩,
   ⟨(some 82), none, (.bin .gtr .num (.t 75) (.t 81))⟩])
 (.cond (.t 82)
 (.seq
 (.reg [⟨(some 8), none, (.mv (.c (.bool false)))⟩]) .ret) .skip))))))
 (.reg [⟨(some 38), none, (.mv (.t 15))⟩,
   ⟨(some 39), none, (.bin .add .num (.t 38) (.c (.int .i64 1)))⟩,
   ⟨(some 15), none, (.mv (.t 39))⟩])))
/-- limelight/limelightlaw10.BucketBound -/
def af3 : AFunc := ⟨104, [(.tmp 8)],
 (.seq
 (.reg [⟨(some 8), none, (.mv (.c (.bool false)))⟩])
 (.seq
 (.reg [⟨(some 19), none, (.mv (.t 0))⟩,
   ⟨(some 20), none, (.bin .and .num (.t 19) (.c (.int .i64 1048575)))⟩,
   ⟨(some 21), none, (.mv (.t 1))⟩,
   ⟨(some 22), none, (.bin .and .num (.t 21) (.c (.int .i64 16383)))⟩,
   ⟨(some 9), none, (.mv (.t 20))⟩,
   ⟨(some 10), none, (.mv (.t 22))⟩])
 (.seq
 (.reg [⟨(some 23), none, (.mv (.t 9))⟩,
   ⟨(some 24), none, (.mv (.t 10))⟩,
   ⟨(some 25), none, (.call 8 [(.t 23), (.t 24)])⟩,
   ⟨(some 11), none, (.mv (.t 25))⟩])
 (.seq
 (.seq
 (.reg [⟨(some 26), none, (.mv (.t 11))⟩,
   ⟨(some 27), none, (.bin .eql .ptr (.t 26) (.c (.ptr none)))⟩])
 (.cond (.t 27)
 (.seq
 (.reg [⟨(some 8), none, (.mv (.c (.bool false)))⟩]) .ret) .skip))
 (.seq
 (.reg [⟨(some 12), none, (.mv (.c (.int .i64 0)))⟩,
   ⟨(some 13), none, (.mv (.c (.int .i64 0)))⟩])
 (.seq
 (.reg [⟨(some 28), none, (.mv (.t 3))⟩,
   ⟨(some 29), none, (.call 9 [(.t 28), (.c (.int .i64 0)), (.c (.int .i64 40))])⟩,
   ⟨(some 14), none, (.mv (.t 29))⟩])
 (.seq
 (.seq
 (.reg [⟨(some 15), none, (.mv (.c (.int .i64 0)))⟩])
 (.block 0
 (.loop af3_l0)))
 (.seq
 (.reg [⟨(some 83), none, (.mv (.t 10))⟩,
   ⟨(some 84), none, (.mn [(.t 83), (.c (.int .i64 100))])⟩,
   ⟨(some 17), none, (.mv (.t 84))⟩])
 (.seq
 (.reg [⟨(some 85), none, (.mv (.t 11))⟩,
   ⟨(some 86), none, (.mv (.t 17))⟩,
   ⟨(some 87), none, (.call 13 [(.t 85), (.t 86)])⟩,
   ⟨(some 18), none, (.mv (.t 87))⟩])
 (.seq
 (.seq
 (.reg [⟨(some 88), none, (.mv (.t 18))⟩,
   ⟨(some 89), none, (.bin .lss .num (.t 88) (.c (.int .i64 0)))⟩])
 (.cond (.t 89)
 (.seq
 (.reg [⟨(some 90), none, (.mv (.t 9))⟩,
   ⟨(some 91), none, (.bin .eql .num (.t 90) (.c (.int .i64 0)))⟩,
   ⟨(some 92), none, (.mv (.t 91))⟩,
   ⟨(some 93), (some (92, true)), (.call 14 [])⟩,
   ⟨(some 94), none, (.pick (.t 92) (.t 93) (.c (.bool false)))⟩,
   ⟨(some 8), none, (.mv (.t 94))⟩]) .ret) .skip))
 (.seq
 (.reg [⟨(some 95), none, (.mv (.t 11))⟩,
   ⟨(some 96), none, (.mv (.t 18))⟩,
   ⟨(some 97), none, (.call 10 [(.t 95), (.t 96)])⟩])
 (.seq
 (.reg [⟨(some 98), none, (.mv (.t 11))⟩,
   ⟨(some 99), none, (.mv (.t 17))⟩,
   ⟨(some 100), none, (.call 11 [(.t 98), (.t 99)])⟩,
   ⟨(some 101), none, (.mv (.t 100))⟩,
   ⟨(some 102), (some (101, true)), (.call 14 [])⟩,
   ⟨(some 103), none, (.pick (.t 101) (.t 102) (.c (.bool false)))⟩,
   ⟨(some 8), none, (.mv (.t 103))⟩]) .ret))))))))))))⟩
theorem caf3 : cFunc Try.prog Try.f3 = some af3 := by kernel_rfl
/-- limelight/limelightlaw10.BucketWaits -/
def af4 : AFunc := ⟨84, [(.tmp 6)],
 (.seq
 (.reg [⟨(some 6), none, (.mv (.c (.bool false)))⟩])
 (.seq
 (.reg [⟨(some 13), none, (.mv (.t 0))⟩,
   ⟨(some 14), none, (.bin .and .num (.t 13) (.c (.int .i64 1048575)))⟩,
   ⟨(some 15), none, (.bin .add .num (.c (.int .i64 1)) (.t 14))⟩,
   ⟨(some 16), none, (.mv (.t 1))⟩,
   ⟨(some 17), none, (.bin .and .num (.t 16) (.c (.int .i64 16383)))⟩,
   ⟨(some 18), none, (.bin .add .num (.c (.int .i64 1)) (.t 17))⟩,
   ⟨(some 7), none, (.mv (.t 15))⟩,
   ⟨(some 8), none, (.mv (.t 18))⟩])
 (.seq
 (.reg [⟨(some 19), none, (.mv (.t 2))⟩,
   ⟨(some 20), none, (.bin .and .num (.t 19) (.c (.int .i64 16383)))⟩,
   ⟨(some 21), none, (.mv (.t 8))⟩,
   ⟨(some 22), none, (.bin .rem .num (.t 20) (.t 21))⟩,
   ⟨(some 23), none, (.bin .add .num (.c (.int .i64 1)) (.t 22))⟩,
   ⟨(some 9), none, (.mv (.t 23))⟩])
 (.seq
 (.reg [⟨(some 24), none, (.mv (.t 7))⟩,
   ⟨(some 25), none, (.mv (.t 8))⟩,
   ⟨(some 26), none, (.call 8 [(.t 24), (.t 25)])⟩,
   ⟨(some 27), none, (.mv (.t 7))⟩,
   ⟨(some 28), none, (.mv (.t 8))⟩,
   ⟨(some 29), none, (.call 8 [(.t 27), (.t 28)])⟩,
   ⟨(some 10), none, (.mv (.t 26))⟩,
   ⟨(some 11), none, (.mv (.t 29))⟩])
 (.seq
 (.seq
 (.reg [⟨(some 30), none, (.mv (.t 10))⟩,
   ⟨(some 31), none, (.bin .eql .ptr (.t 30) (.c (.ptr none)))⟩,
   ⟨(some 32), none, (.mv (.t 31))⟩,
   ⟨(some 33), (some (32, false)), (.mv (.t 11))⟩,
   ⟨(some 34), (some (32, false)), (.bin .eql .ptr (.t 33) (.c (.ptr none)))⟩,
   ⟨(some 35), none, (.pick (.t 32) (.c (.bool true)) (.t 34))⟩,
   ⟨(some 36), none, (.mv (.t 35))⟩,
   ⟨(some 37), (some (36, false)), (.mv (.t 10))⟩,
   ⟨(some 38), (some (36, false)), (.mv (.t 8))⟩,
   ⟨(some 39), (some (36, false)), (.call 11 [(.t 37), (.t 38)])⟩,
   ⟨(some 40), (some (36, false)), (.un .not (.t 39))⟩,
   ⟨(some 41), none, (.pick (.t 36) (.c (.bool true)) (.t 40))⟩,
   ⟨(some 42), none, (.mv (.t 41))⟩,
   ⟨(some 43), (some (42, false)), (.mv (.t 11))⟩,
   ⟨(some 44), (some (42, false)), (.mv (.t 8))⟩,
   ⟨(some 45), (some (42, false)), (.call 11 [(.t 43), (.t 44)])⟩,
   ⟨(some 46), (some (42, false)), (.un .not (.t 45))⟩,
   ⟨(some 47), none, (.pick (.t 42) (.c (.bool true)) (.t 46))⟩])
 (.cond (.t 47)
 (.seq
 (.reg [⟨(some 6), none, (.mv (.c (.bool false)))⟩]) .ret) .skip))
 (.seq
 (.reg [⟨(some 48), none, (.mv (.t 10))⟩,
   ⟨(some 49), none, (.mv (.t 9))⟩,
   ⟨(some 50), none, (.call 13 [(.t 48), (.t 49)])⟩,
   ⟨(some 12), none, (.mv (.t 50))⟩])
 (.seq
 (.seq
 (.reg [⟨(some 51), none, (.mv (.t 12))⟩,
   ⟨(some 52), none, (.bin .lss .num (.t 51) (.c (.int .i64 1)))⟩])
 (.cond (.t 52)
 (.seq
 (.reg [⟨(some 6), none, (.mv (.c (.bool false)))⟩]) .ret) .skip))
 (.seq
 (.reg [⟨(some 53), none, (.mv (.t 10))⟩,
   ⟨(some 54), none, (.mv (.t 12))⟩,
   ⟨(some 55), none, (.call 10 [(.t 53), (.t 54)])⟩])
 (.seq
 (.reg [⟨(some 56), none, (.mv (.t 11))⟩,
   ⟨(some 57), none, (.mv (.t 12))⟩,
   ⟨(some 58), none, (.bin .sub .num (.t 57) (.c (.int .i64 1)))⟩,
   ⟨(some 59), none, (.call 10 [(.t 56), (.t 58)])⟩])
 (.seq
 (.reg [⟨(some 60), none, (.mv (.t 10))⟩,
   ⟨(some 61), none, (.mv (.t 9))⟩,
   ⟨(some 62), none, (.call 13 [(.t 60), (.t 61)])⟩,
   ⟨(some 63), none, (.bin .eql .num (.t 62) (.c (.int .i64 0)))⟩,
   ⟨(some 64), none, (.mv (.t 63))⟩,
   ⟨(some 65), (some (64, true)), (.mv (.t 11))⟩,
   ⟨(some 66), (some (64, true)), (.mv (.t 9))⟩,
   ⟨(some 67), (some (64, true)), (.call 13 [(.t 65), (.t 66)])⟩,
   ⟨(some 68), (some (64, true)), (.bin .eql .num (.t 67) (.c (.int .i64 1)))⟩,
   ⟨(some 69), none, (.pick (.t 64) (.t 68) (.c (.bool false)))⟩,
   ⟨(some 70), none, (.mv (.t 69))⟩,
   ⟨(some 71), (some (70, true)), (.mv (.t 10))⟩,
   ⟨(some 72), (some (70, true)), (.mv (.t 9))⟩,
   ⟨(some 73), (some (70, true)), (.call 11 [(.t 71), (.t 72)])⟩,
   ⟨(some 74), none, (.pick (.t 70) (.t 73) (.c (.bool false)))⟩,
   ⟨(some 75), none, (.mv (.t 74))⟩,
   ⟨(some 76), (some (75, true)), (.mv (.t 11))⟩,
   ⟨(some 77), (some (75, true)), (.mv (.t 9))⟩,
   ⟨(some 78), (some (75, true)), (.call 11 [(.t 76), (.t 77)])⟩,
   ⟨(some 79), (some (75, true)), (.un .not (.t 78))⟩,
   ⟨(some 80), none, (.pick (.t 75) (.t 79) (.c (.bool false)))⟩,
   ⟨(some 81), none, (.mv (.t 80))⟩,
   ⟨(some 82), (some (81, true)), (.call 14 [])⟩,
   ⟨(some 83), none, (.pick (.t 81) (.t 82) (.c (.bool false)))⟩,
   ⟨(some 6), none, (.mv (.t 83))⟩]) .ret))))))))))⟩
theorem caf4 : cFunc Try.prog Try.f4 = some af4 := by kernel_rfl
def af5_l0 : AC :=
 (.seq
 (.reg [⟨(some 58), none, (.bin .lss .num (.t 57) (.t 56))⟩])
 (.seq
 (.cond (.t 58) .skip (.exit 4))
 (.seq
 (.block 5
 (.seq
 (.reg [⟨(some 59), none, (.ixSlice 1 (.t 55) (.t 57))⟩,
   ⟨(some 60), none, (.load1 (.t 59))⟩,
   ⟨(some 5), none, (.mv (.t 60))⟩])
 (.seq
 (.reg [⟨(some 61), none, (.mv (.t 5))⟩,
   ⟨(some 62), none, (.mv (.t 5))⟩,
   ⟨(some 63), none, (.mv (.t 5))⟩,
   ⟨(some 64), none, (.build [(.int .i64 0), (.int .i64 0)] [(0, (1, (.c (.int .i64 2)))), (1, (1, (.t 63)))])⟩,
   ⟨(some 65), none, (.mv (.t 5))⟩,
   ⟨(some 66), none, (.build [(.int .i64 0), (.int .i64 0)] [(1, (1, (.t 65)))])⟩,
   ⟨(some 67), none, (.mv (.t 5))⟩,
   ⟨(some 68), none, (.build [(.int .i64 0), (.int .i64 0)] [(0, (1, (.c (.int .i64 5)))), (1, (1, (.t 67)))])⟩,
   ⟨(some 69), none, (.build [(.int .i64 0), (.int .i64 0)] [(1, (1, (.c (.int .i64 1))))])⟩,
   ⟨(some 70), none, (.build [(.int .i64 0), (.int .i64 0)] [(0, (1, (.c (.int .i64 3)))), (1, (1, (.c (.int .i64 1))))])⟩,
   ⟨(some 71), none, (.buildSlice 2 [(.int .i64 0), (.int .i64 0)] 5 [(0, (2, (.t 64))), (2, (2, (.t 66))), (4, (2, (.t 68))), (6, (2, (.t 69))), (8, (2, (.t 70)))])⟩,
   ⟨(some 72), none, (.call 15 [(.t 61), (.t 62), (.t 71)])⟩,
   ⟨(some 73), none, (.un .not (.t 72))⟩])
 (.cond (.t 73)
 (.seq
 (.reg [⟨(some 0), none, (.mv (.c (.bool false)))⟩]) .ret) .skip))))
 (.reg [⟨(some 74), none, (.bin .add .num (.t 57) (.c (.int .i64 1)))⟩,
   ⟨(some 57), none, (.mv (.t 74))⟩]))))
def af5_l1 : AC :=
 (.seq
 (.seq
 (.reg [⟨(some 10), none, (.mv (.t 3))⟩,
   ⟨(some 11), none, (.bin .lss .num (.t 10) (.c (.int .i64 70)))⟩])
 (.cond (.t 11) .skip (.exit 2)))
 (.seq
 (.block 3
 (.reg [⟨(some 14), none, (.mv (.t 2))⟩,
   ⟨(some 15), none, (.mv (.t 3))⟩,
   ⟨(some 16), none, (.mv (.t 3))⟩,
   ⟨(some 17), none, (.bin .mul .num (.t 15) (.t 16))⟩,
   ⟨(some 18), none, (.mv (.t 1))⟩,
   ⟨(some 19), none, (.bin .add .num (.t 17) (.t 18))⟩,
   ⟨(some 20), none, (.bin .rem .num (.t 19) (.c (.int .i64 6)))⟩,
   ⟨(some 21), none, (.mv (.t 3))⟩,
   ⟨(some 22), none, (.mv (.t 1))⟩,
   ⟨(some 23), none, (.bin .mul .num (.t 21) (.t 22))⟩,
   ⟨(some 24), none, (.bin .rem .num (.t 23) (.c (.int .i64 97)))⟩,
   ⟨(some 25), none, (.mv (.t 1))⟩,
   ⟨(some 26), none, (.bin .rem .num (.t 25) (.c (.int .i64 3)))⟩,
   ⟨(some 27), none, (.bin .mul .num (.t 26) (.c (.int .i64 500)))⟩,
   ⟨(some 28), none, (.bin .add .num (.c (.int .i64 1)) (.t 27))⟩,
   ⟨(some 29), none, (.bin .mul .num (.t 24) (.t 28))⟩,
   ⟨(some 30), none, (.build [(.int .i64 0), (.int .i64 0)] [(0, (1, (.t 20))), (1, (1, (.t 29)))])⟩,
   ⟨(some 31), none, (.buildSlice 2 [(.int .i64 0), (.int .i64 0)] 1 [(0, (2, (.t 30)))])⟩,
   ⟨(some 32), none, (.append 2 16 (.t 14) (.t 31))⟩,
   ⟨(some 2), none, (.mv (.t 32))⟩]))
 (.reg [⟨(some 12), none, (.mv (.t 3))⟩,
   ⟨(some 13), none, (.bin .add .num (.t 12) (.c (.int .i64 1)))⟩,
   ⟨(some 3), none, (.mv (.t 13))⟩])))
def af5_l2 : AC :=
 (.seq
 (.seq
 (.reg [⟨(some 6), none, (.mv (.t 1))⟩,
   ⟨(some 7), none, (.bin .lss .num (.t 6) (.c (.int .i64 40)))⟩])
 (.cond (.t 7) .skip (.exit 0)))
 (.seq
 (.block 1
 (.seq
 (.reg [⟨(some 2), none, (.mv (.c (.slice none 0 0 none)))⟩])
 (.seq
 (.seq
 (.reg [⟨(some 3), none, (.mv (.c (.int .i64 0)))⟩])
 (.block 2
 (.loop af5_l1)))
 (.seq
 (.reg [⟨(some 33), none, (.mv (.t 1))⟩,
   ⟨(some 34), none, (.mv (.t 1))⟩,
   ⟨(some 35), none, (.bin .mul .num (.t 33) (.t 34))⟩,
   ⟨(some 36), none, (.bin .mul .num (.t 35) (.c (.int .i64 100)))⟩,
   ⟨(some 37), none, (.mv (.t 1))⟩,
   ⟨(some 38), none, (.bin .mul .num (.t 37) (.c (.int .i64 30)))⟩,
   ⟨(some 39), none, (.mv (.t 2))⟩,
   ⟨(some 40), none, (.call 15 [(.t 36), (.t 38), (.t 39)])⟩,
   ⟨(some 41), none, (.un .not (.t 40))⟩,
   ⟨(some 42), none, (.mv (.t 41))⟩,
   ⟨(some 43), (some (42, false)), (.mv (.t 1))⟩,
   ⟨(some 44), (some (42, false)), (.bin .add .num (.c (.int .i64 1099511627776)) (.t 43))⟩,
   ⟨(some 45), (some (42, false)), (.mv (.t 2))⟩,
   ⟨(some 46), (some (42, false)), (.call 15 [(.t 44), (.c (.int .i64 1099511627776)), (.t 45)])⟩,
   ⟨(some 47), (some (42, false)), (.un .not (.t 46))⟩,
   ⟨(some 48), none, (.pick (.t 42) (.c (.bool true)) (.t 47))⟩,
   ⟨(some 49), none, (.mv (.t 48))⟩,
   ⟨(some 50), (some (49, false)), (.mv (.t 1))⟩,
   ⟨(some 51), (some (49, false)), (.mv (.t 2))⟩,
   ⟨(some 52), (some (49, false)), (.call 15 [(.c (.int .i64 (-5))), (.t 50), (.t 51)])⟩,
   ⟨(some 53), (some (49, false)), (.un .not (.t 52))⟩,
   ⟨(some 54), none, (.pick (.t 49) (.c (.bool true)) (.t 53))⟩])
 (.cond (.t 54)
 (.seq
 (.reg [⟨(some 0), none, (.mv (.c (.bool false)))⟩]) .ret) .skip)))))
 (.reg [⟨(some 8), none, (.mv (.t 1))⟩,
   ⟨(some 9), none, (.bin .add .num (.t 8) (.c (.int .i64 1)))⟩,
   ⟨(some 1), none, (.mv (.t 9))⟩])))
/-- limelight/limelightlaw10.BucketNumbers -/
def af5 : AFunc := ⟨76, [(.tmp 0)],
 (.seq
 (.reg [⟨(some 0), none, (.mv (.c (.bool false)))⟩])
 (.seq
 (.seq
 (.reg [⟨(some 1), none, (.mv (.c (.int .i64 0)))⟩])
 (.block 0
 (.loop af5_l2)))
 (.seq
 (.seq
 (.reg [⟨(some 55), none, (.buildSlice 1 [(.int .i64 0)] 6 [(0, (1, (.c (.int .i64 (-9223372036854775808))))), (1, (1, (.c (.int .i64 (-1))))), (2, (1, (.c (.int .i64 0)))), (3, (1, (.c (.int .i64 1099511627776)))), (4, (1, (.c (.int .i64 1099511627777)))), (5, (1, (.c (.int .i64 9223372036854775807))))])⟩,
   ⟨(some 56), none, (.len (.t 55))⟩,
   ⟨(some 57), none, (.mv (.c (.int .i64 0)))⟩])
 (.block 4
 (.loop af5_l0)))
 (.seq
 (.reg [⟨(some 75), none, (.call 14 [])⟩,
   ⟨(some 0), none, (.mv (.t 75))⟩]) .ret))))⟩
theorem caf5 : cFunc Try.prog Try.f5 = some af5 := by kernel_rfl
def af6_l0 : AC :=
 (.seq
 (.reg [⟨(some 14), none, (.bin .lss .num (.t 13) (.t 12))⟩])
 (.seq
 (.cond (.t 14) .skip (.exit 0))
 (.seq
 (.block 1
 (.seq
 (.reg [⟨(some 15), none, (.mv (.t 13))⟩,
   ⟨(some 8), none, (.mv (.t 15))⟩])
 (.seq
 (.reg [⟨(some 16), none, (.mv (.t 2))⟩,
   ⟨(some 17), none, (.mv (.t 8))⟩,
   ⟨(some 18), none, (.ixSlice 2 (.t 16) (.t 17))⟩,
   ⟨(some 19), none, (.fieldAddr 0 1 (.t 18))⟩,
   ⟨(some 20), none, (.load1 (.t 19))⟩,
   ⟨(some 21), none, (.call 9 [(.t 20), (.c (.int .i64 0)), (.c (.int .i64 5))])⟩,
   ⟨(some 9), none, (.mv (.t 21))⟩])
 (.seq
 (.reg [⟨(some 22), none, (.mv (.t 2))⟩,
   ⟨(some 23), none, (.mv (.t 8))⟩,
   ⟨(some 24), none, (.ixSlice 2 (.t 22) (.t 23))⟩,
   ⟨(some 25), none, (.fieldAddr 1 1 (.t 24))⟩,
   ⟨(some 26), none, (.load1 (.t 25))⟩,
   ⟨(some 27), none, (.bin .and .num (.t 26) (.c (.int .i64 262143)))⟩,
   ⟨(some 10), none, (.mv (.t 27))⟩])
 (.seq
 (.seq
 (.reg [⟨(some 28), none, (.mv (.t 9))⟩,
   ⟨(some 29), none, (.bin .gtr .num (.t 28) (.c (.int .i64 1)))⟩,
   ⟨(some 30), none, (.mv (.t 29))⟩,
   ⟨(some 31), (some (30, true)), (.mv (.t 9))⟩,
   ⟨(some 32), (some (30, true)), (.bin .lss .num (.t 31) (.c (.int .i64 5)))⟩,
   ⟨(some 33), none, (.pick (.t 30) (.t 32) (.c (.bool false)))⟩])
 (.cond (.t 33)
 (.reg [⟨(some 34), none, (.mv (.t 2))⟩,
   ⟨(some 35), none, (.mv (.t 8))⟩,
   ⟨(some 36), none, (.ixSlice 2 (.t 34) (.t 35))⟩,
   ⟨(some 37), none, (.fieldAddr 1 1 (.t 36))⟩,
   ⟨(some 38), none, (.load1 (.t 37))⟩,
   ⟨(some 39), none, (.bin .and .num (.t 38) (.c (.int .i64 4095)))⟩,
   ⟨(some 10), none, (.mv (.t 39))⟩]) .skip))
 (.reg [⟨(some 40), none, (.mv (.t 7))⟩,
   ⟨(some 41), none, (.mv (.t 9))⟩,
   ⟨(some 42), none, (.mv (.t 10))⟩,
   ⟨(some 43), none, (.build [(.int .i64 0), (.int .i64 0)] [(0, (1, (.t 41))), (1, (1, (.t 42)))])⟩,
   ⟨(some 44), none, (.buildSlice 2 [(.int .i64 0), (.int .i64 0)] 1 [(0, (2, (.t 43)))])⟩,
   ⟨(some 45), none, (.append 2 16 (.t 40) (.t 44))⟩,
   ⟨(some 7), none, (.mv (.t 45))⟩]))))))
 (.reg [⟨(some 46), none, (.bin .add .num (.t 13) (.c (.int .i64 1)))⟩,
   ⟨(some 13), none, (.mv (.t 46))⟩]))))
/-- limelight/limelightlaw10.BucketPlays -/
def af6 : AFunc := ⟨69, [(.tmp 6)],
 (.seq
 (.reg [⟨(some 6), none, (.mv (.c (.bool false)))⟩])
 (.seq
 (.reg [⟨(some 7), none, (.mv (.c (.slice none 0 0 none)))⟩])
 (.seq
 (.seq
 (.reg [⟨(some 11), none, (.mv (.t 2))⟩,
   ⟨(some 12), none, (.len (.t 11))⟩,
   ⟨(some 13), none, (.mv (.c (.int .i64 0)))⟩])
 (.block 0
 (.loop af6_l0)))
 (.seq
 (.reg [⟨(some 47), none, (.mv (.t 0))⟩,
   ⟨(some 48), none, (.mv (.t 1))⟩,
   ⟨(some 49), none, (.mv (.t 2))⟩,
   ⟨(some 50), none, (.call 15 [(.t 47), (.t 48), (.t 49)])⟩,
   ⟨(some 51), none, (.mv (.t 50))⟩,
   ⟨(some 52), (some (51, true)), (.mv (.t 0))⟩,
   ⟨(some 53), (some (51, true)), (.bin .and .num (.t 52) (.c (.int .i64 1048575)))⟩,
   ⟨(some 54), (some (51, true)), (.mv (.t 1))⟩,
   ⟨(some 55), (some (51, true)), (.bin .and .num (.t 54) (.c (.int .i64 16383)))⟩,
   ⟨(some 56), (some (51, true)), (.mv (.t 7))⟩,
   ⟨(some 57), (some (51, true)), (.call 15 [(.t 53), (.t 55), (.t 56)])⟩,
   ⟨(some 58), none, (.pick (.t 51) (.t 57) (.c (.bool false)))⟩,
   ⟨(some 59), none, (.mv (.t 58))⟩,
   ⟨(some 60), (some (59, true)), (.mv (.t 0))⟩,
   ⟨(some 61), (some (59, true)), (.mv (.t 1))⟩,
   ⟨(some 62), (some (59, true)), (.bin .and .num (.t 61) (.c (.int .i64 65535)))⟩,
   ⟨(some 63), (some (59, true)), (.mv (.t 7))⟩,
   ⟨(some 64), (some (59, true)), (.call 15 [(.t 60), (.t 62), (.t 63)])⟩,
   ⟨(some 65), none, (.pick (.t 59) (.t 64) (.c (.bool false)))⟩,
   ⟨(some 66), none, (.mv (.t 65))⟩,
   ⟨(some 67), (some (66, true)), (.call 14 [])⟩,
   ⟨(some 68), none, (.pick (.t 66) (.t 67) (.c (.bool false)))⟩,
   ⟨(some 6), none, (.mv (.t 68))⟩]) .ret))))⟩
theorem caf6 : cFunc Try.prog Try.f6 = some af6 := by kernel_rfl
def af7_l0 : AC :=
 (.seq
 (.seq
 (.reg [⟨(some 35), none, (.mv (.t 12))⟩,
   ⟨(some 36), none, (.mv (.t 2))⟩,
   ⟨(some 37), none, (.len (.t 36))⟩,
   ⟨(some 38), none, (.bin .lss .num (.t 35) (.t 37))⟩,
   ⟨(some 39), none, (.mv (.t 38))⟩,
   ⟨(some 40), (some (39, true)), (.mv (.t 12))⟩,
   ⟨(some 41), (some (39, true)), (.bin .lss .num (.t 40) (.c (.int .i64 30)))⟩,
   ⟨(some 42), none, (.pick (.t 39) (.t 41) (.c (.bool false)))⟩])
 (.cond (.t 42) .skip (.exit 0)))
 (.seq
 (.block 1
 (.seq
 (.reg [⟨(some 45), none, (.mv (.t 9))⟩,
   ⟨(some 46), none, (.mv (.t 2))⟩,
   ⟨(some 47), none, (.mv (.t 12))⟩,
   ⟨(some 48), none, (.ixSlice 1 (.t 46) (.t 47))⟩,
   ⟨(some 49), none, (.load1 (.t 48))⟩,
   ⟨(some 50), none, (.bin .and .num (.t 49) (.c (.int .i64 65535)))⟩,
   ⟨(some 51), none, (.call 10 [(.t 45), (.t 50)])⟩])
 (.seq
 (.reg [⟨(some 52), none, (.mv (.t 9))⟩,
   ⟨(some 53), none, (.mv (.t 7))⟩,
   ⟨(some 54), none, (.call 16 [(.t 52), (.t 53)])⟩])
 (.reg [⟨(some 55), none, (.mv (.t 11))⟩,
   ⟨(some 56), none, (.mv (.t 2))⟩,
   ⟨(some 57), none, (.mv (.t 12))⟩,
   ⟨(some 58), none, (.ixSlice 1 (.t 56) (.t 57))⟩,
   ⟨(some 59), none, (.load1 (.t 58))⟩,
   ⟨(some 60), none, (.bin .and .num (.t 59) (.c (.int .i64 65535)))⟩,
   ⟨(some 61), none, (.bin .add .num (.t 55) (.t 60))⟩,
   ⟨(some 11), none, (.mv (.t 61))⟩]))))
 (.reg [⟨(some 43), none, (.mv (.t 12))⟩,
   ⟨(some 44), none, (.bin .add .num (.t 43) (.c (.int .i64 1)))⟩,
   ⟨(some 12), none, (.mv (.t 44))⟩])))
/-- limelight/limelightlaw10.BucketParts -/
def af7 : AFunc := ⟨99, [(.tmp 6)],
 (.seq
 (.reg [⟨(some 6), none, (.mv (.c (.bool false)))⟩])
 (.seq
 (.reg [⟨(some 13), none, (.mv (.t 0))⟩,
   ⟨(some 14), none, (.bin .and .num (.t 13) (.c (.int .i64 1048575)))⟩,
   ⟨(some 15), none, (.mv (.t 1))⟩,
   ⟨(some 16), none, (.bin .and .num (.t 15) (.c (.int .i64 16383)))⟩,
   ⟨(some 7), none, (.mv (.t 14))⟩,
   ⟨(some 8), none, (.mv (.t 16))⟩])
 (.seq
 (.reg [⟨(some 17), none, (.mv (.t 7))⟩,
   ⟨(some 18), none, (.mv (.t 8))⟩,
   ⟨(some 19), none, (.call 8 [(.t 17), (.t 18)])⟩,
   ⟨(some 20), none, (.mv (.t 7))⟩,
   ⟨(some 21), none, (.mv (.t 8))⟩,
   ⟨(some 22), none, (.call 8 [(.t 20), (.t 21)])⟩,
   ⟨(some 9), none, (.mv (.t 19))⟩,
   ⟨(some 10), none, (.mv (.t 22))⟩])
 (.seq
 (.seq
 (.reg [⟨(some 23), none, (.mv (.t 9))⟩,
   ⟨(some 24), none, (.bin .eql .ptr (.t 23) (.c (.ptr none)))⟩,
   ⟨(some 25), none, (.mv (.t 24))⟩,
   ⟨(some 26), (some (25, false)), (.mv (.t 10))⟩,
   ⟨(some 27), (some (25, false)), (.bin .eql .ptr (.t 26) (.c (.ptr none)))⟩,
   ⟨(some 28), none, (.pick (.t 25) (.c (.bool true)) (.t 27))⟩])
 (.cond (.t 28)
 (.seq
 (.reg [⟨(some 6), none, (.mv (.c (.bool false)))⟩]) .ret) .skip))
 (.seq
 (.reg [⟨(some 29), none, (.mv (.t 9))⟩,
   ⟨(some 30), none, (.mv (.t 8))⟩,
   ⟨(some 31), none, (.call 11 [(.t 29), (.t 30)])⟩])
 (.seq
 (.reg [⟨(some 32), none, (.mv (.t 10))⟩,
   ⟨(some 33), none, (.mv (.t 8))⟩,
   ⟨(some 34), none, (.call 11 [(.t 32), (.t 33)])⟩])
 (.seq
 (.reg [⟨(some 11), none, (.mv (.c (.int .i64 0)))⟩])
 (.seq
 (.seq
 (.reg [⟨(some 12), none, (.mv (.c (.int .i64 0)))⟩])
 (.block 0
 (.loop af7_l0)))
 (.seq
 (.reg [⟨(some 62), none, (.mv (.t 10))⟩,
   ⟨(some 63), none, (.mv (.t 11))⟩,
   ⟨(some 64), none, (.call 10 [(.t 62), (.t 63)])⟩])
 (.seq
 (.reg [⟨(some 65), none, (.mv (.t 9))⟩,
   ⟨(some 66), none, (.call 17 [(.t 65)])⟩,
   ⟨(some 67), none, (.mv (.t 10))⟩,
   ⟨(some 68), none, (.call 17 [(.t 67)])⟩,
   ⟨(some 69), none, (.bin .eql .num (.t 66) (.t 68))⟩,
   ⟨(some 70), none, (.mv (.t 69))⟩,
   ⟨(some 71), (some (70, true)), (.mv (.t 9))⟩,
   ⟨(some 72), (some (70, true)), (.call 17 [(.t 71)])⟩,
   ⟨(some 73), (some (70, true)), (.mv (.t 8))⟩,
   ⟨(some 74), (some (70, true)), (.bin .leq .num (.t 72) (.t 73))⟩,
   ⟨(some 75), none, (.pick (.t 70) (.t 74) (.c (.bool false)))⟩,
   ⟨(some 76), none, (.mv (.t 75))⟩,
   ⟨(some 77), (some (76, true)), (.mv (.t 9))⟩,
   ⟨(some 78), (some (76, true)), (.call 17 [(.t 77)])⟩,
   ⟨(some 79), (some (76, true)), (.mv (.t 8))⟩,
   ⟨(some 80), (some (76, true)), (.mv (.t 7))⟩,
   ⟨(some 81), (some (76, true)), (.mv (.t 11))⟩,
   ⟨(some 82), (some (76, true)), (.bin .mul .num (.t 80) (.t 81))⟩,
   ⟨(some 83), (some (76, true)), (.bin .quo .num (.t 82) (.c (.int .i64 1000000)))⟩,
   ⟨(some 84), (some (76, true)), (.mn [(.t 79), (.t 83)])⟩,
   ⟨(some 85), (some (76, true)), (.bin .eql .num (.t 78) (.t 84))⟩,
   ⟨(some 86), none, (.pick (.t 76) (.t 85) (.c (.bool false)))⟩,
   ⟨(some 87), none, (.mv (.t 86))⟩,
   ⟨(some 88), (some (87, true)), (.mv (.t 9))⟩,
   ⟨(some 89), (some (87, true)), (.mv (.t 8))⟩,
   ⟨(some 90), (some (87, true)), (.call 13 [(.t 88), (.t 89)])⟩,
   ⟨(some 91), (some (87, true)), (.mv (.t 10))⟩,
   ⟨(some 92), (some (87, true)), (.mv (.t 8))⟩,
   ⟨(some 93), (some (87, true)), (.call 13 [(.t 91), (.t 92)])⟩,
   ⟨(some 94), (some (87, true)), (.bin .eql .num (.t 90) (.t 93))⟩,
   ⟨(some 95), none, (.pick (.t 87) (.t 94) (.c (.bool false)))⟩,
   ⟨(some 96), none, (.mv (.t 95))⟩,
   ⟨(some 97), (some (96, true)), (.call 14 [])⟩,
   ⟨(some 98), none, (.pick (.t 96) (.t 97) (.c (.bool false)))⟩,
   ⟨(some 6), none, (.mv (.t 98))⟩]) .ret))))))))))⟩
theorem caf7 : cFunc Try.prog Try.f7 = some af7 := by kernel_rfl
/-- limelight/bucket.New -/
def af8 : AFunc := ⟨14, [(.tmp 4)],
 (.seq
 (.reg [⟨(some 4), none, (.mv (.c (.ptr none)))⟩])
 (.seq
 (.reg [⟨(some 5), none, (.mv (.t 0))⟩,
   ⟨(some 6), none, (.call 18 [(.t 5)])⟩,
   ⟨(some 7), none, (.mv (.t 1))⟩,
   ⟨(some 8), none, (.call 18 [(.t 7)])⟩,
   ⟨(some 9), none, (.mv (.t 1))⟩,
   ⟨(some 10), none, (.call 18 [(.t 9)])⟩,
   ⟨(some 11), none, (.call 19 [(.t 10), (.c (.int .i64 1000000))])⟩,
   ⟨(some 12), none, (.build [(.int .i64 0), (.int .i64 0), (.int .i64 0)] [(0, (1, (.t 6))), (1, (1, (.t 8))), (2, (1, (.t 11)))])⟩,
   ⟨(some 13), none, (.box (.t 12))⟩,
   ⟨(some 4), none, (.mv (.t 13))⟩]) .ret))⟩
theorem caf8 : cFunc Try.prog Try.f8 = some af8 := by kernel_rfl
/-- limelight/limelightbook.Within -/
def af9 : AFunc := ⟨33, [(.tmp 6)],
 (.seq
 (.reg [⟨(some 6), none, (.mv (.c (.int .i64 0)))⟩])
 (.seq
 (.seq
 (.reg [⟨(some 7), none, (.mv (.t 0))⟩,
   ⟨(some 8), none, (.mv (.t 1))⟩,
   ⟨(some 9), none, (.bin .geq .num (.t 7) (.t 8))⟩,
   ⟨(some 10), none, (.mv (.t 9))⟩,
   ⟨(some 11), (some (10, true)), (.mv (.t 0))⟩,
   ⟨(some 12), (some (10, true)), (.mv (.t 2))⟩,
   ⟨(some 13), (some (10, true)), (.bin .leq .num (.t 11) (.t 12))⟩,
   ⟨(some 14), none, (.pick (.t 10) (.t 13) (.c (.bool false)))⟩])
 (.cond (.t 14)
 (.seq
 (.reg [⟨(some 15), none, (.mv (.t 0))⟩,
   ⟨(some 6), none, (.mv (.t 15))⟩]) .ret) .skip))
 (.seq
 (.reg [⟨(some 16), none, (.mv (.t 0))⟩,
   ⟨(some 17), none, (.mv (.t 2))⟩,
   ⟨(some 18), none, (.mv (.t 1))⟩,
   ⟨(some 19), none, (.bin .sub .num (.t 17) (.t 18))⟩,
   ⟨(some 20), none, (.bin .add .num (.t 19) (.c (.int .i64 1)))⟩,
   ⟨(some 21), none, (.bin .rem .num (.t 16) (.t 20))⟩,
   ⟨(some 0), none, (.mv (.t 21))⟩])
 (.seq
 (.seq
 (.reg [⟨(some 22), none, (.mv (.t 0))⟩,
   ⟨(some 23), none, (.bin .lss .num (.t 22) (.c (.int .i64 0)))⟩])
 (.cond (.t 23)
 (.reg [⟨(some 24), none, (.mv (.t 0))⟩,
   ⟨(some 25), none, (.mv (.t 2))⟩,
   ⟨(some 26), none, (.bin .add .num (.t 24) (.t 25))⟩,
   ⟨(some 27), none, (.mv (.t 1))⟩,
   ⟨(some 28), none, (.bin .sub .num (.t 26) (.t 27))⟩,
   ⟨(some 29), none, (.bin .add .num (.t 28) (.c (.int .i64 1)))⟩,
   ⟨(some 0), none, (.mv (.t 29))⟩]) .skip))
 (.seq
 (.reg [⟨(some 30), none, (.mv (.t 1))⟩,
   ⟨(some 31), none, (.mv (.t 0))⟩,
   ⟨(some 32), none, (.bin .add .num (.t 30) (.t 31))⟩,
   ⟨(some 6), none, (.mv (.t 32))⟩]) .ret)))))⟩
theorem caf9 : cFunc Try.prog Try.f9 = some af9 := by kernel_rfl
/-- (*limelight/bucket.Bucket).Tick -/
def af10 : AFunc := ⟨24, [],
 (.dreg [⟨(some 4), none, (.mv (.t 0))⟩,
   ⟨(some 5), none, (.mv (.t 0))⟩,
   ⟨(some 6), none, (.nilCheck (.t 5))⟩,
   ⟨(some 7), none, (.fieldAddr 2 1 (.t 6))⟩,
   ⟨(some 8), none, (.load1 (.t 7))⟩,
   ⟨(some 9), none, (.mv (.t 0))⟩,
   ⟨(some 10), none, (.nilCheck (.t 9))⟩,
   ⟨(some 11), none, (.fieldAddr 0 1 (.t 10))⟩,
   ⟨(some 12), none, (.load1 (.t 11))⟩,
   ⟨(some 13), none, (.mv (.t 1))⟩,
   ⟨(some 14), none, (.call 19 [(.t 12), (.t 13)])⟩,
   ⟨(some 15), none, (.call 20 [(.t 8), (.t 14)])⟩,
   ⟨(some 16), none, (.mv (.t 0))⟩,
   ⟨(some 17), none, (.nilCheck (.t 16))⟩,
   ⟨(some 18), none, (.fieldAddr 1 1 (.t 17))⟩,
   ⟨(some 19), none, (.load1 (.t 18))⟩,
   ⟨(some 20), none, (.call 19 [(.t 19), (.c (.int .i64 1000000))])⟩,
   ⟨(some 21), none, (.mn [(.t 15), (.t 20)])⟩,
   ⟨(some 22), none, (.nilCheck (.t 4))⟩,
   ⟨(some 23), none, (.fieldAddr 2 1 (.t 22))⟩,
   ⟨none, none, (.store 1 (.t 23) (.t 21))⟩] [(4, 11), (15, 10), (15, 11)])⟩
theorem caf10 : cFunc Try.prog Try.f10 = some af10 := by kernel_rfl
/-- (*limelight/bucket.Bucket).Take -/
def af11 : AFunc := ⟨25, [(.tmp 4)],
 (.seq
 (.reg [⟨(some 4), none, (.mv (.c (.bool false)))⟩])
 (.seq
 (.seq
 (.dreg [⟨(some 5), none, (.mv (.t 1))⟩,
   ⟨(some 6), none, (.bin .lss .num (.t 5) (.c (.int .i64 0)))⟩,
   ⟨(some 7), none, (.mv (.t 6))⟩,
   ⟨(some 8), (some (7, false)), (.mv (.t 1))⟩,
   ⟨(some 9), (some (7, false)), (.call 19 [(.t 8), (.c (.int .i64 1000000))])⟩,
   ⟨(some 10), (some (7, false)), (.mv (.t 0))⟩,
   ⟨(some 11), (some (7, false)), (.nilCheck (.t 10))⟩,
   ⟨(some 12), (some (7, false)), (.fieldAddr 2 1 (.t 11))⟩,
   ⟨(some 13), (some (7, false)), (.load1 (.t 12))⟩,
   ⟨(some 14), (some (7, false)), (.bin .gtr .num (.t 9) (.t 13))⟩,
   ⟨(some 15), none, (.pick (.t 7) (.c (.bool true)) (.t 14))⟩] [(8, 4)])
 (.cond (.t 15)
 (.seq
 (.reg [⟨(some 4), none, (.mv (.c (.bool false)))⟩]) .ret) .skip))
 (.seq
 (.reg [⟨(some 16), none, (.mv (.t 0))⟩,
   ⟨(some 17), none, (.nilCheck (.t 16))⟩,
   ⟨(some 18), none, (.fieldAddr 2 1 (.t 17))⟩,
   ⟨(some 19), none, (.load1 (.t 18))⟩,
   ⟨(some 20), none, (.mv (.t 1))⟩,
   ⟨(some 21), none, (.bin .mul .num (.t 20) (.c (.int .i64 1000000)))⟩,
   ⟨(some 22), none, (.bin .sub .num (.t 19) (.t 21))⟩,
   ⟨(some 23), none, (.nilCheck (.t 16))⟩,
   ⟨(some 24), none, (.fieldAddr 2 1 (.t 23))⟩,
   ⟨none, none, (.store 1 (.t 24) (.t 22))⟩])
 (.seq
 (.reg [⟨(some 4), none, (.mv (.c (.bool true)))⟩]) .ret))))⟩
theorem caf11 : cFunc Try.prog Try.f11 = some af11 := by kernel_rfl
/-- limelight/limelightref9.Over -/
def af12 : AFunc := ⟨22, [(.tmp 4)],
 (.seq
 (.reg [⟨(some 4), none, (.mv (.c (.int .i64 0)))⟩])
 (.seq
 (.reg [⟨(some 6), none, (.mv (.t 0))⟩,
   ⟨(some 7), none, (.mx [(.t 6), (.c (.int .i64 0))])⟩,
   ⟨(some 8), none, (.mv (.t 1))⟩,
   ⟨(some 9), none, (.mx [(.t 8), (.c (.int .i64 0))])⟩,
   ⟨(some 0), none, (.mv (.t 7))⟩,
   ⟨(some 1), none, (.mv (.t 9))⟩])
 (.seq
 (.seq
 (.reg [⟨(some 10), none, (.mv (.t 1))⟩,
   ⟨(some 11), none, (.bin .eql .num (.t 10) (.c (.int .i64 0)))⟩])
 (.cond (.t 11)
 (.seq
 (.reg [⟨(some 4), none, (.mv (.c (.int .i64 0)))⟩]) .ret) .skip))
 (.seq
 (.reg [⟨(some 12), none, (.mv (.t 0))⟩,
   ⟨(some 13), none, (.mv (.t 1))⟩,
   ⟨(some 14), none, (.bin .quo .num (.t 12) (.t 13))⟩,
   ⟨(some 5), none, (.mv (.t 14))⟩])
 (.seq
 (.seq
 (.reg [⟨(some 15), none, (.mv (.t 0))⟩,
   ⟨(some 16), none, (.mv (.t 1))⟩,
   ⟨(some 17), none, (.bin .rem .num (.t 15) (.t 16))⟩,
   ⟨(some 18), none, (.bin .gtr .num (.t 17) (.c (.int .i64 0)))⟩])
 (.cond (.t 18)
 (.reg [⟨(some 19), none, (.mv (.t 5))⟩,
   ⟨(some 20), none, (.bin .add .num (.t 19) (.c (.int .i64 1)))⟩,
   ⟨(some 5), none, (.mv (.t 20))⟩]) .skip))
 (.seq
 (.reg [⟨(some 21), none, (.mv (.t 5))⟩,
   ⟨(some 4), none, (.mv (.t 21))⟩]) .ret))))))⟩
theorem caf12 : cFunc Try.prog Try.f12 = some af12 := by kernel_rfl
/-- (*limelight/bucket.Bucket).Wait -/
def af13 : AFunc := ⟨43, [(.tmp 4)],
 (.seq
 (.reg [⟨(some 4), none, (.mv (.c (.int .i64 0)))⟩])
 (.seq
 (.reg [⟨(some 6), none, (.mv (.t 1))⟩,
   ⟨(some 7), none, (.call 19 [(.t 6), (.c (.int .i64 1000000))])⟩,
   ⟨(some 5), none, (.mv (.t 7))⟩])
 (.seq
 (.block 0
 (.seq
 (.reg [⟨(some 9), none, (.mv (.t 1))⟩,
   ⟨(some 10), none, (.bin .lss .num (.t 9) (.c (.int .i64 0)))⟩,
   ⟨(some 11), none, (.mv (.t 10))⟩,
   ⟨(some 12), (some (11, false)), (.mv (.t 1))⟩,
   ⟨(some 13), (some (11, false)), (.mv (.t 0))⟩,
   ⟨(some 14), (some (11, false)), (.nilCheck (.t 13))⟩,
   ⟨(some 15), (some (11, false)), (.fieldAddr 1 1 (.t 14))⟩,
   ⟨(some 16), (some (11, false)), (.load1 (.t 15))⟩,
   ⟨(some 17), (some (11, false)), (.bin .gtr .num (.t 12) (.t 16))⟩,
   ⟨(some 18), none, (.pick (.t 11) (.c (.bool true)) (.t 17))⟩,
   ⟨(some 8), none, (.mv (.t 18))⟩])
 (.cond (.t 8)
 (.seq
 (.reg [⟨(some 4), none, (.mv (.c (.int .i64 (-1))))⟩]) .ret)
 (.seq
 (.reg [⟨(some 20), none, (.mv (.t 5))⟩,
   ⟨(some 21), none, (.mv (.t 0))⟩,
   ⟨(some 22), none, (.nilCheck (.t 21))⟩,
   ⟨(some 23), none, (.fieldAddr 2 1 (.t 22))⟩,
   ⟨(some 24), none, (.load1 (.t 23))⟩,
   ⟨(some 25), none, (.bin .leq .num (.t 20) (.t 24))⟩,
   ⟨(some 19), none, (.mv (.t 25))⟩])
 (.cond (.t 19)
 (.seq
 (.reg [⟨(some 4), none, (.mv (.c (.int .i64 0)))⟩]) .ret)
 (.seq
 (.reg [⟨(some 27), none, (.mv (.t 0))⟩,
   ⟨(some 28), none, (.nilCheck (.t 27))⟩,
   ⟨(some 29), none, (.fieldAddr 0 1 (.t 28))⟩,
   ⟨(some 30), none, (.load1 (.t 29))⟩,
   ⟨(some 31), none, (.bin .eql .num (.t 30) (.c (.int .i64 0)))⟩,
   ⟨(some 26), none, (.mv (.t 31))⟩])
 (.cond (.t 26)
 (.seq
 (.reg [⟨(some 4), none, (.mv (.c (.int .i64 (-1))))⟩]) .ret) .skip)))))))
 (.seq
 (.dreg [⟨(some 32), none, (.mv (.t 5))⟩,
   ⟨(some 33), none, (.mv (.t 0))⟩,
   ⟨(some 34), none, (.nilCheck (.t 33))⟩,
   ⟨(some 35), none, (.fieldAddr 2 1 (.t 34))⟩,
   ⟨(some 36), none, (.load1 (.t 35))⟩,
   ⟨(some 37), none, (.bin .sub .num (.t 32) (.t 36))⟩,
   ⟨(some 38), none, (.mv (.t 0))⟩,
   ⟨(some 39), none, (.nilCheck (.t 38))⟩,
   ⟨(some 40), none, (.fieldAddr 0 1 (.t 39))⟩,
   ⟨(some 41), none, (.load1 (.t 40))⟩,
   ⟨(some 42), none, (.call 21 [(.t 37), (.t 41)])⟩,
   ⟨(some 4), none, (.mv (.t 42))⟩] []) .ret))))⟩
theorem caf13 : cFunc Try.prog Try.f13 = some af13 := by kernel_rfl
/-- limelight/limelightlaw10.known -/
def af14 : AFunc := ⟨67, [(.tmp 0)],
 (.seq
 (.reg [⟨(some 0), none, (.mv (.c (.bool false)))⟩])
 (.seq
 (.reg [⟨(some 6), none, (.call 8 [(.c (.int .i64 1000)), (.c (.int .i64 5))])⟩,
   ⟨(some 1), none, (.mv (.t 6))⟩])
 (.seq
 (.seq
 (.reg [⟨(some 7), none, (.mv (.t 1))⟩,
   ⟨(some 8), none, (.bin .eql .ptr (.t 7) (.c (.ptr none)))⟩])
 (.cond (.t 8)
 (.seq
 (.reg [⟨(some 0), none, (.mv (.c (.bool false)))⟩]) .ret) .skip))
 (.seq
 (.reg [⟨(some 9), none, (.mv (.t 1))⟩,
   ⟨(some 10), none, (.call 11 [(.t 9), (.c (.int .i64 6))])⟩,
   ⟨(some 11), none, (.mv (.t 1))⟩,
   ⟨(some 12), none, (.call 11 [(.t 11), (.c (.int .i64 5))])⟩,
   ⟨(some 2), none, (.mv (.t 10))⟩,
   ⟨(some 3), none, (.mv (.t 12))⟩])
 (.seq
 (.reg [⟨(some 13), none, (.mv (.t 1))⟩,
   ⟨(some 14), none, (.call 13 [(.t 13), (.c (.int .i64 2))])⟩,
   ⟨(some 4), none, (.mv (.t 14))⟩])
 (.seq
 (.reg [⟨(some 15), none, (.mv (.t 1))⟩,
   ⟨(some 16), none, (.call 10 [(.t 15), (.c (.int .i64 1999))])⟩])
 (.seq
 (.reg [⟨(some 17), none, (.mv (.t 1))⟩,
   ⟨(some 18), none, (.call 11 [(.t 17), (.c (.int .i64 2))])⟩,
   ⟨(some 5), none, (.mv (.t 18))⟩])
 (.seq
 (.reg [⟨(some 19), none, (.mv (.t 1))⟩,
   ⟨(some 20), none, (.call 10 [(.t 19), (.c (.int .i64 1))])⟩])
 (.seq
 (.reg [⟨(some 21), none, (.mv (.t 2))⟩,
   ⟨(some 22), none, (.un .not (.t 21))⟩,
   ⟨(some 23), none, (.mv (.t 22))⟩,
   ⟨(some 24), (some (23, true)), (.mv (.t 3))⟩,
   ⟨(some 25), none, (.pick (.t 23) (.t 24) (.c (.bool false)))⟩,
   ⟨(some 26), none, (.mv (.t 25))⟩,
   ⟨(some 27), (some (26, true)), (.mv (.t 4))⟩,
   ⟨(some 28), (some (26, true)), (.bin .eql .num (.t 27) (.c (.int .i64 2000)))⟩,
   ⟨(some 29), none, (.pick (.t 26) (.t 28) (.c (.bool false)))⟩,
   ⟨(some 30), none, (.mv (.t 29))⟩,
   ⟨(some 31), (some (30, true)), (.mv (.t 5))⟩,
   ⟨(some 32), (some (30, true)), (.un .not (.t 31))⟩,
   ⟨(some 33), none, (.pick (.t 30) (.t 32) (.c (.bool false)))⟩,
   ⟨(some 34), none, (.mv (.t 33))⟩,
   ⟨(some 35), (some (34, true)), (.mv (.t 1))⟩,
   ⟨(some 36), (some (34, true)), (.call 11 [(.t 35), (.c (.int .i64 2))])⟩,
   ⟨(some 37), none, (.pick (.t 34) (.t 36) (.c (.bool false)))⟩,
   ⟨(some 38), none, (.mv (.t 37))⟩,
   ⟨(some 39), (some (38, true)), (.mv (.t 1))⟩,
   ⟨(some 40), (some (38, true)), (.call 17 [(.t 39)])⟩,
   ⟨(some 41), (some (38, true)), (.bin .eql .num (.t 40) (.c (.int .i64 0)))⟩,
   ⟨(some 42), none, (.pick (.t 38) (.t 41) (.c (.bool false)))⟩,
   ⟨(some 43), none, (.mv (.t 42))⟩,
   ⟨(some 44), (some (43, true)), (.mv (.t 1))⟩,
   ⟨(some 45), (some (43, true)), (.call 13 [(.t 44), (.c (.int .i64 6))])⟩,
   ⟨(some 46), (some (43, true)), (.bin .eql .num (.t 45) (.c (.int .i64 (-1))))⟩,
   ⟨(some 47), none, (.pick (.t 43) (.t 46) (.c (.bool false)))⟩,
   ⟨(some 48), none, (.mv (.t 47))⟩,
   ⟨(some 49), (some (48, true)), (.mv (.t 1))⟩,
   ⟨(some 50), (some (48, true)), (.call 22 [(.t 49)])⟩,
   ⟨(some 51), (some (48, true)), (.bin .eql .num (.t 50) (.c (.int .i64 5)))⟩,
   ⟨(some 52), none, (.pick (.t 48) (.t 51) (.c (.bool false)))⟩,
   ⟨(some 53), none, (.mv (.t 52))⟩,
   ⟨(some 54), (some (53, true)), (.mv (.t 1))⟩,
   ⟨(some 55), (some (53, true)), (.call 11 [(.t 54), (.c (.int .i64 0))])⟩,
   ⟨(some 56), none, (.pick (.t 53) (.t 55) (.c (.bool false)))⟩,
   ⟨(some 57), none, (.mv (.t 56))⟩,
   ⟨(some 58), (some (57, true)), (.mv (.t 1))⟩,
   ⟨(some 59), (some (57, true)), (.call 11 [(.t 58), (.c (.int .i64 (-1)))])⟩,
   ⟨(some 60), (some (57, true)), (.un .not (.t 59))⟩,
   ⟨(some 61), none, (.pick (.t 57) (.t 60) (.c (.bool false)))⟩,
   ⟨(some 62), none, (.mv (.t 61))⟩,
   ⟨(some 63), (some (62, true)), (.mv (.t 1))⟩,
   ⟨(some 64), (some (62, true)), (.call 13 [(.t 63), (.c (.int .i64 (-1)))])⟩,
   ⟨(some 65), (some (62, true)), (.bin .eql .num (.t 64) (.c (.int .i64 (-1))))⟩,
   ⟨(some 66), none, (.pick (.t 62) (.t 65) (.c (.bool false)))⟩,
   ⟨(some 0), none, (.mv (.t 66))⟩]) .ret)))))))))⟩
theorem caf14 : cFunc Try.prog Try.f14 = some af14 := by kernel_rfl
def af15_l0 : AC :=
 (.seq
 (.seq
 (.reg [⟨(some 17), none, (.mv (.t 9))⟩,
   ⟨(some 18), none, (.mv (.t 2))⟩,
   ⟨(some 19), none, (.len (.t 18))⟩,
   ⟨(some 20), none, (.bin .lss .num (.t 17) (.t 19))⟩,
   ⟨(some 21), none, (.mv (.t 20))⟩,
   ⟨(some 22), (some (21, true)), (.mv (.t 9))⟩,
   ⟨(some 23), (some (21, true)), (.bin .lss .num (.t 22) (.c (.int .i64 100)))⟩,
   ⟨(some 24), none, (.pick (.t 21) (.t 23) (.c (.bool false)))⟩])
 (.cond (.t 24) .skip (.exit 0)))
 (.seq
 (.block 1
 (.seq
 (.reg [⟨(some 27), none, (.mv (.t 2))⟩,
   ⟨(some 28), none, (.mv (.t 9))⟩,
   ⟨(some 29), none, (.ixSlice 2 (.t 27) (.t 28))⟩,
   ⟨(some 30), none, (.loadN 2 (.t 29))⟩,
   ⟨(some 10), none, (.alloc [(.int .i64 0), (.int .i64 0)])⟩,
   ⟨none, none, (.store 2 (.t 10) (.t 30))⟩])
 (.seq
 (.seq
 (.reg [⟨(some 31), none, (.mv (.t 7))⟩,
   ⟨(some 32), none, (.bin .eql .ptr (.t 31) (.c (.ptr none)))⟩])
 (.cond (.t 32)
 (.seq
 (.reg [⟨(some 6), none, (.mv (.c (.bool false)))⟩]) .ret) .skip))
 (.seq
 (.seq
 (.reg [⟨(some 33), none, (.fieldAddr 0 1 (.t 10))⟩,
   ⟨(some 34), none, (.load1 (.t 33))⟩])
 (.block 2
 (.seq
 (.seq
 (.reg [⟨(some 45), none, (.bin .eql .num (.t 34) (.c (.int .i64 0)))⟩,
   ⟨(some 44), none, (.mv (.t 45))⟩])
 (.cond (.t 44) .skip
 (.reg [⟨(some 46), none, (.bin .eql .num (.t 34) (.c (.int .i64 1)))⟩,
   ⟨(some 44), none, (.mv (.t 46))⟩])))
 (.cond (.t 44)
 (.seq
 (.reg [⟨(some 47), none, (.mv (.t 7))⟩,
   ⟨(some 48), none, (.fieldAddr 1 1 (.t 10))⟩,
   ⟨(some 49), none, (.load1 (.t 48))⟩,
   ⟨(some 50), none, (.call 10 [(.t 47), (.t 49)])⟩])
 (.reg [⟨(some 51), none, (.mv (.t 8))⟩,
   ⟨(some 52), none, (.fieldAddr 1 1 (.t 10))⟩,
   ⟨(some 53), none, (.load1 (.t 52))⟩,
   ⟨(some 54), none, (.call 24 [(.t 51), (.t 53)])⟩]))
 (.seq
 (.reg [⟨(some 56), none, (.bin .eql .num (.t 34) (.c (.int .i64 5)))⟩,
   ⟨(some 55), none, (.mv (.t 56))⟩])
 (.cond (.t 55)
 (.seq
 (.reg [⟨(some 57), none, (.mv (.t 7))⟩,
   ⟨(some 58), none, (.fieldAddr 1 1 (.t 10))⟩,
   ⟨(some 59), none, (.load1 (.t 58))⟩,
   ⟨(some 60), none, (.call 16 [(.t 57), (.t 59)])⟩])
 (.reg [⟨(some 61), none, (.mv (.t 8))⟩,
   ⟨(some 62), none, (.fieldAddr 1 1 (.t 10))⟩,
   ⟨(some 63), none, (.load1 (.t 62))⟩,
   ⟨(some 64), none, (.call 25 [(.t 61), (.t 63)])⟩]))
 (.seq
 (.dreg [⟨(some 35), none, (.mv (.t 7))⟩,
   ⟨(some 36), none, (.fieldAddr 1 1 (.t 10))⟩,
   ⟨(some 37), none, (.load1 (.t 36))⟩,
   ⟨(some 38), none, (.call 11 [(.t 35), (.t 37)])⟩,
   ⟨(some 39), none, (.mv (.t 8))⟩,
   ⟨(some 40), none, (.fieldAddr 1 1 (.t 10))⟩,
   ⟨(some 41), none, (.load1 (.t 40))⟩,
   ⟨(some 42), none, (.call 26 [(.t 39), (.t 41)])⟩,
   ⟨(some 43), none, (.bin .neq .bool (.t 38) (.t 42))⟩] [(6, 3)])
 (.cond (.t 43)
 (.seq
 (.reg [⟨(some 6), none, (.mv (.c (.bool false)))⟩]) .ret) .skip))))))))
 (.seq
 (.reg [⟨(some 65), none, (.mv (.t 7))⟩,
   ⟨(some 66), none, (.mv (.t 8))⟩,
   ⟨(some 67), none, (.fieldAddr 1 1 (.t 10))⟩,
   ⟨(some 68), none, (.load1 (.t 67))⟩,
   ⟨(some 69), none, (.call 27 [(.t 65), (.t 66), (.t 68)])⟩,
   ⟨(some 70), none, (.un .not (.t 69))⟩,
   ⟨(some 71), none, (.mv (.t 70))⟩,
   ⟨(some 72), (some (71, false)), (.mv (.t 7))⟩,
   ⟨(some 73), (some (71, false)), (.mv (.t 8))⟩,
   ⟨(some 74), (some (71, false)), (.mv (.t 9))⟩,
   ⟨(some 75), (some (71, false)), (.call 27 [(.t 72), (.t 73), (.t 74)])⟩,
   ⟨(some 76), (some (71, false)), (.un .not (.t 75))⟩,
   ⟨(some 77), none, (.pick (.t 71) (.c (.bool true)) (.t 76))⟩])
 (.cond (.t 77)
 (.seq
 (.reg [⟨(some 6), none, (.mv (.c (.bool false)))⟩]) .ret) .skip))))))
 (.reg [⟨(some 25), none, (.mv (.t 9))⟩,
   ⟨(some 26), none, (.bin .add .num (.t 25) (.c (.int .i64 1)))⟩,
   ⟨(some 9), none, (.mv (.t 26))⟩])))
/-- limelight/limelightlaw10.play -/
def af15 : AFunc := ⟨91, [(.tmp 6)],
 (.seq
 (.reg [⟨(some 6), none, (.mv (.c (.bool false)))⟩])
 (.seq
 (.reg [⟨(some 11), none, (.mv (.t 0))⟩,
   ⟨(some 12), none, (.mv (.t 1))⟩,
   ⟨(some 13), none, (.call 8 [(.t 11), (.t 12)])⟩,
   ⟨(some 14), none, (.mv (.t 0))⟩,
   ⟨(some 15), none, (.mv (.t 1))⟩,
   ⟨(some 16), none, (.call 23 [(.t 14), (.t 15)])⟩,
   ⟨(some 7), none, (.mv (.t 13))⟩,
   ⟨(some 8), none, (.mv (.t 16))⟩])
 (.seq
 (.seq
 (.reg [⟨(some 9), none, (.mv (.c (.int .i64 0)))⟩])
 (.block 0
 (.loop af15_l0)))
 (.seq
 (.reg [⟨(some 78), none, (.mv (.t 7))⟩,
   ⟨(some 79), none, (.bin .neq .ptr (.t 78) (.c (.ptr none)))⟩,
   ⟨(some 80), none, (.mv (.t 79))⟩,
   ⟨(some 81), (some (80, true)), (.mv (.t 7))⟩,
   ⟨(some 82), (some (80, true)), (.mv (.t 8))⟩,
   ⟨(some 83), (some (80, true)), (.call 27 [(.t 81), (.t 82), (.c (.int .i64 1))])⟩,
   ⟨(some 84), none, (.pick (.t 80) (.t 83) (.c (.bool false)))⟩,
   ⟨(some 85), none, (.mv (.t 84))⟩,
   ⟨(some 86), (some (85, true)), (.mv (.t 7))⟩,
   ⟨(some 87), (some (85, true)), (.mv (.t 8))⟩,
   ⟨(some 88), (some (85, true)), (.mv (.t 1))⟩,
   ⟨(some 89), (some (85, true)), (.call 27 [(.t 86), (.t 87), (.t 88)])⟩,
   ⟨(some 90), none, (.pick (.t 85) (.t 89) (.c (.bool false)))⟩,
   ⟨(some 6), none, (.mv (.t 90))⟩]) .ret))))⟩
theorem caf15 : cFunc Try.prog Try.f15 = some af15 := by kernel_rfl
/-- (*limelight/bucket.Bucket).Rate -/
def af16 : AFunc := ⟨9, [],
 (.reg [⟨(some 4), none, (.mv (.t 0))⟩,
   ⟨(some 5), none, (.mv (.t 1))⟩,
   ⟨(some 6), none, (.call 18 [(.t 5)])⟩,
   ⟨(some 7), none, (.nilCheck (.t 4))⟩,
   ⟨(some 8), none, (.fieldAddr 0 1 (.t 7))⟩,
   ⟨none, none, (.store 1 (.t 8) (.t 6))⟩])⟩
theorem caf16 : cFunc Try.prog Try.f16 = some af16 := by kernel_rfl
/-- (*limelight/bucket.Bucket).Level -/
def af17 : AFunc := ⟨8, [(.tmp 2)],
 (.seq
 (.reg [⟨(some 2), none, (.mv (.c (.int .i64 0)))⟩])
 (.seq
 (.reg [⟨(some 3), none, (.mv (.t 0))⟩,
   ⟨(some 4), none, (.nilCheck (.t 3))⟩,
   ⟨(some 5), none, (.fieldAddr 2 1 (.t 4))⟩,
   ⟨(some 6), none, (.load1 (.t 5))⟩,
   ⟨(some 7), none, (.bin .quo .num (.t 6) (.c (.int .i64 1000000)))⟩,
   ⟨(some 2), none, (.mv (.t 7))⟩]) .ret))⟩
theorem caf17 : cFunc Try.prog Try.f17 = some af17 := by kernel_rfl
/-- limelight/bucket.held -/
def af18 : AFunc := ⟨6, [(.tmp 2)],
 (.seq
 (.reg [⟨(some 2), none, (.mv (.c (.int .i64 0)))⟩])
 (.seq
 (.reg [⟨(some 3), none, (.mv (.t 0))⟩,
   ⟨(some 4), none, (.mn [(.t 3), (.c (.int .i64 1099511627776))])⟩,
   ⟨(some 5), none, (.mx [(.c (.int .i64 0)), (.t 4)])⟩,
   ⟨(some 2), none, (.mv (.t 5))⟩]) .ret))⟩
theorem caf18 : cFunc Try.prog Try.f18 = some af18 := by kernel_rfl
/-- limelight/clock.Mul -/
def af19 : AFunc := ⟨20, [(.tmp 4)],
 (.seq
 (.reg [⟨(some 4), none, (.mv (.c (.int .i64 0)))⟩])
 (.seq
 (.reg [⟨(some 8), none, (.mv (.t 0))⟩,
   ⟨(some 9), none, (.call 29 [(.t 8)])⟩,
   ⟨(some 10), none, (.mv (.t 1))⟩,
   ⟨(some 11), none, (.call 29 [(.t 10)])⟩,
   ⟨(some 12), none, (.call 28 [(.t 9), (.t 11)])⟩,
   ⟨(some 7), none, (.mv (.t 12))⟩,
   ⟨(some 13), none, (.extract 0 (.t 7))⟩,
   ⟨(some 14), none, (.extract 1 (.t 7))⟩,
   ⟨(some 5), none, (.mv (.t 13))⟩,
   ⟨(some 6), none, (.mv (.t 14))⟩])
 (.seq
 (.seq
 (.reg [⟨(some 15), none, (.mv (.t 5))⟩,
   ⟨(some 16), none, (.bin .gtr .num (.t 15) (.c (.int .u64 0)))⟩])
 (.cond (.t 16)
 (.seq
 (.reg [⟨(some 4), none, (.mv (.c (.int .i64 9223372036854775807)))⟩]) .ret) .skip))
 (.seq
 (.reg [⟨(some 17), none, (.mv (.t 6))⟩,
   ⟨(some 18), none, (.mn [(.t 17), (.c (.int .u64 9223372036854775807))])⟩,
   ⟨(some 19), none, (.conv (.int .i64) (.t 18))⟩,
   ⟨(some 4), none, (.mv (.t 19))⟩]) .ret))))⟩
theorem caf19 : cFunc Try.prog Try.f19 = some af19 := by kernel_rfl
/-- limelight/clock.Add -/
def af20 : AFunc := ⟨12, [(.tmp 4)],
 (.seq
 (.reg [⟨(some 4), none, (.mv (.c (.int .i64 0)))⟩])
 (.seq
 (.reg [⟨(some 5), none, (.mv (.t 0))⟩,
   ⟨(some 6), none, (.call 29 [(.t 5)])⟩,
   ⟨(some 7), none, (.mv (.t 1))⟩,
   ⟨(some 8), none, (.call 29 [(.t 7)])⟩,
   ⟨(some 9), none, (.bin .add .num (.t 6) (.t 8))⟩,
   ⟨(some 10), none, (.mn [(.t 9), (.c (.int .u64 9223372036854775807))])⟩,
   ⟨(some 11), none, (.conv (.int .i64) (.t 10))⟩,
   ⟨(some 4), none, (.mv (.t 11))⟩]) .ret))⟩
theorem caf20 : cFunc Try.prog Try.f20 = some af20 := by kernel_rfl
/-- limelight/clock.Over -/
def af21 : AFunc := ⟨25, [(.tmp 4)],
 (.seq
 (.reg [⟨(some 4), none, (.mv (.c (.int .i64 0)))⟩])
 (.seq
 (.reg [⟨(some 8), none, (.mv (.t 0))⟩,
   ⟨(some 9), none, (.call 29 [(.t 8)])⟩,
   ⟨(some 10), none, (.mv (.t 1))⟩,
   ⟨(some 11), none, (.call 29 [(.t 10)])⟩,
   ⟨(some 5), none, (.mv (.t 9))⟩,
   ⟨(some 6), none, (.mv (.t 11))⟩])
 (.seq
 (.seq
 (.reg [⟨(some 12), none, (.mv (.t 6))⟩,
   ⟨(some 13), none, (.bin .eql .num (.t 12) (.c (.int .u64 0)))⟩])
 (.cond (.t 13)
 (.seq
 (.reg [⟨(some 4), none, (.mv (.c (.int .i64 0)))⟩]) .ret) .skip))
 (.seq
 (.reg [⟨(some 14), none, (.mv (.t 5))⟩,
   ⟨(some 15), none, (.mv (.t 6))⟩,
   ⟨(some 16), none, (.bin .quo .num (.t 14) (.t 15))⟩,
   ⟨(some 7), none, (.mv (.t 16))⟩])
 (.seq
 (.seq
 (.reg [⟨(some 17), none, (.mv (.t 5))⟩,
   ⟨(some 18), none, (.mv (.t 6))⟩,
   ⟨(some 19), none, (.bin .rem .num (.t 17) (.t 18))⟩,
   ⟨(some 20), none, (.bin .gtr .num (.t 19) (.c (.int .u64 0)))⟩])
 (.cond (.t 20)
 (.reg [⟨(some 21), none, (.mv (.t 7))⟩,
   ⟨(some 22), none, (.bin .add .num (.t 21) (.c (.int .u64 1)))⟩,
   ⟨(some 7), none, (.mv (.t 22))⟩]) .skip))
 (.seq
 (.reg [⟨(some 23), none, (.mv (.t 7))⟩,
   ⟨(some 24), none, (.conv (.int .i64) (.t 23))⟩,
   ⟨(some 4), none, (.mv (.t 24))⟩]) .ret))))))⟩
theorem caf21 : cFunc Try.prog Try.f21 = some af21 := by kernel_rfl
/-- (*limelight/bucket.Bucket).Burst -/
def af22 : AFunc := ⟨7, [(.tmp 2)],
 (.seq
 (.reg [⟨(some 2), none, (.mv (.c (.int .i64 0)))⟩])
 (.seq
 (.reg [⟨(some 3), none, (.mv (.t 0))⟩,
   ⟨(some 4), none, (.nilCheck (.t 3))⟩,
   ⟨(some 5), none, (.fieldAddr 1 1 (.t 4))⟩,
   ⟨(some 6), none, (.load1 (.t 5))⟩,
   ⟨(some 2), none, (.mv (.t 6))⟩]) .ret))⟩
theorem caf22 : cFunc Try.prog Try.f22 = some af22 := by kernel_rfl
/-- limelight/limelightref9.New -/
def af23 : AFunc := ⟨21, [(.tmp 4)],
 (.seq
 (.reg [⟨(some 4), none, (.mv (.c (.ptr none)))⟩])
 (.seq
 (.reg [⟨(some 6), none, (.mv (.t 0))⟩,
   ⟨(some 7), none, (.call 30 [(.t 6)])⟩,
   ⟨(some 8), none, (.mv (.t 1))⟩,
   ⟨(some 9), none, (.call 30 [(.t 8)])⟩,
   ⟨(some 10), none, (.build [(.int .i64 0), (.int .i64 0), (.int .i64 0)] [(0, (1, (.t 7))), (1, (1, (.t 9)))])⟩,
   ⟨(some 11), none, (.box (.t 10))⟩,
   ⟨(some 5), none, (.mv (.t 11))⟩])
 (.seq
 (.reg [⟨(some 12), none, (.mv (.t 5))⟩,
   ⟨(some 13), none, (.mv (.t 5))⟩,
   ⟨(some 14), none, (.nilCheck (.t 13))⟩,
   ⟨(some 15), none, (.fieldAddr 1 1 (.t 14))⟩,
   ⟨(some 16), none, (.load1 (.t 15))⟩,
   ⟨(some 17), none, (.bin .mul .num (.t 16) (.c (.int .i64 1000000)))⟩,
   ⟨(some 18), none, (.nilCheck (.t 12))⟩,
   ⟨(some 19), none, (.fieldAddr 2 1 (.t 18))⟩,
   ⟨none, none, (.store 1 (.t 19) (.t 17))⟩])
 (.seq
 (.reg [⟨(some 20), none, (.mv (.t 5))⟩,
   ⟨(some 4), none, (.mv (.t 20))⟩]) .ret))))⟩
theorem caf23 : cFunc Try.prog Try.f23 = some af23 := by kernel_rfl
/-- (*limelight/limelightref9.Bucket).Tick -/
def af24 : AFunc := ⟨24, [],
 (.dreg [⟨(some 4), none, (.mv (.t 0))⟩,
   ⟨(some 5), none, (.mv (.t 0))⟩,
   ⟨(some 6), none, (.nilCheck (.t 5))⟩,
   ⟨(some 7), none, (.fieldAddr 2 1 (.t 6))⟩,
   ⟨(some 8), none, (.load1 (.t 7))⟩,
   ⟨(some 9), none, (.mv (.t 0))⟩,
   ⟨(some 10), none, (.nilCheck (.t 9))⟩,
   ⟨(some 11), none, (.fieldAddr 0 1 (.t 10))⟩,
   ⟨(some 12), none, (.load1 (.t 11))⟩,
   ⟨(some 13), none, (.mv (.t 1))⟩,
   ⟨(some 14), none, (.call 32 [(.t 12), (.t 13)])⟩,
   ⟨(some 15), none, (.call 31 [(.t 8), (.t 14)])⟩,
   ⟨(some 16), none, (.mv (.t 0))⟩,
   ⟨(some 17), none, (.nilCheck (.t 16))⟩,
   ⟨(some 18), none, (.fieldAddr 1 1 (.t 17))⟩,
   ⟨(some 19), none, (.load1 (.t 18))⟩,
   ⟨(some 20), none, (.bin .mul .num (.t 19) (.c (.int .i64 1000000)))⟩,
   ⟨(some 21), none, (.mn [(.t 15), (.t 20)])⟩,
   ⟨(some 22), none, (.nilCheck (.t 4))⟩,
   ⟨(some 23), none, (.fieldAddr 2 1 (.t 22))⟩,
   ⟨none, none, (.store 1 (.t 23) (.t 21))⟩] [(4, 11), (15, 10), (15, 11)])⟩
theorem caf24 : cFunc Try.prog Try.f24 = some af24 := by kernel_rfl
/-- (*limelight/limelightref9.Bucket).Set -/
def af25 : AFunc := ⟨9, [],
 (.reg [⟨(some 4), none, (.mv (.t 0))⟩,
   ⟨(some 5), none, (.mv (.t 1))⟩,
   ⟨(some 6), none, (.call 30 [(.t 5)])⟩,
   ⟨(some 7), none, (.nilCheck (.t 4))⟩,
   ⟨(some 8), none, (.fieldAddr 0 1 (.t 7))⟩,
   ⟨none, none, (.store 1 (.t 8) (.t 6))⟩])⟩
theorem caf25 : cFunc Try.prog Try.f25 = some af25 := by kernel_rfl
/-- (*limelight/limelightref9.Bucket).Take -/
def af26 : AFunc := ⟨26, [(.tmp 4)],
 (.seq
 (.reg [⟨(some 4), none, (.mv (.c (.bool false)))⟩])
 (.seq
 (.seq
 (.reg [⟨(some 5), none, (.mv (.t 1))⟩,
   ⟨(some 6), none, (.bin .lss .num (.t 5) (.c (.int .i64 0)))⟩,
   ⟨(some 7), none, (.mv (.t 6))⟩,
   ⟨(some 8), (some (7, false)), (.mv (.t 1))⟩,
   ⟨(some 9), (some (7, false)), (.mv (.t 0))⟩,
   ⟨(some 10), (some (7, false)), (.nilCheck (.t 9))⟩,
   ⟨(some 11), (some (7, false)), (.fieldAddr 2 1 (.t 10))⟩,
   ⟨(some 12), (some (7, false)), (.load1 (.t 11))⟩,
   ⟨(some 13), (some (7, false)), (.bin .quo .num (.t 12) (.c (.int .i64 1000000)))⟩,
   ⟨(some 14), (some (7, false)), (.bin .gtr .num (.t 8) (.t 13))⟩,
   ⟨(some 15), none, (.pick (.t 7) (.c (.bool true)) (.t 14))⟩])
 (.cond (.t 15)
 (.seq
 (.reg [⟨(some 4), none, (.mv (.c (.bool false)))⟩]) .ret) .skip))
 (.seq
 (.reg [⟨(some 16), none, (.mv (.t 0))⟩,
   ⟨(some 17), none, (.mv (.t 0))⟩,
   ⟨(some 18), none, (.nilCheck (.t 17))⟩,
   ⟨(some 19), none, (.fieldAddr 2 1 (.t 18))⟩,
   ⟨(some 20), none, (.load1 (.t 19))⟩,
   ⟨(some 21), none, (.mv (.t 1))⟩,
   ⟨(some 22), none, (.bin .mul .num (.t 21) (.c (.int .i64 1000000)))⟩,
   ⟨(some 23), none, (.bin .sub .num (.t 20) (.t 22))⟩,
   ⟨(some 24), none, (.nilCheck (.t 16))⟩,
   ⟨(some 25), none, (.fieldAddr 2 1 (.t 24))⟩,
   ⟨none, none, (.store 1 (.t 25) (.t 23))⟩])
 (.seq
 (.reg [⟨(some 4), none, (.mv (.c (.bool true)))⟩]) .ret))))⟩
theorem caf26 : cFunc Try.prog Try.f26 = some af26 := by kernel_rfl
/-- limelight/limelightlaw10.same -/
def af27 : AFunc := ⟨33, [(.tmp 6)],
 (.seq
 (.reg [⟨(some 6), none, (.mv (.c (.bool false)))⟩])
 (.seq
 (.dreg [⟨(some 7), none, (.mv (.t 0))⟩,
   ⟨(some 8), none, (.call 17 [(.t 7)])⟩,
   ⟨(some 9), none, (.mv (.t 1))⟩,
   ⟨(some 10), none, (.nilCheck (.t 9))⟩,
   ⟨(some 11), none, (.fieldAddr 2 1 (.t 10))⟩,
   ⟨(some 12), none, (.load1 (.t 11))⟩,
   ⟨(some 13), none, (.bin .quo .num (.t 12) (.c (.int .i64 1000000)))⟩,
   ⟨(some 14), none, (.bin .eql .num (.t 8) (.t 13))⟩,
   ⟨(some 15), none, (.mv (.t 14))⟩,
   ⟨(some 16), (some (15, true)), (.mv (.t 0))⟩,
   ⟨(some 17), (some (15, true)), (.call 22 [(.t 16)])⟩,
   ⟨(some 18), (some (15, true)), (.mv (.t 1))⟩,
   ⟨(some 19), (some (15, true)), (.nilCheck (.t 18))⟩,
   ⟨(some 20), (some (15, true)), (.fieldAddr 1 1 (.t 19))⟩,
   ⟨(some 21), (some (15, true)), (.load1 (.t 20))⟩,
   ⟨(some 22), (some (15, true)), (.bin .eql .num (.t 17) (.t 21))⟩,
   ⟨(some 23), none, (.pick (.t 15) (.t 22) (.c (.bool false)))⟩,
   ⟨(some 24), none, (.mv (.t 23))⟩,
   ⟨(some 25), (some (24, true)), (.mv (.t 0))⟩,
   ⟨(some 26), (some (24, true)), (.mv (.t 2))⟩,
   ⟨(some 27), (some (24, true)), (.call 13 [(.t 25), (.t 26)])⟩,
   ⟨(some 28), (some (24, true)), (.mv (.t 1))⟩,
   ⟨(some 29), (some (24, true)), (.mv (.t 2))⟩,
   ⟨(some 30), (some (24, true)), (.call 33 [(.t 28), (.t 29)])⟩,
   ⟨(some 31), (some (24, true)), (.bin .eql .num (.t 27) (.t 30))⟩,
   ⟨(some 32), none, (.pick (.t 24) (.t 31) (.c (.bool false)))⟩,
   ⟨(some 6), none, (.mv (.t 32))⟩] [(5, 1), (14, 10)]) .ret))⟩
theorem caf27 : cFunc Try.prog Try.f27 = some af27 := by kernel_rfl
/-- math/bits.Mul64 -/
def af28 : AFunc := ⟨51, [(.tmp 4), (.tmp 5)],
 (.seq
 (.reg [⟨(some 4), none, (.mv (.c (.int .u64 0)))⟩,
   ⟨(some 5), none, (.mv (.c (.int .u64 0)))⟩])
 (.seq
 (.reg [⟨(some 14), none, (.mv (.t 0))⟩,
   ⟨(some 15), none, (.bin .and .num (.t 14) (.c (.int .u64 4294967295)))⟩,
   ⟨(some 6), none, (.mv (.t 15))⟩])
 (.seq
 (.reg [⟨(some 16), none, (.mv (.t 0))⟩,
   ⟨(some 17), none, (.bin .shr .num (.t 16) (.c (.int .u64 32)))⟩,
   ⟨(some 7), none, (.mv (.t 17))⟩])
 (.seq
 (.reg [⟨(some 18), none, (.mv (.t 1))⟩,
   ⟨(some 19), none, (.bin .and .num (.t 18) (.c (.int .u64 4294967295)))⟩,
   ⟨(some 8), none, (.mv (.t 19))⟩])
 (.seq
 (.reg [⟨(some 20), none, (.mv (.t 1))⟩,
   ⟨(some 21), none, (.bin .shr .num (.t 20) (.c (.int .u64 32)))⟩,
   ⟨(some 9), none, (.mv (.t 21))⟩])
 (.seq
 (.reg [⟨(some 22), none, (.mv (.t 6))⟩,
   ⟨(some 23), none, (.mv (.t 8))⟩,
   ⟨(some 24), none, (.bin .mul .num (.t 22) (.t 23))⟩,
   ⟨(some 10), none, (.mv (.t 24))⟩])
 (.seq
 (.reg [⟨(some 25), none, (.mv (.t 7))⟩,
   ⟨(some 26), none, (.mv (.t 8))⟩,
   ⟨(some 27), none, (.bin .mul .num (.t 25) (.t 26))⟩,
   ⟨(some 28), none, (.mv (.t 10))⟩,
   ⟨(some 29), none, (.bin .shr .num (.t 28) (.c (.int .u64 32)))⟩,
   ⟨(some 30), none, (.bin .add .num (.t 27) (.t 29))⟩,
   ⟨(some 11), none, (.mv (.t 30))⟩])
 (.seq
 (.reg [⟨(some 31), none, (.mv (.t 11))⟩,
   ⟨(some 32), none, (.bin .and .num (.t 31) (.c (.int .u64 4294967295)))⟩,
   ⟨(some 12), none, (.mv (.t 32))⟩])
 (.seq
 (.reg [⟨(some 33), none, (.mv (.t 11))⟩,
   ⟨(some 34), none, (.bin .shr .num (.t 33) (.c (.int .u64 32)))⟩,
   ⟨(some 13), none, (.mv (.t 34))⟩])
 (.seq
 (.reg [⟨(some 35), none, (.mv (.t 12))⟩,
   ⟨(some 36), none, (.mv (.t 6))⟩,
   ⟨(some 37), none, (.mv (.t 9))⟩,
   ⟨(some 38), none, (.bin .mul .num (.t 36) (.t 37))⟩,
   ⟨(some 39), none, (.bin .add .num (.t 35) (.t 38))⟩,
   ⟨(some 12), none, (.mv (.t 39))⟩])
 (.seq
 (.reg [⟨(some 40), none, (.mv (.t 7))⟩,
   ⟨(some 41), none, (.mv (.t 9))⟩,
   ⟨(some 42), none, (.bin .mul .num (.t 40) (.t 41))⟩,
   ⟨(some 43), none, (.mv (.t 13))⟩,
   ⟨(some 44), none, (.bin .add .num (.t 42) (.t 43))⟩,
   ⟨(some 45), none, (.mv (.t 12))⟩,
   ⟨(some 46), none, (.bin .shr .num (.t 45) (.c (.int .u64 32)))⟩,
   ⟨(some 47), none, (.bin .add .num (.t 44) (.t 46))⟩,
   ⟨(some 4), none, (.mv (.t 47))⟩])
 (.seq
 (.reg [⟨(some 48), none, (.mv (.t 0))⟩,
   ⟨(some 49), none, (.mv (.t 1))⟩,
   ⟨(some 50), none, (.bin .mul .num (.t 48) (.t 49))⟩,
   ⟨(some 5), none, (.mv (.t 50))⟩]) .ret))))))))))))⟩
theorem caf28 : cFunc Try.prog Try.f28 = some af28 := by kernel_rfl
/-- limelight/clock.up -/
def af29 : AFunc := ⟨6, [(.tmp 2)],
 (.seq
 (.reg [⟨(some 2), none, (.mv (.c (.int .u64 0)))⟩])
 (.seq
 (.reg [⟨(some 3), none, (.mv (.t 0))⟩,
   ⟨(some 4), none, (.mx [(.c (.int .i64 0)), (.t 3)])⟩,
   ⟨(some 5), none, (.conv (.int .u64) (.t 4))⟩,
   ⟨(some 2), none, (.mv (.t 5))⟩]) .ret))⟩
theorem caf29 : cFunc Try.prog Try.f29 = some af29 := by kernel_rfl
/-- limelight/limelightref9.held -/
def af30 : AFunc := ⟨6, [(.tmp 2)],
 (.seq
 (.reg [⟨(some 2), none, (.mv (.c (.int .i64 0)))⟩])
 (.seq
 (.reg [⟨(some 3), none, (.mv (.t 0))⟩,
   ⟨(some 4), none, (.mn [(.t 3), (.c (.int .i64 1099511627776))])⟩,
   ⟨(some 5), none, (.mx [(.t 4), (.c (.int .i64 0))])⟩,
   ⟨(some 2), none, (.mv (.t 5))⟩]) .ret))⟩
theorem caf30 : cFunc Try.prog Try.f30 = some af30 := by kernel_rfl
/-- limelight/limelightref9.Add -/
def af31 : AFunc := ⟨16, [(.tmp 4)],
 (.seq
 (.reg [⟨(some 4), none, (.mv (.c (.int .i64 0)))⟩])
 (.seq
 (.reg [⟨(some 5), none, (.mv (.t 0))⟩,
   ⟨(some 6), none, (.mx [(.t 5), (.c (.int .i64 0))])⟩,
   ⟨(some 7), none, (.mv (.t 1))⟩,
   ⟨(some 8), none, (.mx [(.t 7), (.c (.int .i64 0))])⟩,
   ⟨(some 0), none, (.mv (.t 6))⟩,
   ⟨(some 1), none, (.mv (.t 8))⟩])
 (.seq
 (.seq
 (.reg [⟨(some 9), none, (.mv (.t 0))⟩,
   ⟨(some 10), none, (.mv (.t 1))⟩,
   ⟨(some 11), none, (.bin .sub .num (.c (.int .i64 9223372036854775807)) (.t 10))⟩,
   ⟨(some 12), none, (.bin .gtr .num (.t 9) (.t 11))⟩])
 (.cond (.t 12)
 (.seq
 (.reg [⟨(some 4), none, (.mv (.c (.int .i64 9223372036854775807)))⟩]) .ret) .skip))
 (.seq
 (.reg [⟨(some 13), none, (.mv (.t 0))⟩,
   ⟨(some 14), none, (.mv (.t 1))⟩,
   ⟨(some 15), none, (.bin .add .num (.t 13) (.t 14))⟩,
   ⟨(some 4), none, (.mv (.t 15))⟩]) .ret))))⟩
theorem caf31 : cFunc Try.prog Try.f31 = some af31 := by kernel_rfl
/-- limelight/limelightref9.Mul -/
def af32 : AFunc := ⟨20, [(.tmp 4)],
 (.seq
 (.reg [⟨(some 4), none, (.mv (.c (.int .i64 0)))⟩])
 (.seq
 (.reg [⟨(some 5), none, (.mv (.t 0))⟩,
   ⟨(some 6), none, (.mx [(.t 5), (.c (.int .i64 0))])⟩,
   ⟨(some 7), none, (.mv (.t 1))⟩,
   ⟨(some 8), none, (.mx [(.t 7), (.c (.int .i64 0))])⟩,
   ⟨(some 0), none, (.mv (.t 6))⟩,
   ⟨(some 1), none, (.mv (.t 8))⟩])
 (.seq
 (.seq
 (.reg [⟨(some 9), none, (.mv (.t 0))⟩,
   ⟨(some 10), none, (.bin .gtr .num (.t 9) (.c (.int .i64 0)))⟩,
   ⟨(some 11), none, (.mv (.t 10))⟩,
   ⟨(some 12), (some (11, true)), (.mv (.t 1))⟩,
   ⟨(some 13), (some (11, true)), (.mv (.t 0))⟩,
   ⟨(some 14), (some (11, true)), (.bin .quo .num (.c (.int .i64 9223372036854775807)) (.t 13))⟩,
   ⟨(some 15), (some (11, true)), (.bin .gtr .num (.t 12) (.t 14))⟩,
   ⟨(some 16), none, (.pick (.t 11) (.t 15) (.c (.bool false)))⟩])
 (.cond (.t 16)
 (.seq
 (.reg [⟨(some 4), none, (.mv (.c (.int .i64 9223372036854775807)))⟩]) .ret) .skip))
 (.seq
 (.reg [⟨(some 17), none, (.mv (.t 0))⟩,
   ⟨(some 18), none, (.mv (.t 1))⟩,
   ⟨(some 19), none, (.bin .mul .num (.t 17) (.t 18))⟩,
   ⟨(some 4), none, (.mv (.t 19))⟩]) .ret))))⟩
theorem caf32 : cFunc Try.prog Try.f32 = some af32 := by kernel_rfl
/-- (*limelight/limelightref9.Bucket).Wait -/
def af33 : AFunc := ⟨45, [(.tmp 4)],
 (.seq
 (.reg [⟨(some 4), none, (.mv (.c (.int .i64 0)))⟩])
 (.seq
 (.seq
 (.reg [⟨(some 5), none, (.mv (.t 1))⟩,
   ⟨(some 6), none, (.bin .geq .num (.t 5) (.c (.int .i64 0)))⟩,
   ⟨(some 7), none, (.mv (.t 6))⟩,
   ⟨(some 8), (some (7, true)), (.mv (.t 1))⟩,
   ⟨(some 9), (some (7, true)), (.mv (.t 0))⟩,
   ⟨(some 10), (some (7, true)), (.nilCheck (.t 9))⟩,
   ⟨(some 11), (some (7, true)), (.fieldAddr 2 1 (.t 10))⟩,
   ⟨(some 12), (some (7, true)), (.load1 (.t 11))⟩,
   ⟨(some 13), (some (7, true)), (.bin .quo .num (.t 12) (.c (.int .i64 1000000)))⟩,
   ⟨(some 14), (some (7, true)), (.bin .leq .num (.t 8) (.t 13))⟩,
   ⟨(some 15), none, (.pick (.t 7) (.t 14) (.c (.bool false)))⟩])
 (.cond (.t 15)
 (.seq
 (.reg [⟨(some 4), none, (.mv (.c (.int .i64 0)))⟩]) .ret) .skip))
 (.seq
 (.seq
 (.reg [⟨(some 16), none, (.mv (.t 1))⟩,
   ⟨(some 17), none, (.bin .lss .num (.t 16) (.c (.int .i64 0)))⟩,
   ⟨(some 18), none, (.mv (.t 17))⟩,
   ⟨(some 19), (some (18, false)), (.mv (.t 1))⟩,
   ⟨(some 20), (some (18, false)), (.mv (.t 0))⟩,
   ⟨(some 21), (some (18, false)), (.nilCheck (.t 20))⟩,
   ⟨(some 22), (some (18, false)), (.fieldAddr 1 1 (.t 21))⟩,
   ⟨(some 23), (some (18, false)), (.load1 (.t 22))⟩,
   ⟨(some 24), (some (18, false)), (.bin .gtr .num (.t 19) (.t 23))⟩,
   ⟨(some 25), none, (.pick (.t 18) (.c (.bool true)) (.t 24))⟩,
   ⟨(some 26), none, (.mv (.t 25))⟩,
   ⟨(some 27), (some (26, false)), (.mv (.t 0))⟩,
   ⟨(some 28), (some (26, false)), (.nilCheck (.t 27))⟩,
   ⟨(some 29), (some (26, false)), (.fieldAddr 0 1 (.t 28))⟩,
   ⟨(some 30), (some (26, false)), (.load1 (.t 29))⟩,
   ⟨(some 31), (some (26, false)), (.bin .eql .num (.t 30) (.c (.int .i64 0)))⟩,
   ⟨(some 32), none, (.pick (.t 26) (.c (.bool true)) (.t 31))⟩])
 (.cond (.t 32)
 (.seq
 (.reg [⟨(some 4), none, (.mv (.c (.int .i64 (-1))))⟩]) .ret) .skip))
 (.seq
 (.dreg [⟨(some 33), none, (.mv (.t 1))⟩,
   ⟨(some 34), none, (.bin .mul .num (.t 33) (.c (.int .i64 1000000)))⟩,
   ⟨(some 35), none, (.mv (.t 0))⟩,
   ⟨(some 36), none, (.nilCheck (.t 35))⟩,
   ⟨(some 37), none, (.fieldAddr 2 1 (.t 36))⟩,
   ⟨(some 38), none, (.load1 (.t 37))⟩,
   ⟨(some 39), none, (.bin .sub .num (.t 34) (.t 38))⟩,
   ⟨(some 40), none, (.mv (.t 0))⟩,
   ⟨(some 41), none, (.nilCheck (.t 40))⟩,
   ⟨(some 42), none, (.fieldAddr 0 1 (.t 41))⟩,
   ⟨(some 43), none, (.load1 (.t 42))⟩,
   ⟨(some 44), none, (.call 12 [(.t 39), (.t 43)])⟩,
   ⟨(some 4), none, (.mv (.t 44))⟩] []) .ret))))⟩
theorem caf33 : cFunc Try.prog Try.f33 = some af33 := by kernel_rfl
def AP : Nat → Option AFunc
  | 3 => some af3
  | 4 => some af4
  | 5 => some af5
  | 6 => some af6
  | 7 => some af7
  | 8 => some af8
  | 9 => some af9
  | 10 => some af10
  | 11 => some af11
  | 12 => some af12
  | 13 => some af13
  | 14 => some af14
  | 15 => some af15
  | 16 => some af16
  | 17 => some af17
  | 18 => some af18
  | 19 => some af19
  | 20 => some af20
  | 21 => some af21
  | 22 => some af22
  | 23 => some af23
  | 24 => some af24
  | 25 => some af25
  | 26 => some af26
  | 27 => some af27
  | 28 => some af28
  | 29 => some af29
  | 30 => some af30
  | 31 => some af31
  | 32 => some af32
  | 33 => some af33
  | _ => none
theorem apOk : APOk Try.prog AP := by
  intro f af h
  unfold AP at h
  split at h
  · cases h; exact ⟨_, Try.func3, caf3⟩
  · cases h; exact ⟨_, Try.func4, caf4⟩
  · cases h; exact ⟨_, Try.func5, caf5⟩
  · cases h; exact ⟨_, Try.func6, caf6⟩
  · cases h; exact ⟨_, Try.func7, caf7⟩
  · cases h; exact ⟨_, Try.func8, caf8⟩
  · cases h; exact ⟨_, Try.func9, caf9⟩
  · cases h; exact ⟨_, Try.func10, caf10⟩
  · cases h; exact ⟨_, Try.func11, caf11⟩
  · cases h; exact ⟨_, Try.func12, caf12⟩
  · cases h; exact ⟨_, Try.func13, caf13⟩
  · cases h; exact ⟨_, Try.func14, caf14⟩
  · cases h; exact ⟨_, Try.func15, caf15⟩
  · cases h; exact ⟨_, Try.func16, caf16⟩
  · cases h; exact ⟨_, Try.func17, caf17⟩
  · cases h; exact ⟨_, Try.func18, caf18⟩
  · cases h; exact ⟨_, Try.func19, caf19⟩
  · cases h; exact ⟨_, Try.func20, caf20⟩
  · cases h; exact ⟨_, Try.func21, caf21⟩
  · cases h; exact ⟨_, Try.func22, caf22⟩
  · cases h; exact ⟨_, Try.func23, caf23⟩
  · cases h; exact ⟨_, Try.func24, caf24⟩
  · cases h; exact ⟨_, Try.func25, caf25⟩
  · cases h; exact ⟨_, Try.func26, caf26⟩
  · cases h; exact ⟨_, Try.func27, caf27⟩
  · cases h; exact ⟨_, Try.func28, caf28⟩
  · cases h; exact ⟨_, Try.func29, caf29⟩
  · cases h; exact ⟨_, Try.func30, caf30⟩
  · cases h; exact ⟨_, Try.func31, caf31⟩
  · cases h; exact ⟨_, Try.func32, caf32⟩
  · cases h; exact ⟨_, Try.func33, caf33⟩
  · cases h
theorem mixed : Try.prog.follows .mixedOrders = true := by kernel_rfl
end Go.Proofs.YteeijgjibdhkeaaA
