/- The loaded functions of this seat, their types resolved: printed by a program of this claim; each is held against the loaded one. -/
import Derived.Test.YtanloaedpalblaaAeZ
import Derived.Test.YtanloaedpalblaaProg
set_option maxRecDepth 100000
namespace Go.Proofs.YtanloaedpalblaaA
open Go.RowKit
def af3_l0 : AC :=
 (.seq
 (.seq
 (.reg [⟨(some 41), none, (.mv (.t 10))⟩,
   ⟨(some 42), none, (.bin .lss .num (.t 41) (.c (.int .i64 150)))⟩])
 (.cond (.t 42) .skip (.exit 8)))
 (.seq
 (.block 9
 (.seq
 (.reg [⟨(some 45), none, (.mv (.t 9))⟩,
   ⟨(some 46), none, (.mv (.t 7))⟩,
   ⟨(some 47), none, (.mv (.t 7))⟩,
   ⟨(some 48), none, (.un .neg (.t 47))⟩,
   ⟨(some 49), none, (.buildSlice 1 [(.int .i64 0)] 10 [(0, (1, (.c (.int .i64 1)))), (1, (1, (.c (.int .i64 1)))), (2, (1, (.c (.int .i64 3)))), (3, (1, (.c (.int .i64 (-2))))), (4, (1, (.c (.int .i64 1)))), (5, (1, (.c (.int .i64 0)))), (6, (1, (.t 46))), (7, (1, (.t 48))), (8, (1, (.c (.int .i64 64)))), (9, (1, (.c (.int .i64 (-63)))))])⟩,
   ⟨(some 50), none, (.mv (.t 10))⟩,
   ⟨(some 51), none, (.mv (.t 10))⟩,
   ⟨(some 52), none, (.bin .mul .num (.t 50) (.t 51))⟩,
   ⟨(some 53), none, (.mv (.t 7))⟩,
   ⟨(some 54), none, (.bin .add .num (.t 52) (.t 53))⟩,
   ⟨(some 55), none, (.bin .rem .num (.t 54) (.c (.int .i64 10)))⟩,
   ⟨(some 56), none, (.ixSlice 1 (.t 49) (.t 55))⟩,
   ⟨(some 57), none, (.load1 (.t 56))⟩,
   ⟨(some 58), none, (.bin .add .num (.t 45) (.t 57))⟩,
   ⟨(some 9), none, (.mv (.t 58))⟩])
 (.reg [⟨(some 59), none, (.mv (.t 8))⟩,
   ⟨(some 60), none, (.mv (.t 9))⟩,
   ⟨(some 61), none, (.conv (.int .u16) (.t 60))⟩,
   ⟨(some 62), none, (.buildSlice 1 [(.int .u16 0)] 1 [(0, (1, (.t 61)))])⟩,
   ⟨(some 63), none, (.append 1 2 (.t 59) (.t 62))⟩,
   ⟨(some 8), none, (.mv (.t 63))⟩])))
 (.reg [⟨(some 43), none, (.mv (.t 10))⟩,
   ⟨(some 44), none, (.bin .add .num (.t 43) (.c (.int .i64 1)))⟩,
   ⟨(some 10), none, (.mv (.t 44))⟩])))
def af3_l1 : AC :=
 (.seq
 (.seq
 (.reg [⟨(some 37), none, (.mv (.t 7))⟩,
   ⟨(some 38), none, (.bin .lss .num (.t 37) (.c (.int .i64 60)))⟩])
 (.cond (.t 38) .skip (.exit 6)))
 (.seq
 (.block 7
 (.seq
 (.reg [⟨(some 8), none, (.mv (.c (.slice none 0 0 none)))⟩])
 (.seq
 (.reg [⟨(some 9), none, (.mv (.c (.int .i64 65400)))⟩])
 (.seq
 (.seq
 (.reg [⟨(some 10), none, (.mv (.c (.int .i64 0)))⟩])
 (.block 8
 (.loop af3_l0)))
 (.seq
 (.reg [⟨(some 64), none, (.mv (.t 8))⟩,
   ⟨(some 65), none, (.call 9 [(.t 64)])⟩,
   ⟨(some 66), none, (.un .not (.t 65))⟩])
 (.cond (.t 66)
 (.seq
 (.reg [⟨(some 0), none, (.mv (.c (.bool false)))⟩]) .ret) .skip))))))
 (.reg [⟨(some 39), none, (.mv (.t 7))⟩,
   ⟨(some 40), none, (.bin .add .num (.t 39) (.c (.int .i64 1)))⟩,
   ⟨(some 7), none, (.mv (.t 40))⟩])))
def af3_l2 : AC :=
 (.seq
 (.reg [⟨(some 26), none, (.bin .lss .num (.t 25) (.t 24))⟩])
 (.seq
 (.cond (.t 26) .skip (.exit 4))
 (.seq
 (.block 5
 (.seq
 (.reg [⟨(some 27), none, (.ixSlice 1 (.t 23) (.t 25))⟩,
   ⟨(some 28), none, (.load1 (.t 27))⟩,
   ⟨(some 6), none, (.mv (.t 28))⟩])
 (.seq
 (.reg [⟨(some 29), none, (.mv (.t 2))⟩,
   ⟨(some 30), none, (.mv (.t 4))⟩,
   ⟨(some 31), none, (.mv (.t 6))⟩,
   ⟨(some 32), none, (.call 8 [(.t 29), (.t 30), (.t 31)])⟩,
   ⟨(some 33), none, (.un .not (.t 32))⟩])
 (.cond (.t 33)
 (.seq
 (.reg [⟨(some 0), none, (.mv (.c (.bool false)))⟩]) .ret) .skip))))
 (.reg [⟨(some 34), none, (.bin .add .num (.t 25) (.c (.int .i64 1)))⟩,
   ⟨(some 25), none, (.mv (.t 34))⟩]))))
def af3_l3 : AC :=
 (.seq
 (.reg [⟨(some 20), none, (.bin .lss .num (.t 19) (.t 18))⟩])
 (.seq
 (.cond (.t 20) .skip (.exit 2))
 (.seq
 (.block 3
 (.seq
 (.reg [⟨(some 21), none, (.ixSlice 1 (.t 17) (.t 19))⟩,
   ⟨(some 22), none, (.load1 (.t 21))⟩,
   ⟨(some 4), none, (.mv (.t 22))⟩])
 (.seq
 (.reg [⟨(some 23), none, (.buildSlice 1 [(.int .u32 0)] 6 [(0, (1, (.c (.int .u32 0)))), (1, (1, (.c (.int .u32 1)))), (2, (1, (.c (.int .u32 2147483647)))), (3, (1, (.c (.int .u32 2147483648)))), (4, (1, (.c (.int .u32 2147483649)))), (5, (1, (.c (.int .u32 4294967295))))])⟩,
   ⟨(some 24), none, (.len (.t 23))⟩,
   ⟨(some 25), none, (.mv (.c (.int .i64 0)))⟩])
 (.block 4
 (.loop af3_l2)))))
 (.reg [⟨(some 35), none, (.bin .add .num (.t 19) (.c (.int .i64 1)))⟩,
   ⟨(some 19), none, (.mv (.t 35))⟩]))))
def af3_l4 : AC :=
 (.seq
 (.reg [⟨(some 14), none, (.bin .lss .num (.t 13) (.t 12))⟩])
 (.seq
 (.cond (.t 14) .skip (.exit 0))
 (.seq
 (.block 1
 (.seq
 (.reg [⟨(some 15), none, (.ixSlice 1 (.t 11) (.t 13))⟩,
   ⟨(some 16), none, (.load1 (.t 15))⟩,
   ⟨(some 2), none, (.mv (.t 16))⟩])
 (.seq
 (.reg [⟨(some 17), none, (.buildSlice 1 [(.int .u16 0)] 6 [(0, (1, (.c (.int .u16 0)))), (1, (1, (.c (.int .u16 1)))), (2, (1, (.c (.int .u16 32767)))), (3, (1, (.c (.int .u16 32768)))), (4, (1, (.c (.int .u16 32769)))), (5, (1, (.c (.int .u16 65535))))])⟩,
   ⟨(some 18), none, (.len (.t 17))⟩,
   ⟨(some 19), none, (.mv (.c (.int .i64 0)))⟩])
 (.block 2
 (.loop af3_l3)))))
 (.reg [⟨(some 36), none, (.bin .add .num (.t 13) (.c (.int .i64 1)))⟩,
   ⟨(some 13), none, (.mv (.t 36))⟩]))))
/-- limelight/limelightlaw15.SeqNumbers -/
def af3 : AFunc := ⟨75, [(.tmp 0)],
 (.seq
 (.reg [⟨(some 0), none, (.mv (.c (.bool false)))⟩])
 (.seq
 (.seq
 (.reg [⟨(some 11), none, (.buildSlice 1 [(.int .i64 0)] 16 [(0, (1, (.c (.int .i64 (-9223372036854775808))))), (1, (1, (.c (.int .i64 (-1))))), (2, (1, (.c (.int .i64 0)))), (3, (1, (.c (.int .i64 5)))), (4, (1, (.c (.int .i64 32767)))), (5, (1, (.c (.int .i64 32768)))), (6, (1, (.c (.int .i64 65535)))), (7, (1, (.c (.int .i64 65536)))), (8, (1, (.c (.int .i64 98304)))), (9, (1, (.c (.int .i64 2147483648)))), (10, (1, (.c (.int .i64 4294967295)))), (11, (1, (.c (.int .i64 4294967296)))), (12, (1, (.c (.int .i64 6442450944)))), (13, (1, (.c (.int .i64 281474976710656)))), (14, (1, (.c (.int .i64 9223372036854775807)))), (15, (1, (.c (.int .i64 9223372036854705808))))])⟩,
   ⟨(some 12), none, (.len (.t 11))⟩,
   ⟨(some 13), none, (.mv (.c (.int .i64 0)))⟩])
 (.block 0
 (.loop af3_l4)))
 (.seq
 (.seq
 (.reg [⟨(some 7), none, (.mv (.c (.int .i64 0)))⟩])
 (.block 6
 (.loop af3_l1)))
 (.seq
 (.reg [⟨(some 67), none, (.call 9 [(.c (.slice none 0 0 none))])⟩,
   ⟨(some 68), none, (.mv (.t 67))⟩,
   ⟨(some 69), (some (68, true)), (.buildSlice 1 [(.int .u16 0)] 6 [(0, (1, (.c (.int .u16 5)))), (1, (1, (.c (.int .u16 69)))), (2, (1, (.c (.int .u16 6)))), (3, (1, (.c (.int .u16 5)))), (4, (1, (.c (.int .u16 70)))), (5, (1, (.c (.int .u16 6))))])⟩,
   ⟨(some 70), (some (68, true)), (.call 9 [(.t 69)])⟩,
   ⟨(some 71), none, (.pick (.t 68) (.t 70) (.c (.bool false)))⟩,
   ⟨(some 72), none, (.mv (.t 71))⟩,
   ⟨(some 73), (some (72, true)), (.call 10 [])⟩,
   ⟨(some 74), none, (.pick (.t 72) (.t 73) (.c (.bool false)))⟩,
   ⟨(some 0), none, (.mv (.t 74))⟩]) .ret))))⟩
theorem caf3 : cFunc Try.prog Try.f3 = some af3 := by kernel_rfl
def af4_l0 : AC :=
 (.seq
 (.seq
 (.reg [⟨(some 16), none, (.mv (.t 13))⟩,
   ⟨(some 17), none, (.mv (.t 4))⟩,
   ⟨(some 18), none, (.len (.t 17))⟩,
   ⟨(some 19), none, (.bin .lss .num (.t 16) (.t 18))⟩,
   ⟨(some 20), none, (.mv (.t 19))⟩,
   ⟨(some 21), (some (20, true)), (.mv (.t 13))⟩,
   ⟨(some 22), (some (20, true)), (.bin .lss .num (.t 21) (.c (.int .i64 150)))⟩,
   ⟨(some 23), none, (.pick (.t 20) (.t 22) (.c (.bool false)))⟩])
 (.cond (.t 23) .skip (.exit 0)))
 (.seq
 (.block 1
 (.seq
 (.reg [⟨(some 26), none, (.mv (.t 12))⟩,
   ⟨(some 27), none, (.mv (.t 4))⟩,
   ⟨(some 28), none, (.mv (.t 13))⟩,
   ⟨(some 29), none, (.ixSlice 1 (.t 27) (.t 28))⟩,
   ⟨(some 30), none, (.load1 (.t 29))⟩,
   ⟨(some 31), none, (.bin .and .num (.t 30) (.c (.int .i64 15)))⟩,
   ⟨(some 32), none, (.bin .add .num (.t 26) (.t 31))⟩,
   ⟨(some 33), none, (.bin .sub .num (.t 32) (.c (.int .i64 5)))⟩,
   ⟨(some 12), none, (.mv (.t 33))⟩])
 (.reg [⟨(some 34), none, (.mv (.t 11))⟩,
   ⟨(some 35), none, (.mv (.t 12))⟩,
   ⟨(some 36), none, (.conv (.int .u16) (.t 35))⟩,
   ⟨(some 37), none, (.buildSlice 1 [(.int .u16 0)] 1 [(0, (1, (.t 36)))])⟩,
   ⟨(some 38), none, (.append 1 2 (.t 34) (.t 37))⟩,
   ⟨(some 11), none, (.mv (.t 38))⟩])))
 (.reg [⟨(some 24), none, (.mv (.t 13))⟩,
   ⟨(some 25), none, (.bin .add .num (.t 24) (.c (.int .i64 1)))⟩,
   ⟨(some 13), none, (.mv (.t 25))⟩])))
/-- limelight/limelightlaw15.SeqTells -/
def af4 : AFunc := ⟨61, [(.tmp 10)],
 (.seq
 (.reg [⟨(some 10), none, (.mv (.c (.bool false)))⟩])
 (.seq
 (.reg [⟨(some 11), none, (.mv (.c (.slice none 0 0 none)))⟩])
 (.seq
 (.reg [⟨(some 14), none, (.mv (.t 1))⟩,
   ⟨(some 15), none, (.conv (.int .i64) (.t 14))⟩,
   ⟨(some 12), none, (.mv (.t 15))⟩])
 (.seq
 (.seq
 (.reg [⟨(some 13), none, (.mv (.c (.int .i64 0)))⟩])
 (.block 0
 (.loop af4_l0)))
 (.seq
 (.reg [⟨(some 39), none, (.mv (.t 0))⟩,
   ⟨(some 40), none, (.mv (.t 1))⟩,
   ⟨(some 41), none, (.mv (.t 2))⟩,
   ⟨(some 42), none, (.call 8 [(.t 39), (.t 40), (.t 41)])⟩,
   ⟨(some 43), none, (.mv (.t 42))⟩,
   ⟨(some 44), (some (43, true)), (.mv (.t 0))⟩,
   ⟨(some 45), (some (43, true)), (.bin .and .num (.t 44) (.c (.int .i64 1099511627775)))⟩,
   ⟨(some 46), (some (43, true)), (.mv (.t 1))⟩,
   ⟨(some 47), (some (43, true)), (.mv (.t 2))⟩,
   ⟨(some 48), (some (43, true)), (.call 8 [(.t 45), (.t 46), (.t 47)])⟩,
   ⟨(some 49), none, (.pick (.t 43) (.t 48) (.c (.bool false)))⟩,
   ⟨(some 50), none, (.mv (.t 49))⟩,
   ⟨(some 51), (some (50, true)), (.mv (.t 3))⟩,
   ⟨(some 52), (some (50, true)), (.call 9 [(.t 51)])⟩,
   ⟨(some 53), none, (.pick (.t 50) (.t 52) (.c (.bool false)))⟩,
   ⟨(some 54), none, (.mv (.t 53))⟩,
   ⟨(some 55), (some (54, true)), (.mv (.t 11))⟩,
   ⟨(some 56), (some (54, true)), (.call 9 [(.t 55)])⟩,
   ⟨(some 57), none, (.pick (.t 54) (.t 56) (.c (.bool false)))⟩,
   ⟨(some 58), none, (.mv (.t 57))⟩,
   ⟨(some 59), (some (58, true)), (.call 10 [])⟩,
   ⟨(some 60), none, (.pick (.t 58) (.t 59) (.c (.bool false)))⟩,
   ⟨(some 10), none, (.mv (.t 60))⟩]) .ret)))))⟩
theorem caf4 : cFunc Try.prog Try.f4 = some af4 := by kernel_rfl
/-- limelight/limelightlaw15.SeqNear -/
def af5 : AFunc := ⟨66, [(.tmp 4)],
 (.seq
 (.reg [⟨(some 4), none, (.mv (.c (.bool false)))⟩])
 (.seq
 (.reg [⟨(some 8), none, (.mv (.t 0))⟩,
   ⟨(some 9), none, (.bin .and .num (.t 8) (.c (.int .i64 1125899906842623)))⟩,
   ⟨(some 5), none, (.mv (.t 9))⟩])
 (.seq
 (.reg [⟨(some 10), none, (.mv (.t 5))⟩,
   ⟨(some 11), none, (.mv (.t 1))⟩,
   ⟨(some 12), none, (.bin .rem .num (.t 11) (.c (.int .i64 32767)))⟩,
   ⟨(some 13), none, (.bin .add .num (.t 10) (.t 12))⟩,
   ⟨(some 6), none, (.mv (.t 13))⟩])
 (.seq
 (.reg [⟨(some 14), none, (.mv (.t 5))⟩,
   ⟨(some 15), none, (.mv (.t 1))⟩,
   ⟨(some 16), none, (.bin .rem .num (.t 15) (.c (.int .i64 2147483647)))⟩,
   ⟨(some 17), none, (.bin .add .num (.t 14) (.t 16))⟩,
   ⟨(some 7), none, (.mv (.t 17))⟩])
 (.seq
 (.seq
 (.reg [⟨(some 18), none, (.mv (.t 6))⟩,
   ⟨(some 19), none, (.bin .lss .num (.t 18) (.c (.int .i64 0)))⟩,
   ⟨(some 20), none, (.mv (.t 19))⟩,
   ⟨(some 21), (some (20, false)), (.mv (.t 7))⟩,
   ⟨(some 22), (some (20, false)), (.bin .lss .num (.t 21) (.c (.int .i64 0)))⟩,
   ⟨(some 23), none, (.pick (.t 20) (.c (.bool true)) (.t 22))⟩])
 (.cond (.t 23)
 (.seq
 (.reg [⟨(some 24), none, (.mv (.t 5))⟩,
   ⟨(some 25), none, (.mv (.t 5))⟩,
   ⟨(some 26), none, (.conv (.int .u16) (.t 25))⟩,
   ⟨(some 27), none, (.call 11 [(.t 24), (.t 26)])⟩,
   ⟨(some 28), none, (.mv (.t 5))⟩,
   ⟨(some 29), none, (.bin .eql .num (.t 27) (.t 28))⟩,
   ⟨(some 30), none, (.mv (.t 29))⟩,
   ⟨(some 31), (some (30, true)), (.call 10 [])⟩,
   ⟨(some 32), none, (.pick (.t 30) (.t 31) (.c (.bool false)))⟩,
   ⟨(some 4), none, (.mv (.t 32))⟩]) .ret) .skip))
 (.seq
 (.reg [⟨(some 33), none, (.mv (.t 5))⟩,
   ⟨(some 34), none, (.mv (.t 6))⟩,
   ⟨(some 35), none, (.conv (.int .u16) (.t 34))⟩,
   ⟨(some 36), none, (.call 11 [(.t 33), (.t 35)])⟩,
   ⟨(some 37), none, (.mv (.t 6))⟩,
   ⟨(some 38), none, (.bin .eql .num (.t 36) (.t 37))⟩,
   ⟨(some 39), none, (.mv (.t 38))⟩,
   ⟨(some 40), (some (39, true)), (.mv (.t 5))⟩,
   ⟨(some 41), (some (39, true)), (.mv (.t 7))⟩,
   ⟨(some 42), (some (39, true)), (.conv (.int .u32) (.t 41))⟩,
   ⟨(some 43), (some (39, true)), (.call 12 [(.t 40), (.t 42)])⟩,
   ⟨(some 44), (some (39, true)), (.mv (.t 7))⟩,
   ⟨(some 45), (some (39, true)), (.bin .eql .num (.t 43) (.t 44))⟩,
   ⟨(some 46), none, (.pick (.t 39) (.t 45) (.c (.bool false)))⟩,
   ⟨(some 47), none, (.mv (.t 46))⟩,
   ⟨(some 48), (some (47, true)), (.mv (.t 5))⟩,
   ⟨(some 49), (some (47, true)), (.mv (.t 5))⟩,
   ⟨(some 50), (some (47, true)), (.conv (.int .u16) (.t 49))⟩,
   ⟨(some 51), (some (47, true)), (.call 11 [(.t 48), (.t 50)])⟩,
   ⟨(some 52), (some (47, true)), (.mv (.t 5))⟩,
   ⟨(some 53), (some (47, true)), (.bin .eql .num (.t 51) (.t 52))⟩,
   ⟨(some 54), none, (.pick (.t 47) (.t 53) (.c (.bool false)))⟩,
   ⟨(some 55), none, (.mv (.t 54))⟩,
   ⟨(some 56), (some (55, true)), (.mv (.t 5))⟩,
   ⟨(some 57), (some (55, true)), (.mv (.t 5))⟩,
   ⟨(some 58), (some (55, true)), (.conv (.int .u32) (.t 57))⟩,
   ⟨(some 59), (some (55, true)), (.call 12 [(.t 56), (.t 58)])⟩,
   ⟨(some 60), (some (55, true)), (.mv (.t 5))⟩,
   ⟨(some 61), (some (55, true)), (.bin .eql .num (.t 59) (.t 60))⟩,
   ⟨(some 62), none, (.pick (.t 55) (.t 61) (.c (.bool false)))⟩,
   ⟨(some 63), none, (.mv (.t 62))⟩,
   ⟨(some 64), (some (63, true)), (.call 10 [])⟩,
   ⟨(some 65), none, (.pick (.t 63) (.t 64) (.c (.bool false)))⟩,
   ⟨(some 4), none, (.mv (.t 65))⟩]) .ret))))))⟩
theorem caf5 : cFunc Try.prog Try.f5 = some af5 := by kernel_rfl
def af6_l0 : AC :=
 (.seq
 (.seq
 (.reg [⟨(some 85), none, (.mv (.t 14))⟩,
   ⟨(some 86), none, (.mv (.t 9))⟩,
   ⟨(some 87), none, (.bin .leq .num (.t 85) (.t 86))⟩])
 (.cond (.t 87) .skip (.exit 2)))
 (.seq
 (.block 3
 (.seq
 (.reg [⟨(some 90), none, (.mv (.t 6))⟩,
   ⟨(some 91), none, (.mv (.t 14))⟩,
   ⟨(some 92), none, (.lookup .i64 .i64 false (.t 90) (.t 91))⟩,
   ⟨(some 93), none, (.bin .eql .num (.t 92) (.c (.int .i64 0)))⟩])
 (.cond (.t 93)
 (.reg [⟨(some 94), none, (.mv (.t 13))⟩,
   ⟨(some 95), none, (.bin .add .num (.t 94) (.c (.int .i64 1)))⟩,
   ⟨(some 13), none, (.mv (.t 95))⟩]) .skip)))
 (.reg [⟨(some 88), none, (.mv (.t 14))⟩,
   ⟨(some 89), none, (.bin .add .num (.t 88) (.c (.int .i64 1)))⟩,
   ⟨(some 14), none, (.mv (.t 89))⟩])))
def af6_l1 : AC :=
 (.seq
 (.seq
 (.reg [⟨(some 24), none, (.mv (.t 10))⟩,
   ⟨(some 25), none, (.mv (.t 1))⟩,
   ⟨(some 26), none, (.len (.t 25))⟩,
   ⟨(some 27), none, (.bin .lss .num (.t 24) (.t 26))⟩,
   ⟨(some 28), none, (.mv (.t 27))⟩,
   ⟨(some 29), (some (28, true)), (.mv (.t 10))⟩,
   ⟨(some 30), (some (28, true)), (.bin .lss .num (.t 29) (.c (.int .i64 100)))⟩,
   ⟨(some 31), none, (.pick (.t 28) (.t 30) (.c (.bool false)))⟩])
 (.cond (.t 31) .skip (.exit 0)))
 (.seq
 (.block 1
 (.seq
 (.seq
 (.reg [⟨(some 34), none, (.mv (.t 10))⟩,
   ⟨(some 35), none, (.bin .gtr .num (.t 34) (.c (.int .i64 0)))⟩])
 (.cond (.t 35)
 (.reg [⟨(some 36), none, (.mv (.t 8))⟩,
   ⟨(some 37), none, (.mv (.t 1))⟩,
   ⟨(some 38), none, (.mv (.t 10))⟩,
   ⟨(some 39), none, (.ixSlice 1 (.t 37) (.t 38))⟩,
   ⟨(some 40), none, (.load1 (.t 39))⟩,
   ⟨(some 41), none, (.bin .and .num (.t 40) (.c (.int .i64 7)))⟩,
   ⟨(some 42), none, (.bin .add .num (.t 36) (.t 41))⟩,
   ⟨(some 43), none, (.bin .sub .num (.t 42) (.c (.int .i64 2)))⟩,
   ⟨(some 8), none, (.mv (.t 43))⟩]) .skip))
 (.seq
 (.reg [⟨(some 45), none, (.mv (.t 5))⟩,
   ⟨(some 46), none, (.mv (.t 8))⟩,
   ⟨(some 47), none, (.conv (.int .u16) (.t 46))⟩,
   ⟨(some 48), none, (.call 14 [(.t 45), (.t 47)])⟩,
   ⟨(some 44), none, (.mv (.t 48))⟩,
   ⟨(some 49), none, (.extract 0 (.t 44))⟩,
   ⟨(some 50), none, (.extract 1 (.t 44))⟩,
   ⟨(some 11), none, (.mv (.t 49))⟩,
   ⟨(some 12), none, (.mv (.t 50))⟩])
 (.seq
 (.seq
 (.reg [⟨(some 51), none, (.mv (.t 11))⟩,
   ⟨(some 52), none, (.mv (.t 8))⟩,
   ⟨(some 53), none, (.bin .neq .num (.t 51) (.t 52))⟩,
   ⟨(some 54), none, (.mv (.t 53))⟩,
   ⟨(some 55), (some (54, false)), (.mv (.t 12))⟩,
   ⟨(some 56), (some (54, false)), (.mv (.t 6))⟩,
   ⟨(some 57), (some (54, false)), (.mv (.t 11))⟩,
   ⟨(some 58), (some (54, false)), (.lookup .i64 .i64 false (.t 56) (.t 57))⟩,
   ⟨(some 59), (some (54, false)), (.bin .eql .num (.t 58) (.c (.int .i64 0)))⟩,
   ⟨(some 60), (some (54, false)), (.mv (.t 59))⟩,
   ⟨(some 61), (some (60, true)), (.mv (.t 11))⟩,
   ⟨(some 62), (some (60, true)), (.mv (.t 9))⟩,
   ⟨(some 63), (some (60, true)), (.bin .sub .num (.t 62) (.c (.int .i64 64)))⟩,
   ⟨(some 64), (some (60, true)), (.bin .gtr .num (.t 61) (.t 63))⟩,
   ⟨(some 65), (some (54, false)), (.pick (.t 60) (.t 64) (.c (.bool false)))⟩,
   ⟨(some 66), (some (54, false)), (.bin .neq .bool (.t 55) (.t 65))⟩,
   ⟨(some 67), none, (.pick (.t 54) (.c (.bool true)) (.t 66))⟩])
 (.cond (.t 67)
 (.seq
 (.reg [⟨(some 4), none, (.mv (.c (.bool false)))⟩]) .ret) .skip))
 (.seq
 (.reg [⟨(some 68), none, (.mv (.t 12))⟩])
 (.cond (.t 68)
 (.seq
 (.reg [⟨(some 69), none, (.mv (.t 6))⟩,
   ⟨(some 70), none, (.mv (.t 11))⟩,
   ⟨(some 71), none, (.lookup .i64 .i64 false (.t 69) (.t 70))⟩,
   ⟨(some 72), none, (.bin .add .num (.t 71) (.c (.int .i64 1)))⟩,
   ⟨none, none, (.mapSet .i64 .i64 (.t 69) (.t 70) (.t 72))⟩])
 (.reg [⟨(some 73), none, (.mv (.t 9))⟩,
   ⟨(some 74), none, (.mv (.t 11))⟩,
   ⟨(some 75), none, (.mx [(.t 73), (.t 74)])⟩,
   ⟨(some 9), none, (.mv (.t 75))⟩])) .skip))))))
 (.reg [⟨(some 32), none, (.mv (.t 10))⟩,
   ⟨(some 33), none, (.bin .add .num (.t 32) (.c (.int .i64 1)))⟩,
   ⟨(some 10), none, (.mv (.t 33))⟩])))
/-- limelight/limelightlaw15.SeqOnce -/
def af6 : AFunc := ⟨109, [(.tmp 4)],
 (.seq
 (.reg [⟨(some 4), none, (.mv (.c (.bool false)))⟩])
 (.seq
 (.reg [⟨(some 15), none, (.call 13 [])⟩,
   ⟨(some 5), none, (.mv (.t 15))⟩])
 (.seq
 (.seq
 (.reg [⟨(some 16), none, (.mv (.t 5))⟩,
   ⟨(some 17), none, (.bin .eql .ptr (.t 16) (.c (.ptr none)))⟩])
 (.cond (.t 17)
 (.seq
 (.reg [⟨(some 4), none, (.mv (.c (.bool false)))⟩]) .ret) .skip))
 (.seq
 (.reg [⟨(some 18), none, (.mkMap .i64 .i64)⟩,
   ⟨(some 6), none, (.mv (.t 18))⟩])
 (.seq
 (.reg [⟨(some 19), none, (.mv (.t 0))⟩,
   ⟨(some 20), none, (.bin .and .num (.t 19) (.c (.int .u16 16383)))⟩,
   ⟨(some 21), none, (.conv (.int .i64) (.t 20))⟩,
   ⟨(some 22), none, (.bin .add .num (.c (.int .i64 40000)) (.t 21))⟩,
   ⟨(some 7), none, (.mv (.t 22))⟩])
 (.seq
 (.reg [⟨(some 23), none, (.mv (.t 7))⟩,
   ⟨(some 8), none, (.mv (.t 23))⟩,
   ⟨(some 9), none, (.mv (.c (.int .i64 (-1))))⟩])
 (.seq
 (.seq
 (.reg [⟨(some 10), none, (.mv (.c (.int .i64 0)))⟩])
 (.block 0
 (.loop af6_l1)))
 (.seq
 (.seq
 (.reg [⟨(some 76), none, (.mv (.t 9))⟩,
   ⟨(some 77), none, (.bin .lss .num (.t 76) (.c (.int .i64 0)))⟩])
 (.cond (.t 77)
 (.seq
 (.reg [⟨(some 78), none, (.mv (.t 5))⟩,
   ⟨(some 79), none, (.call 15 [(.t 78)])⟩,
   ⟨(some 80), none, (.bin .eql .num (.t 79) (.c (.int .i64 (-1))))⟩,
   ⟨(some 81), none, (.mv (.t 80))⟩,
   ⟨(some 82), (some (81, true)), (.call 10 [])⟩,
   ⟨(some 83), none, (.pick (.t 81) (.t 82) (.c (.bool false)))⟩,
   ⟨(some 4), none, (.mv (.t 83))⟩]) .ret) .skip))
 (.seq
 (.reg [⟨(some 13), none, (.mv (.c (.int .i64 0)))⟩])
 (.seq
 (.seq
 (.reg [⟨(some 84), none, (.mv (.t 7))⟩,
   ⟨(some 14), none, (.mv (.t 84))⟩])
 (.block 2
 (.loop af6_l0)))
 (.seq
 (.reg [⟨(some 96), none, (.mv (.t 5))⟩,
   ⟨(some 97), none, (.call 15 [(.t 96)])⟩,
   ⟨(some 98), none, (.mv (.t 9))⟩,
   ⟨(some 99), none, (.bin .eql .num (.t 97) (.t 98))⟩,
   ⟨(some 100), none, (.mv (.t 99))⟩,
   ⟨(some 101), (some (100, true)), (.mv (.t 5))⟩,
   ⟨(some 102), (some (100, true)), (.call 16 [(.t 101)])⟩,
   ⟨(some 103), (some (100, true)), (.mv (.t 13))⟩,
   ⟨(some 104), (some (100, true)), (.bin .eql .num (.t 102) (.t 103))⟩,
   ⟨(some 105), none, (.pick (.t 100) (.t 104) (.c (.bool false)))⟩,
   ⟨(some 106), none, (.mv (.t 105))⟩,
   ⟨(some 107), (some (106, true)), (.call 10 [])⟩,
   ⟨(some 108), none, (.pick (.t 106) (.t 107) (.c (.bool false)))⟩,
   ⟨(some 4), none, (.mv (.t 108))⟩]) .ret)))))))))))⟩
theorem caf6 : cFunc Try.prog Try.f6 = some af6 := by kernel_rfl
def af7_l0 : AC :=
 (.seq
 (.seq
 (.reg [⟨(some 13), none, (.mv (.t 7))⟩,
   ⟨(some 14), none, (.mv (.t 1))⟩,
   ⟨(some 15), none, (.len (.t 14))⟩,
   ⟨(some 16), none, (.bin .lss .num (.t 13) (.t 15))⟩,
   ⟨(some 17), none, (.mv (.t 16))⟩,
   ⟨(some 18), (some (17, true)), (.mv (.t 7))⟩,
   ⟨(some 19), (some (17, true)), (.bin .lss .num (.t 18) (.c (.int .i64 60)))⟩,
   ⟨(some 20), none, (.pick (.t 17) (.t 19) (.c (.bool false)))⟩])
 (.cond (.t 20) .skip (.exit 0)))
 (.seq
 (.block 1
 (.seq
 (.reg [⟨(some 23), none, (.mv (.t 6))⟩,
   ⟨(some 24), none, (.mv (.t 1))⟩,
   ⟨(some 25), none, (.mv (.t 7))⟩,
   ⟨(some 26), none, (.ixSlice 1 (.t 24) (.t 25))⟩,
   ⟨(some 27), none, (.load1 (.t 26))⟩,
   ⟨(some 28), none, (.bin .and .num (.t 27) (.c (.int .u32 2147483647)))⟩,
   ⟨(some 29), none, (.conv (.int .i64) (.t 28))⟩,
   ⟨(some 30), none, (.bin .add .num (.t 23) (.t 29))⟩,
   ⟨(some 6), none, (.mv (.t 30))⟩])
 (.seq
 (.reg [⟨(some 31), none, (.mv (.t 5))⟩,
   ⟨(some 32), none, (.mv (.t 6))⟩,
   ⟨(some 33), none, (.conv (.int .u32) (.t 32))⟩,
   ⟨(some 34), none, (.call 12 [(.t 31), (.t 33)])⟩,
   ⟨(some 8), none, (.mv (.t 34))⟩])
 (.seq
 (.seq
 (.reg [⟨(some 35), none, (.mv (.t 8))⟩,
   ⟨(some 36), none, (.mv (.t 6))⟩,
   ⟨(some 37), none, (.bin .neq .num (.t 35) (.t 36))⟩])
 (.cond (.t 37)
 (.seq
 (.reg [⟨(some 4), none, (.mv (.c (.bool false)))⟩]) .ret) .skip))
 (.reg [⟨(some 38), none, (.mv (.t 8))⟩,
   ⟨(some 5), none, (.mv (.t 38))⟩])))))
 (.reg [⟨(some 21), none, (.mv (.t 7))⟩,
   ⟨(some 22), none, (.bin .add .num (.t 21) (.c (.int .i64 1)))⟩,
   ⟨(some 7), none, (.mv (.t 22))⟩])))
/-- limelight/limelightlaw15.SeqStamps -/
def af7 : AFunc := ⟨40, [(.tmp 4)],
 (.seq
 (.reg [⟨(some 4), none, (.mv (.c (.bool false)))⟩])
 (.seq
 (.reg [⟨(some 9), none, (.mv (.t 0))⟩,
   ⟨(some 10), none, (.conv (.int .i64) (.t 9))⟩,
   ⟨(some 11), none, (.mv (.t 0))⟩,
   ⟨(some 12), none, (.conv (.int .i64) (.t 11))⟩,
   ⟨(some 5), none, (.mv (.t 10))⟩,
   ⟨(some 6), none, (.mv (.t 12))⟩])
 (.seq
 (.seq
 (.reg [⟨(some 7), none, (.mv (.c (.int .i64 0)))⟩])
 (.block 0
 (.loop af7_l0)))
 (.seq
 (.reg [⟨(some 39), none, (.call 10 [])⟩,
   ⟨(some 4), none, (.mv (.t 39))⟩]) .ret))))⟩
theorem caf7 : cFunc Try.prog Try.f7 = some af7 := by kernel_rfl
/-- limelight/limelightlaw15.same -/
def af8 : AFunc := ⟨23, [(.tmp 6)],
 (.seq
 (.reg [⟨(some 6), none, (.mv (.c (.bool false)))⟩])
 (.seq
 (.reg [⟨(some 7), none, (.mv (.t 0))⟩,
   ⟨(some 8), none, (.mv (.t 1))⟩,
   ⟨(some 9), none, (.call 11 [(.t 7), (.t 8)])⟩,
   ⟨(some 10), none, (.mv (.t 0))⟩,
   ⟨(some 11), none, (.mv (.t 1))⟩,
   ⟨(some 12), none, (.call 17 [(.t 10), (.t 11)])⟩,
   ⟨(some 13), none, (.bin .eql .num (.t 9) (.t 12))⟩,
   ⟨(some 14), none, (.mv (.t 13))⟩,
   ⟨(some 15), (some (14, true)), (.mv (.t 0))⟩,
   ⟨(some 16), (some (14, true)), (.mv (.t 2))⟩,
   ⟨(some 17), (some (14, true)), (.call 12 [(.t 15), (.t 16)])⟩,
   ⟨(some 18), (some (14, true)), (.mv (.t 0))⟩,
   ⟨(some 19), (some (14, true)), (.mv (.t 2))⟩,
   ⟨(some 20), (some (14, true)), (.call 18 [(.t 18), (.t 19)])⟩,
   ⟨(some 21), (some (14, true)), (.bin .eql .num (.t 17) (.t 20))⟩,
   ⟨(some 22), none, (.pick (.t 14) (.t 21) (.c (.bool false)))⟩,
   ⟨(some 6), none, (.mv (.t 22))⟩]) .ret))⟩
theorem caf8 : cFunc Try.prog Try.f8 = some af8 := by kernel_rfl
def af9_l0 : AC :=
 (.seq
 (.seq
 (.reg [⟨(some 12), none, (.mv (.t 5))⟩,
   ⟨(some 13), none, (.mv (.t 0))⟩,
   ⟨(some 14), none, (.len (.t 13))⟩,
   ⟨(some 15), none, (.bin .lss .num (.t 12) (.t 14))⟩,
   ⟨(some 16), none, (.mv (.t 15))⟩,
   ⟨(some 17), (some (16, true)), (.mv (.t 5))⟩,
   ⟨(some 18), (some (16, true)), (.bin .lss .num (.t 17) (.c (.int .i64 200)))⟩,
   ⟨(some 19), none, (.pick (.t 16) (.t 18) (.c (.bool false)))⟩])
 (.cond (.t 19) .skip (.exit 0)))
 (.seq
 (.block 1
 (.seq
 (.seq
 (.reg [⟨(some 22), none, (.mv (.t 3))⟩,
   ⟨(some 23), none, (.bin .eql .ptr (.t 22) (.c (.ptr none)))⟩])
 (.cond (.t 23)
 (.seq
 (.reg [⟨(some 2), none, (.mv (.c (.bool false)))⟩]) .ret) .skip))
 (.seq
 (.reg [⟨(some 25), none, (.mv (.t 3))⟩,
   ⟨(some 26), none, (.mv (.t 0))⟩,
   ⟨(some 27), none, (.mv (.t 5))⟩,
   ⟨(some 28), none, (.ixSlice 1 (.t 26) (.t 27))⟩,
   ⟨(some 29), none, (.load1 (.t 28))⟩,
   ⟨(some 30), none, (.call 14 [(.t 25), (.t 29)])⟩,
   ⟨(some 24), none, (.mv (.t 30))⟩,
   ⟨(some 31), none, (.extract 0 (.t 24))⟩,
   ⟨(some 32), none, (.extract 1 (.t 24))⟩,
   ⟨(some 6), none, (.mv (.t 31))⟩,
   ⟨(some 7), none, (.mv (.t 32))⟩])
 (.seq
 (.reg [⟨(some 34), none, (.mv (.t 4))⟩,
   ⟨(some 35), none, (.mv (.t 0))⟩,
   ⟨(some 36), none, (.mv (.t 5))⟩,
   ⟨(some 37), none, (.ixSlice 1 (.t 35) (.t 36))⟩,
   ⟨(some 38), none, (.load1 (.t 37))⟩,
   ⟨(some 39), none, (.call 20 [(.t 34), (.t 38)])⟩,
   ⟨(some 33), none, (.mv (.t 39))⟩,
   ⟨(some 40), none, (.extract 0 (.t 33))⟩,
   ⟨(some 41), none, (.extract 1 (.t 33))⟩,
   ⟨(some 8), none, (.mv (.t 40))⟩,
   ⟨(some 9), none, (.mv (.t 41))⟩])
 (.seq
 (.dreg [⟨(some 42), none, (.mv (.t 6))⟩,
   ⟨(some 43), none, (.mv (.t 8))⟩,
   ⟨(some 44), none, (.bin .neq .num (.t 42) (.t 43))⟩,
   ⟨(some 45), none, (.mv (.t 44))⟩,
   ⟨(some 46), (some (45, false)), (.mv (.t 7))⟩,
   ⟨(some 47), (some (45, false)), (.mv (.t 9))⟩,
   ⟨(some 48), (some (45, false)), (.bin .neq .bool (.t 46) (.t 47))⟩,
   ⟨(some 49), none, (.pick (.t 45) (.c (.bool true)) (.t 48))⟩,
   ⟨(some 50), none, (.mv (.t 49))⟩,
   ⟨(some 51), (some (50, false)), (.mv (.t 3))⟩,
   ⟨(some 52), (some (50, false)), (.call 15 [(.t 51)])⟩,
   ⟨(some 53), (some (50, false)), (.mv (.t 4))⟩,
   ⟨(some 54), (some (50, false)), (.nilCheck (.t 53))⟩,
   ⟨(some 55), (some (50, false)), (.fieldAddr 1 1 (.t 54))⟩,
   ⟨(some 56), (some (50, false)), (.load1 (.t 55))⟩,
   ⟨(some 57), (some (50, false)), (.bin .neq .num (.t 52) (.t 56))⟩,
   ⟨(some 58), none, (.pick (.t 50) (.c (.bool true)) (.t 57))⟩,
   ⟨(some 59), none, (.mv (.t 58))⟩,
   ⟨(some 60), (some (59, false)), (.mv (.t 3))⟩,
   ⟨(some 61), (some (59, false)), (.call 16 [(.t 60)])⟩,
   ⟨(some 62), (some (59, false)), (.mv (.t 4))⟩,
   ⟨(some 63), (some (59, false)), (.call 21 [(.t 62)])⟩,
   ⟨(some 64), (some (59, false)), (.bin .neq .num (.t 61) (.t 63))⟩,
   ⟨(some 65), none, (.pick (.t 59) (.c (.bool true)) (.t 64))⟩] [(14, 10)])
 (.cond (.t 65)
 (.seq
 (.reg [⟨(some 2), none, (.mv (.c (.bool false)))⟩]) .ret) .skip))))))
 (.reg [⟨(some 20), none, (.mv (.t 5))⟩,
   ⟨(some 21), none, (.bin .add .num (.t 20) (.c (.int .i64 1)))⟩,
   ⟨(some 5), none, (.mv (.t 21))⟩])))
/-- limelight/limelightlaw15.play -/
def af9 : AFunc := ⟨84, [(.tmp 2)],
 (.seq
 (.reg [⟨(some 2), none, (.mv (.c (.bool false)))⟩])
 (.seq
 (.reg [⟨(some 10), none, (.call 13 [])⟩,
   ⟨(some 11), none, (.call 19 [])⟩,
   ⟨(some 3), none, (.mv (.t 10))⟩,
   ⟨(some 4), none, (.mv (.t 11))⟩])
 (.seq
 (.seq
 (.reg [⟨(some 5), none, (.mv (.c (.int .i64 0)))⟩])
 (.block 0
 (.loop af9_l0)))
 (.seq
 (.dreg [⟨(some 66), none, (.mv (.t 3))⟩,
   ⟨(some 67), none, (.bin .neq .ptr (.t 66) (.c (.ptr none)))⟩,
   ⟨(some 68), none, (.mv (.t 67))⟩,
   ⟨(some 69), (some (68, true)), (.mv (.t 3))⟩,
   ⟨(some 70), (some (68, true)), (.call 15 [(.t 69)])⟩,
   ⟨(some 71), (some (68, true)), (.mv (.t 4))⟩,
   ⟨(some 72), (some (68, true)), (.nilCheck (.t 71))⟩,
   ⟨(some 73), (some (68, true)), (.fieldAddr 1 1 (.t 72))⟩,
   ⟨(some 74), (some (68, true)), (.load1 (.t 73))⟩,
   ⟨(some 75), (some (68, true)), (.bin .eql .num (.t 70) (.t 74))⟩,
   ⟨(some 76), none, (.pick (.t 68) (.t 75) (.c (.bool false)))⟩,
   ⟨(some 77), none, (.mv (.t 76))⟩,
   ⟨(some 78), (some (77, true)), (.mv (.t 3))⟩,
   ⟨(some 79), (some (77, true)), (.call 16 [(.t 78)])⟩,
   ⟨(some 80), (some (77, true)), (.mv (.t 4))⟩,
   ⟨(some 81), (some (77, true)), (.call 21 [(.t 80)])⟩,
   ⟨(some 82), (some (77, true)), (.bin .eql .num (.t 79) (.t 81))⟩,
   ⟨(some 83), none, (.pick (.t 77) (.t 82) (.c (.bool false)))⟩,
   ⟨(some 2), none, (.mv (.t 83))⟩] [(8, 4)]) .ret))))⟩
theorem caf9 : cFunc Try.prog Try.f9 = some af9 := by kernel_rfl
/-- limelight/limelightlaw15.known -/
def af10 : AFunc := ⟨93, [(.tmp 0)],
 (.seq
 (.reg [⟨(some 0), none, (.mv (.c (.bool false)))⟩])
 (.seq
 (.reg [⟨(some 11), none, (.call 13 [])⟩,
   ⟨(some 1), none, (.mv (.t 11))⟩])
 (.seq
 (.seq
 (.reg [⟨(some 12), none, (.mv (.t 1))⟩,
   ⟨(some 13), none, (.bin .eql .ptr (.t 12) (.c (.ptr none)))⟩])
 (.cond (.t 13)
 (.seq
 (.reg [⟨(some 0), none, (.mv (.c (.bool false)))⟩]) .ret) .skip))
 (.seq
 (.reg [⟨(some 14), none, (.mv (.t 1))⟩,
   ⟨(some 15), none, (.call 15 [(.t 14)])⟩,
   ⟨(some 2), none, (.mv (.t 15))⟩])
 (.seq
 (.reg [⟨(some 17), none, (.mv (.t 1))⟩,
   ⟨(some 18), none, (.call 14 [(.t 17), (.c (.int .u16 65535))])⟩,
   ⟨(some 16), none, (.mv (.t 18))⟩,
   ⟨(some 19), none, (.extract 0 (.t 16))⟩,
   ⟨(some 20), none, (.extract 1 (.t 16))⟩,
   ⟨(some 3), none, (.mv (.t 19))⟩,
   ⟨(some 4), none, (.mv (.t 20))⟩])
 (.seq
 (.reg [⟨(some 22), none, (.mv (.t 1))⟩,
   ⟨(some 23), none, (.call 14 [(.t 22), (.c (.int .u16 1))])⟩,
   ⟨(some 21), none, (.mv (.t 23))⟩,
   ⟨(some 24), none, (.extract 0 (.t 21))⟩,
   ⟨(some 25), none, (.extract 1 (.t 21))⟩,
   ⟨(some 5), none, (.mv (.t 24))⟩,
   ⟨(some 6), none, (.mv (.t 25))⟩])
 (.seq
 (.reg [⟨(some 27), none, (.mv (.t 1))⟩,
   ⟨(some 28), none, (.call 14 [(.t 27), (.c (.int .u16 1))])⟩,
   ⟨(some 26), none, (.mv (.t 28))⟩,
   ⟨(some 29), none, (.extract 0 (.t 26))⟩,
   ⟨(some 30), none, (.extract 1 (.t 26))⟩,
   ⟨(some 7), none, (.mv (.t 29))⟩,
   ⟨(some 8), none, (.mv (.t 30))⟩])
 (.seq
 (.reg [⟨(some 32), none, (.mv (.t 1))⟩,
   ⟨(some 33), none, (.call 14 [(.t 32), (.c (.int .u16 0))])⟩,
   ⟨(some 31), none, (.mv (.t 33))⟩,
   ⟨(some 34), none, (.extract 0 (.t 31))⟩,
   ⟨(some 35), none, (.extract 1 (.t 31))⟩,
   ⟨(some 9), none, (.mv (.t 34))⟩,
   ⟨(some 10), none, (.mv (.t 35))⟩])
 (.seq
 (.reg [⟨(some 36), none, (.mv (.t 2))⟩,
   ⟨(some 37), none, (.bin .eql .num (.t 36) (.c (.int .i64 (-1))))⟩,
   ⟨(some 38), none, (.mv (.t 37))⟩,
   ⟨(some 39), (some (38, true)), (.call 11 [(.c (.int .i64 65535)), (.c (.int .u16 0))])⟩,
   ⟨(some 40), (some (38, true)), (.bin .eql .num (.t 39) (.c (.int .i64 65536)))⟩,
   ⟨(some 41), none, (.pick (.t 38) (.t 40) (.c (.bool false)))⟩,
   ⟨(some 42), none, (.mv (.t 41))⟩,
   ⟨(some 43), (some (42, true)), (.call 11 [(.c (.int .i64 (-1))), (.c (.int .u16 7))])⟩,
   ⟨(some 44), (some (42, true)), (.bin .eql .num (.t 43) (.c (.int .i64 7)))⟩,
   ⟨(some 45), none, (.pick (.t 42) (.t 44) (.c (.bool false)))⟩,
   ⟨(some 46), none, (.mv (.t 45))⟩,
   ⟨(some 47), (some (46, true)), (.call 11 [(.c (.int .i64 5)), (.c (.int .u16 65535))])⟩,
   ⟨(some 48), (some (46, true)), (.bin .eql .num (.t 47) (.c (.int .i64 65535)))⟩,
   ⟨(some 49), none, (.pick (.t 46) (.t 48) (.c (.bool false)))⟩,
   ⟨(some 50), none, (.mv (.t 49))⟩,
   ⟨(some 51), (some (50, true)), (.call 11 [(.c (.int .i64 70000)), (.c (.int .u16 65535))])⟩,
   ⟨(some 52), (some (50, true)), (.bin .eql .num (.t 51) (.c (.int .i64 65535)))⟩,
   ⟨(some 53), none, (.pick (.t 50) (.t 52) (.c (.bool false)))⟩,
   ⟨(some 54), none, (.mv (.t 53))⟩,
   ⟨(some 55), (some (54, true)), (.call 12 [(.c (.int .i64 4294967296)), (.c (.int .u32 4294967295))])⟩,
   ⟨(some 56), (some (54, true)), (.bin .eql .num (.t 55) (.c (.int .i64 4294967295)))⟩,
   ⟨(some 57), none, (.pick (.t 54) (.t 56) (.c (.bool false)))⟩,
   ⟨(some 58), none, (.mv (.t 57))⟩,
   ⟨(some 59), (some (58, true)), (.mv (.t 3))⟩,
   ⟨(some 60), (some (58, true)), (.bin .eql .num (.t 59) (.c (.int .i64 65535)))⟩,
   ⟨(some 61), none, (.pick (.t 58) (.t 60) (.c (.bool false)))⟩,
   ⟨(some 62), none, (.mv (.t 61))⟩,
   ⟨(some 63), (some (62, true)), (.mv (.t 4))⟩,
   ⟨(some 64), none, (.pick (.t 62) (.t 63) (.c (.bool false)))⟩,
   ⟨(some 65), none, (.mv (.t 64))⟩,
   ⟨(some 66), (some (65, true)), (.mv (.t 5))⟩,
   ⟨(some 67), (some (65, true)), (.bin .eql .num (.t 66) (.c (.int .i64 65537)))⟩,
   ⟨(some 68), none, (.pick (.t 65) (.t 67) (.c (.bool false)))⟩,
   ⟨(some 69), none, (.mv (.t 68))⟩,
   ⟨(some 70), (some (69, true)), (.mv (.t 6))⟩,
   ⟨(some 71), none, (.pick (.t 69) (.t 70) (.c (.bool false)))⟩,
   ⟨(some 72), none, (.mv (.t 71))⟩,
   ⟨(some 73), (some (72, true)), (.mv (.t 8))⟩,
   ⟨(some 74), (some (72, true)), (.un .not (.t 73))⟩,
   ⟨(some 75), none, (.pick (.t 72) (.t 74) (.c (.bool false)))⟩,
   ⟨(some 76), none, (.mv (.t 75))⟩,
   ⟨(some 77), (some (76, true)), (.mv (.t 9))⟩,
   ⟨(some 78), (some (76, true)), (.bin .eql .num (.t 77) (.c (.int .i64 65536)))⟩,
   ⟨(some 79), none, (.pick (.t 76) (.t 78) (.c (.bool false)))⟩,
   ⟨(some 80), none, (.mv (.t 79))⟩,
   ⟨(some 81), (some (80, true)), (.mv (.t 10))⟩,
   ⟨(some 82), none, (.pick (.t 80) (.t 81) (.c (.bool false)))⟩,
   ⟨(some 83), none, (.mv (.t 82))⟩,
   ⟨(some 84), (some (83, true)), (.mv (.t 1))⟩,
   ⟨(some 85), (some (83, true)), (.call 15 [(.t 84)])⟩,
   ⟨(some 86), (some (83, true)), (.bin .eql .num (.t 85) (.c (.int .i64 65537)))⟩,
   ⟨(some 87), none, (.pick (.t 83) (.t 86) (.c (.bool false)))⟩,
   ⟨(some 88), none, (.mv (.t 87))⟩,
   ⟨(some 89), (some (88, true)), (.mv (.t 1))⟩,
   ⟨(some 90), (some (88, true)), (.call 16 [(.t 89)])⟩,
   ⟨(some 91), (some (88, true)), (.bin .eql .num (.t 90) (.c (.int .i64 0)))⟩,
   ⟨(some 92), none, (.pick (.t 88) (.t 91) (.c (.bool false)))⟩,
   ⟨(some 0), none, (.mv (.t 92))⟩]) .ret)))))))))⟩
theorem caf10 : cFunc Try.prog Try.f10 = some af10 := by kernel_rfl
/-- limelight/seq.Extend -/
def af11 : AFunc := ⟨9, [(.tmp 4)],
 (.seq
 (.reg [⟨(some 4), none, (.mv (.c (.int .i64 0)))⟩])
 (.seq
 (.reg [⟨(some 5), none, (.mv (.t 0))⟩,
   ⟨(some 6), none, (.mv (.t 1))⟩,
   ⟨(some 7), none, (.conv (.int .i64) (.t 6))⟩,
   ⟨(some 8), none, (.call 22 [(.t 5), (.t 7), (.c (.int .i64 16))])⟩,
   ⟨(some 4), none, (.mv (.t 8))⟩]) .ret))⟩
theorem caf11 : cFunc Try.prog Try.f11 = some af11 := by kernel_rfl
/-- limelight/seq.Stamp -/
def af12 : AFunc := ⟨9, [(.tmp 4)],
 (.seq
 (.reg [⟨(some 4), none, (.mv (.c (.int .i64 0)))⟩])
 (.seq
 (.reg [⟨(some 5), none, (.mv (.t 0))⟩,
   ⟨(some 6), none, (.mv (.t 1))⟩,
   ⟨(some 7), none, (.conv (.int .i64) (.t 6))⟩,
   ⟨(some 8), none, (.call 22 [(.t 5), (.t 7), (.c (.int .i64 32))])⟩,
   ⟨(some 4), none, (.mv (.t 8))⟩]) .ret))⟩
theorem caf12 : cFunc Try.prog Try.f12 = some af12 := by kernel_rfl
/-- limelight/seq.New -/
def af13 : AFunc := ⟨3, [(.tmp 0)],
 (.seq
 (.reg [⟨(some 0), none, (.mv (.c (.ptr none)))⟩])
 (.seq
 (.reg [⟨(some 1), none, (.build [(.int .i64 0), (.int .i64 0), (.int .i64 0), (.int .u64 0)] [(0, (1, (.c (.int .i64 (-1))))), (1, (1, (.c (.int .i64 (-1)))))])⟩,
   ⟨(some 2), none, (.box (.t 1))⟩,
   ⟨(some 0), none, (.mv (.t 2))⟩]) .ret))⟩
theorem caf13 : cFunc Try.prog Try.f13 = some af13 := by kernel_rfl
/-- (*limelight/seq.Seen).Add -/
def af14 : AFunc := ⟨109, [(.tmp 4), (.tmp 5)],
 (.seq
 (.reg [⟨(some 4), none, (.mv (.c (.int .i64 0)))⟩,
   ⟨(some 5), none, (.mv (.c (.bool false)))⟩])
 (.seq
 (.reg [⟨(some 7), none, (.mv (.t 0))⟩,
   ⟨(some 8), none, (.nilCheck (.t 7))⟩,
   ⟨(some 9), none, (.fieldAddr 1 1 (.t 8))⟩,
   ⟨(some 10), none, (.load1 (.t 9))⟩,
   ⟨(some 11), none, (.mv (.t 1))⟩,
   ⟨(some 12), none, (.call 11 [(.t 10), (.t 11)])⟩,
   ⟨(some 6), none, (.mv (.t 12))⟩])
 (.seq
 (.block 0
 (.seq
 (.reg [⟨(some 28), none, (.mv (.t 0))⟩,
   ⟨(some 29), none, (.nilCheck (.t 28))⟩,
   ⟨(some 30), none, (.fieldAddr 1 1 (.t 29))⟩,
   ⟨(some 31), none, (.load1 (.t 30))⟩,
   ⟨(some 32), none, (.bin .lss .num (.t 31) (.c (.int .i64 0)))⟩,
   ⟨(some 27), none, (.mv (.t 32))⟩])
 (.cond (.t 27)
 (.reg [⟨(some 33), none, (.mv (.t 0))⟩,
   ⟨(some 34), none, (.mv (.t 0))⟩,
   ⟨(some 35), none, (.mv (.t 0))⟩,
   ⟨(some 36), none, (.mv (.t 6))⟩,
   ⟨(some 37), none, (.mv (.t 6))⟩,
   ⟨(some 38), none, (.nilCheck (.t 33))⟩,
   ⟨(some 39), none, (.fieldAddr 0 1 (.t 38))⟩,
   ⟨none, none, (.store 1 (.t 39) (.t 36))⟩,
   ⟨(some 40), none, (.nilCheck (.t 34))⟩,
   ⟨(some 41), none, (.fieldAddr 1 1 (.t 40))⟩,
   ⟨none, none, (.store 1 (.t 41) (.t 37))⟩,
   ⟨(some 42), none, (.nilCheck (.t 35))⟩,
   ⟨(some 43), none, (.fieldAddr 3 1 (.t 42))⟩,
   ⟨none, none, (.store 1 (.t 43) (.c (.int .u64 1)))⟩])
 (.seq
 (.reg [⟨(some 45), none, (.mv (.t 6))⟩,
   ⟨(some 46), none, (.mv (.t 0))⟩,
   ⟨(some 47), none, (.nilCheck (.t 46))⟩,
   ⟨(some 48), none, (.fieldAddr 1 1 (.t 47))⟩,
   ⟨(some 49), none, (.load1 (.t 48))⟩,
   ⟨(some 50), none, (.bin .gtr .num (.t 45) (.t 49))⟩,
   ⟨(some 44), none, (.mv (.t 50))⟩])
 (.cond (.t 44)
 (.seq
 (.dreg [⟨(some 51), none, (.mv (.t 0))⟩,
   ⟨(some 52), none, (.mv (.t 0))⟩,
   ⟨(some 53), none, (.nilCheck (.t 52))⟩,
   ⟨(some 54), none, (.fieldAddr 3 1 (.t 53))⟩,
   ⟨(some 55), none, (.load1 (.t 54))⟩,
   ⟨(some 56), none, (.mv (.t 6))⟩,
   ⟨(some 57), none, (.mv (.t 0))⟩,
   ⟨(some 58), none, (.nilCheck (.t 57))⟩,
   ⟨(some 59), none, (.fieldAddr 1 1 (.t 58))⟩,
   ⟨(some 60), none, (.load1 (.t 59))⟩,
   ⟨(some 61), none, (.bin .sub .num (.t 56) (.t 60))⟩,
   ⟨(some 62), none, (.mn [(.t 61), (.c (.int .i64 64))])⟩,
   ⟨(some 63), none, (.bin .shl .num (.t 55) (.t 62))⟩,
   ⟨(some 64), none, (.bin .or .num (.t 63) (.c (.int .u64 1)))⟩,
   ⟨(some 65), none, (.nilCheck (.t 51))⟩,
   ⟨(some 66), none, (.fieldAddr 3 1 (.t 65))⟩,
   ⟨none, none, (.store 1 (.t 66) (.t 64))⟩] [])
 (.reg [⟨(some 67), none, (.mv (.t 0))⟩,
   ⟨(some 68), none, (.mv (.t 6))⟩,
   ⟨(some 69), none, (.nilCheck (.t 67))⟩,
   ⟨(some 70), none, (.fieldAddr 1 1 (.t 69))⟩,
   ⟨none, none, (.store 1 (.t 70) (.t 68))⟩]))
 (.seq
 (.dreg [⟨(some 72), none, (.mv (.t 0))⟩,
   ⟨(some 73), none, (.nilCheck (.t 72))⟩,
   ⟨(some 74), none, (.fieldAddr 1 1 (.t 73))⟩,
   ⟨(some 75), none, (.load1 (.t 74))⟩,
   ⟨(some 76), none, (.mv (.t 6))⟩,
   ⟨(some 77), none, (.bin .sub .num (.t 75) (.t 76))⟩,
   ⟨(some 78), none, (.bin .gtr .num (.t 77) (.c (.int .i64 63)))⟩,
   ⟨(some 79), none, (.mv (.t 78))⟩,
   ⟨(some 80), (some (79, false)), (.mv (.t 0))⟩,
   ⟨(some 81), (some (79, false)), (.nilCheck (.t 80))⟩,
   ⟨(some 82), (some (79, false)), (.fieldAddr 3 1 (.t 81))⟩,
   ⟨(some 83), (some (79, false)), (.load1 (.t 82))⟩,
   ⟨(some 84), (some (79, false)), (.mv (.t 0))⟩,
   ⟨(some 85), (some (79, false)), (.nilCheck (.t 84))⟩,
   ⟨(some 86), (some (79, false)), (.fieldAddr 1 1 (.t 85))⟩,
   ⟨(some 87), (some (79, false)), (.load1 (.t 86))⟩,
   ⟨(some 88), (some (79, false)), (.mv (.t 6))⟩,
   ⟨(some 89), (some (79, false)), (.bin .sub .num (.t 87) (.t 88))⟩,
   ⟨(some 90), (some (79, false)), (.bin .shr .num (.t 83) (.t 89))⟩,
   ⟨(some 91), (some (79, false)), (.bin .and .num (.t 90) (.c (.int .u64 1)))⟩,
   ⟨(some 92), (some (79, false)), (.bin .eql .num (.t 91) (.c (.int .u64 1)))⟩,
   ⟨(some 93), none, (.pick (.t 79) (.c (.bool true)) (.t 92))⟩,
   ⟨(some 71), none, (.mv (.t 93))⟩] [])
 (.cond (.t 71)
 (.seq
 (.reg [⟨(some 94), none, (.mv (.t 6))⟩,
   ⟨(some 4), none, (.mv (.t 94))⟩,
   ⟨(some 5), none, (.mv (.c (.bool false)))⟩]) .ret)
 (.dreg [⟨(some 13), none, (.mv (.t 0))⟩,
   ⟨(some 14), none, (.nilCheck (.t 13))⟩,
   ⟨(some 15), none, (.fieldAddr 3 1 (.t 14))⟩,
   ⟨(some 16), none, (.load1 (.t 15))⟩,
   ⟨(some 17), none, (.mv (.t 0))⟩,
   ⟨(some 18), none, (.nilCheck (.t 17))⟩,
   ⟨(some 19), none, (.fieldAddr 1 1 (.t 18))⟩,
   ⟨(some 20), none, (.load1 (.t 19))⟩,
   ⟨(some 21), none, (.mv (.t 6))⟩,
   ⟨(some 22), none, (.bin .sub .num (.t 20) (.t 21))⟩,
   ⟨(some 23), none, (.bin .shl .num (.c (.int .u64 1)) (.t 22))⟩,
   ⟨(some 24), none, (.bin .or .num (.t 16) (.t 23))⟩,
   ⟨(some 25), none, (.nilCheck (.t 13))⟩,
   ⟨(some 26), none, (.fieldAddr 3 1 (.t 25))⟩,
   ⟨none, none, (.store 1 (.t 26) (.t 24))⟩] []))))))))
 (.seq
 (.seq
 (.reg [⟨(some 95), none, (.mv (.t 6))⟩,
   ⟨(some 96), none, (.mv (.t 0))⟩,
   ⟨(some 97), none, (.nilCheck (.t 96))⟩,
   ⟨(some 98), none, (.fieldAddr 0 1 (.t 97))⟩,
   ⟨(some 99), none, (.load1 (.t 98))⟩,
   ⟨(some 100), none, (.bin .geq .num (.t 95) (.t 99))⟩])
 (.cond (.t 100)
 (.reg [⟨(some 101), none, (.mv (.t 0))⟩,
   ⟨(some 102), none, (.nilCheck (.t 101))⟩,
   ⟨(some 103), none, (.fieldAddr 2 1 (.t 102))⟩,
   ⟨(some 104), none, (.load1 (.t 103))⟩,
   ⟨(some 105), none, (.bin .add .num (.t 104) (.c (.int .i64 1)))⟩,
   ⟨(some 106), none, (.nilCheck (.t 101))⟩,
   ⟨(some 107), none, (.fieldAddr 2 1 (.t 106))⟩,
   ⟨none, none, (.store 1 (.t 107) (.t 105))⟩]) .skip))
 (.seq
 (.reg [⟨(some 108), none, (.mv (.t 6))⟩,
   ⟨(some 4), none, (.mv (.t 108))⟩,
   ⟨(some 5), none, (.mv (.c (.bool true)))⟩]) .ret)))))⟩
theorem caf14 : cFunc Try.prog Try.f14 = some af14 := by kernel_rfl
/-- (*limelight/seq.Seen).Last -/
def af15 : AFunc := ⟨7, [(.tmp 2)],
 (.seq
 (.reg [⟨(some 2), none, (.mv (.c (.int .i64 0)))⟩])
 (.seq
 (.reg [⟨(some 3), none, (.mv (.t 0))⟩,
   ⟨(some 4), none, (.nilCheck (.t 3))⟩,
   ⟨(some 5), none, (.fieldAddr 1 1 (.t 4))⟩,
   ⟨(some 6), none, (.load1 (.t 5))⟩,
   ⟨(some 2), none, (.mv (.t 6))⟩]) .ret))⟩
theorem caf15 : cFunc Try.prog Try.f15 = some af15 := by kernel_rfl
/-- (*limelight/seq.Seen).Lost -/
def af16 : AFunc := ⟨23, [(.tmp 2)],
 (.seq
 (.reg [⟨(some 2), none, (.mv (.c (.int .i64 0)))⟩])
 (.seq
 (.seq
 (.reg [⟨(some 3), none, (.mv (.t 0))⟩,
   ⟨(some 4), none, (.nilCheck (.t 3))⟩,
   ⟨(some 5), none, (.fieldAddr 1 1 (.t 4))⟩,
   ⟨(some 6), none, (.load1 (.t 5))⟩,
   ⟨(some 7), none, (.bin .lss .num (.t 6) (.c (.int .i64 0)))⟩])
 (.cond (.t 7)
 (.seq
 (.reg [⟨(some 2), none, (.mv (.c (.int .i64 0)))⟩]) .ret) .skip))
 (.seq
 (.dreg [⟨(some 8), none, (.mv (.t 0))⟩,
   ⟨(some 9), none, (.nilCheck (.t 8))⟩,
   ⟨(some 10), none, (.fieldAddr 1 1 (.t 9))⟩,
   ⟨(some 11), none, (.load1 (.t 10))⟩,
   ⟨(some 12), none, (.mv (.t 0))⟩,
   ⟨(some 13), none, (.nilCheck (.t 12))⟩,
   ⟨(some 14), none, (.fieldAddr 0 1 (.t 13))⟩,
   ⟨(some 15), none, (.load1 (.t 14))⟩,
   ⟨(some 16), none, (.bin .sub .num (.t 11) (.t 15))⟩,
   ⟨(some 17), none, (.bin .add .num (.t 16) (.c (.int .i64 1)))⟩,
   ⟨(some 18), none, (.mv (.t 0))⟩,
   ⟨(some 19), none, (.nilCheck (.t 18))⟩,
   ⟨(some 20), none, (.fieldAddr 2 1 (.t 19))⟩,
   ⟨(some 21), none, (.load1 (.t 20))⟩,
   ⟨(some 22), none, (.bin .sub .num (.t 17) (.t 21))⟩,
   ⟨(some 2), none, (.mv (.t 22))⟩] []) .ret)))⟩
theorem caf16 : cFunc Try.prog Try.f16 = some af16 := by kernel_rfl
/-- limelight/limelightref15.Extend -/
def af17 : AFunc := ⟨9, [(.tmp 4)],
 (.seq
 (.reg [⟨(some 4), none, (.mv (.c (.int .i64 0)))⟩])
 (.seq
 (.reg [⟨(some 5), none, (.mv (.t 0))⟩,
   ⟨(some 6), none, (.mv (.t 1))⟩,
   ⟨(some 7), none, (.conv (.int .i64) (.t 6))⟩,
   ⟨(some 8), none, (.call 23 [(.t 5), (.t 7), (.c (.int .i64 65536))])⟩,
   ⟨(some 4), none, (.mv (.t 8))⟩]) .ret))⟩
theorem caf17 : cFunc Try.prog Try.f17 = some af17 := by kernel_rfl
/-- limelight/limelightref15.Stamp -/
def af18 : AFunc := ⟨9, [(.tmp 4)],
 (.seq
 (.reg [⟨(some 4), none, (.mv (.c (.int .i64 0)))⟩])
 (.seq
 (.reg [⟨(some 5), none, (.mv (.t 0))⟩,
   ⟨(some 6), none, (.mv (.t 1))⟩,
   ⟨(some 7), none, (.conv (.int .i64) (.t 6))⟩,
   ⟨(some 8), none, (.call 23 [(.t 5), (.t 7), (.c (.int .i64 4294967296))])⟩,
   ⟨(some 4), none, (.mv (.t 8))⟩]) .ret))⟩
theorem caf18 : cFunc Try.prog Try.f18 = some af18 := by kernel_rfl
/-- limelight/limelightref15.NewSeen -/
def af19 : AFunc := ⟨3, [(.tmp 0)],
 (.seq
 (.reg [⟨(some 0), none, (.mv (.c (.ptr none)))⟩])
 (.seq
 (.reg [⟨(some 1), none, (.build [(.int .i64 0), (.int .i64 0), (.int .u64 0), (.int .i64 0)] [(0, (1, (.c (.int .i64 (-1))))), (1, (1, (.c (.int .i64 (-1)))))])⟩,
   ⟨(some 2), none, (.box (.t 1))⟩,
   ⟨(some 0), none, (.mv (.t 2))⟩]) .ret))⟩
theorem caf19 : cFunc Try.prog Try.f19 = some af19 := by kernel_rfl
/-- (*limelight/limelightref15.Seen).Add -/
def af20 : AFunc := ⟨139, [(.tmp 4), (.tmp 5)],
 (.seq
 (.reg [⟨(some 4), none, (.mv (.c (.int .i64 0)))⟩,
   ⟨(some 5), none, (.mv (.c (.bool false)))⟩])
 (.seq
 (.reg [⟨(some 7), none, (.mv (.t 0))⟩,
   ⟨(some 8), none, (.nilCheck (.t 7))⟩,
   ⟨(some 9), none, (.fieldAddr 1 1 (.t 8))⟩,
   ⟨(some 10), none, (.load1 (.t 9))⟩,
   ⟨(some 11), none, (.mv (.t 1))⟩,
   ⟨(some 12), none, (.call 17 [(.t 10), (.t 11)])⟩,
   ⟨(some 6), none, (.mv (.t 12))⟩])
 (.seq
 (.block 0
 (.seq
 (.reg [⟨(some 42), none, (.mv (.t 0))⟩,
   ⟨(some 43), none, (.nilCheck (.t 42))⟩,
   ⟨(some 44), none, (.fieldAddr 1 1 (.t 43))⟩,
   ⟨(some 45), none, (.load1 (.t 44))⟩,
   ⟨(some 46), none, (.bin .lss .num (.t 45) (.c (.int .i64 0)))⟩,
   ⟨(some 41), none, (.mv (.t 46))⟩])
 (.cond (.t 41)
 (.reg [⟨(some 47), none, (.mv (.t 0))⟩,
   ⟨(some 48), none, (.mv (.t 0))⟩,
   ⟨(some 49), none, (.mv (.t 0))⟩,
   ⟨(some 50), none, (.mv (.t 0))⟩,
   ⟨(some 51), none, (.mv (.t 6))⟩,
   ⟨(some 52), none, (.mv (.t 6))⟩,
   ⟨(some 53), none, (.nilCheck (.t 47))⟩,
   ⟨(some 54), none, (.fieldAddr 0 1 (.t 53))⟩,
   ⟨none, none, (.store 1 (.t 54) (.t 51))⟩,
   ⟨(some 55), none, (.nilCheck (.t 48))⟩,
   ⟨(some 56), none, (.fieldAddr 1 1 (.t 55))⟩,
   ⟨none, none, (.store 1 (.t 56) (.t 52))⟩,
   ⟨(some 57), none, (.nilCheck (.t 49))⟩,
   ⟨(some 58), none, (.fieldAddr 2 1 (.t 57))⟩,
   ⟨none, none, (.store 1 (.t 58) (.c (.int .u64 1)))⟩,
   ⟨(some 59), none, (.nilCheck (.t 50))⟩,
   ⟨(some 60), none, (.fieldAddr 3 1 (.t 59))⟩,
   ⟨none, none, (.store 1 (.t 60) (.c (.int .i64 1)))⟩])
 (.seq
 (.reg [⟨(some 62), none, (.mv (.t 6))⟩,
   ⟨(some 63), none, (.mv (.t 0))⟩,
   ⟨(some 64), none, (.nilCheck (.t 63))⟩,
   ⟨(some 65), none, (.fieldAddr 1 1 (.t 64))⟩,
   ⟨(some 66), none, (.load1 (.t 65))⟩,
   ⟨(some 67), none, (.bin .gtr .num (.t 62) (.t 66))⟩,
   ⟨(some 61), none, (.mv (.t 67))⟩])
 (.cond (.t 61)
 (.seq
 (.seq
 (.reg [⟨(some 68), none, (.mv (.t 6))⟩,
   ⟨(some 69), none, (.mv (.t 0))⟩,
   ⟨(some 70), none, (.nilCheck (.t 69))⟩,
   ⟨(some 71), none, (.fieldAddr 1 1 (.t 70))⟩,
   ⟨(some 72), none, (.load1 (.t 71))⟩,
   ⟨(some 73), none, (.bin .sub .num (.t 68) (.t 72))⟩,
   ⟨(some 74), none, (.bin .gtr .num (.t 73) (.c (.int .i64 63)))⟩])
 (.cond (.t 74)
 (.reg [⟨(some 75), none, (.mv (.t 0))⟩,
   ⟨(some 76), none, (.nilCheck (.t 75))⟩,
   ⟨(some 77), none, (.fieldAddr 2 1 (.t 76))⟩,
   ⟨none, none, (.store 1 (.t 77) (.c (.int .u64 0)))⟩])
 (.dreg [⟨(some 78), none, (.mv (.t 0))⟩,
   ⟨(some 79), none, (.mv (.t 0))⟩,
   ⟨(some 80), none, (.nilCheck (.t 79))⟩,
   ⟨(some 81), none, (.fieldAddr 2 1 (.t 80))⟩,
   ⟨(some 82), none, (.load1 (.t 81))⟩,
   ⟨(some 83), none, (.mv (.t 6))⟩,
   ⟨(some 84), none, (.mv (.t 0))⟩,
   ⟨(some 85), none, (.nilCheck (.t 84))⟩,
   ⟨(some 86), none, (.fieldAddr 1 1 (.t 85))⟩,
   ⟨(some 87), none, (.load1 (.t 86))⟩,
   ⟨(some 88), none, (.bin .sub .num (.t 83) (.t 87))⟩,
   ⟨(some 89), none, (.conv (.int .u64) (.t 88))⟩,
   ⟨(some 90), none, (.bin .shl .num (.t 82) (.t 89))⟩,
   ⟨(some 91), none, (.nilCheck (.t 78))⟩,
   ⟨(some 92), none, (.fieldAddr 2 1 (.t 91))⟩,
   ⟨none, none, (.store 1 (.t 92) (.t 90))⟩] [])))
 (.dreg [⟨(some 93), none, (.mv (.t 0))⟩,
   ⟨(some 94), none, (.mv (.t 0))⟩,
   ⟨(some 95), none, (.mv (.t 0))⟩,
   ⟨(some 96), none, (.mv (.t 0))⟩,
   ⟨(some 97), none, (.nilCheck (.t 96))⟩,
   ⟨(some 98), none, (.fieldAddr 2 1 (.t 97))⟩,
   ⟨(some 99), none, (.load1 (.t 98))⟩,
   ⟨(some 100), none, (.bin .or .num (.t 99) (.c (.int .u64 1)))⟩,
   ⟨(some 101), none, (.mv (.t 6))⟩,
   ⟨(some 102), none, (.mv (.t 0))⟩,
   ⟨(some 103), none, (.nilCheck (.t 102))⟩,
   ⟨(some 104), none, (.fieldAddr 3 1 (.t 103))⟩,
   ⟨(some 105), none, (.load1 (.t 104))⟩,
   ⟨(some 106), none, (.bin .add .num (.t 105) (.c (.int .i64 1)))⟩,
   ⟨(some 107), none, (.nilCheck (.t 93))⟩,
   ⟨(some 108), none, (.fieldAddr 2 1 (.t 107))⟩,
   ⟨none, none, (.store 1 (.t 108) (.t 100))⟩,
   ⟨(some 109), none, (.nilCheck (.t 94))⟩,
   ⟨(some 110), none, (.fieldAddr 1 1 (.t 109))⟩,
   ⟨none, none, (.store 1 (.t 110) (.t 101))⟩,
   ⟨(some 111), none, (.nilCheck (.t 95))⟩,
   ⟨(some 112), none, (.fieldAddr 3 1 (.t 111))⟩,
   ⟨none, none, (.store 1 (.t 112) (.t 106))⟩] []))
 (.seq
 (.dreg [⟨(some 114), none, (.mv (.t 0))⟩,
   ⟨(some 115), none, (.nilCheck (.t 114))⟩,
   ⟨(some 116), none, (.fieldAddr 1 1 (.t 115))⟩,
   ⟨(some 117), none, (.load1 (.t 116))⟩,
   ⟨(some 118), none, (.mv (.t 6))⟩,
   ⟨(some 119), none, (.bin .sub .num (.t 117) (.t 118))⟩,
   ⟨(some 120), none, (.bin .gtr .num (.t 119) (.c (.int .i64 63)))⟩,
   ⟨(some 121), none, (.mv (.t 120))⟩,
   ⟨(some 122), (some (121, false)), (.mv (.t 0))⟩,
   ⟨(some 123), (some (121, false)), (.nilCheck (.t 122))⟩,
   ⟨(some 124), (some (121, false)), (.fieldAddr 2 1 (.t 123))⟩,
   ⟨(some 125), (some (121, false)), (.load1 (.t 124))⟩,
   ⟨(some 126), (some (121, false)), (.mv (.t 0))⟩,
   ⟨(some 127), (some (121, false)), (.nilCheck (.t 126))⟩,
   ⟨(some 128), (some (121, false)), (.fieldAddr 1 1 (.t 127))⟩,
   ⟨(some 129), (some (121, false)), (.load1 (.t 128))⟩,
   ⟨(some 130), (some (121, false)), (.mv (.t 6))⟩,
   ⟨(some 131), (some (121, false)), (.bin .sub .num (.t 129) (.t 130))⟩,
   ⟨(some 132), (some (121, false)), (.conv (.int .u64) (.t 131))⟩,
   ⟨(some 133), (some (121, false)), (.bin .shr .num (.t 125) (.t 132))⟩,
   ⟨(some 134), (some (121, false)), (.bin .and .num (.t 133) (.c (.int .u64 1)))⟩,
   ⟨(some 135), (some (121, false)), (.bin .eql .num (.t 134) (.c (.int .u64 1)))⟩,
   ⟨(some 136), none, (.pick (.t 121) (.c (.bool true)) (.t 135))⟩,
   ⟨(some 113), none, (.mv (.t 136))⟩] [])
 (.cond (.t 113)
 (.seq
 (.reg [⟨(some 137), none, (.mv (.t 6))⟩,
   ⟨(some 4), none, (.mv (.t 137))⟩,
   ⟨(some 5), none, (.mv (.c (.bool false)))⟩]) .ret)
 (.seq
 (.dreg [⟨(some 13), none, (.mv (.t 0))⟩,
   ⟨(some 14), none, (.nilCheck (.t 13))⟩,
   ⟨(some 15), none, (.fieldAddr 2 1 (.t 14))⟩,
   ⟨(some 16), none, (.load1 (.t 15))⟩,
   ⟨(some 17), none, (.mv (.t 0))⟩,
   ⟨(some 18), none, (.nilCheck (.t 17))⟩,
   ⟨(some 19), none, (.fieldAddr 1 1 (.t 18))⟩,
   ⟨(some 20), none, (.load1 (.t 19))⟩,
   ⟨(some 21), none, (.mv (.t 6))⟩,
   ⟨(some 22), none, (.bin .sub .num (.t 20) (.t 21))⟩,
   ⟨(some 23), none, (.conv (.int .u64) (.t 22))⟩,
   ⟨(some 24), none, (.bin .shl .num (.c (.int .u64 1)) (.t 23))⟩,
   ⟨(some 25), none, (.bin .or .num (.t 16) (.t 24))⟩,
   ⟨(some 26), none, (.nilCheck (.t 13))⟩,
   ⟨(some 27), none, (.fieldAddr 2 1 (.t 26))⟩,
   ⟨none, none, (.store 1 (.t 27) (.t 25))⟩] [])
 (.seq
 (.reg [⟨(some 28), none, (.mv (.t 6))⟩,
   ⟨(some 29), none, (.mv (.t 0))⟩,
   ⟨(some 30), none, (.nilCheck (.t 29))⟩,
   ⟨(some 31), none, (.fieldAddr 0 1 (.t 30))⟩,
   ⟨(some 32), none, (.load1 (.t 31))⟩,
   ⟨(some 33), none, (.bin .gtr .num (.t 28) (.t 32))⟩])
 (.cond (.t 33)
 (.reg [⟨(some 34), none, (.mv (.t 0))⟩,
   ⟨(some 35), none, (.nilCheck (.t 34))⟩,
   ⟨(some 36), none, (.fieldAddr 3 1 (.t 35))⟩,
   ⟨(some 37), none, (.load1 (.t 36))⟩,
   ⟨(some 38), none, (.bin .add .num (.t 37) (.c (.int .i64 1)))⟩,
   ⟨(some 39), none, (.nilCheck (.t 34))⟩,
   ⟨(some 40), none, (.fieldAddr 3 1 (.t 39))⟩,
   ⟨none, none, (.store 1 (.t 40) (.t 38))⟩]) .skip))))))))))
 (.seq
 (.reg [⟨(some 138), none, (.mv (.t 6))⟩,
   ⟨(some 4), none, (.mv (.t 138))⟩,
   ⟨(some 5), none, (.mv (.c (.bool true)))⟩]) .ret))))⟩
theorem caf20 : cFunc Try.prog Try.f20 = some af20 := by kernel_rfl
/-- (*limelight/limelightref15.Seen).Lost -/
def af21 : AFunc := ⟨23, [(.tmp 2)],
 (.seq
 (.reg [⟨(some 2), none, (.mv (.c (.int .i64 0)))⟩])
 (.seq
 (.seq
 (.reg [⟨(some 3), none, (.mv (.t 0))⟩,
   ⟨(some 4), none, (.nilCheck (.t 3))⟩,
   ⟨(some 5), none, (.fieldAddr 1 1 (.t 4))⟩,
   ⟨(some 6), none, (.load1 (.t 5))⟩,
   ⟨(some 7), none, (.bin .lss .num (.t 6) (.c (.int .i64 0)))⟩])
 (.cond (.t 7)
 (.seq
 (.reg [⟨(some 2), none, (.mv (.c (.int .i64 0)))⟩]) .ret) .skip))
 (.seq
 (.dreg [⟨(some 8), none, (.mv (.t 0))⟩,
   ⟨(some 9), none, (.nilCheck (.t 8))⟩,
   ⟨(some 10), none, (.fieldAddr 1 1 (.t 9))⟩,
   ⟨(some 11), none, (.load1 (.t 10))⟩,
   ⟨(some 12), none, (.mv (.t 0))⟩,
   ⟨(some 13), none, (.nilCheck (.t 12))⟩,
   ⟨(some 14), none, (.fieldAddr 0 1 (.t 13))⟩,
   ⟨(some 15), none, (.load1 (.t 14))⟩,
   ⟨(some 16), none, (.bin .sub .num (.t 11) (.t 15))⟩,
   ⟨(some 17), none, (.bin .add .num (.t 16) (.c (.int .i64 1)))⟩,
   ⟨(some 18), none, (.mv (.t 0))⟩,
   ⟨(some 19), none, (.nilCheck (.t 18))⟩,
   ⟨(some 20), none, (.fieldAddr 3 1 (.t 19))⟩,
   ⟨(some 21), none, (.load1 (.t 20))⟩,
   ⟨(some 22), none, (.bin .sub .num (.t 17) (.t 21))⟩,
   ⟨(some 2), none, (.mv (.t 22))⟩] []) .ret)))⟩
theorem caf21 : cFunc Try.prog Try.f21 = some af21 := by kernel_rfl
/-- limelight/seq.extend -/
def af22 : AFunc := ⟨46, [(.tmp 6)],
 (.seq
 (.reg [⟨(some 6), none, (.mv (.c (.int .i64 0)))⟩])
 (.seq
 (.reg [⟨(some 9), none, (.mv (.t 2))⟩,
   ⟨(some 10), none, (.bin .shl .num (.c (.int .i64 1)) (.t 9))⟩,
   ⟨(some 7), none, (.mv (.t 10))⟩])
 (.seq
 (.seq
 (.reg [⟨(some 11), none, (.mv (.t 0))⟩,
   ⟨(some 12), none, (.bin .lss .num (.t 11) (.c (.int .i64 0)))⟩])
 (.cond (.t 12)
 (.seq
 (.reg [⟨(some 13), none, (.mv (.t 1))⟩,
   ⟨(some 6), none, (.mv (.t 13))⟩]) .ret) .skip))
 (.seq
 (.reg [⟨(some 14), none, (.mv (.t 1))⟩,
   ⟨(some 15), none, (.mv (.t 0))⟩,
   ⟨(some 16), none, (.mv (.t 7))⟩,
   ⟨(some 17), none, (.bin .sub .num (.t 16) (.c (.int .i64 1)))⟩,
   ⟨(some 18), none, (.bin .and .num (.t 15) (.t 17))⟩,
   ⟨(some 19), none, (.bin .sub .num (.t 14) (.t 18))⟩,
   ⟨(some 20), none, (.mv (.t 7))⟩,
   ⟨(some 21), none, (.bin .add .num (.t 19) (.t 20))⟩,
   ⟨(some 22), none, (.mv (.t 7))⟩,
   ⟨(some 23), none, (.bin .sub .num (.t 22) (.c (.int .i64 1)))⟩,
   ⟨(some 24), none, (.bin .and .num (.t 21) (.t 23))⟩,
   ⟨(some 8), none, (.mv (.t 24))⟩])
 (.seq
 (.seq
 (.reg [⟨(some 25), none, (.mv (.t 8))⟩,
   ⟨(some 26), none, (.mv (.t 7))⟩,
   ⟨(some 27), none, (.bin .quo .num (.t 26) (.c (.int .i64 2)))⟩,
   ⟨(some 28), none, (.bin .gtr .num (.t 25) (.t 27))⟩,
   ⟨(some 29), none, (.mv (.t 28))⟩,
   ⟨(some 30), (some (29, false)), (.mv (.t 0))⟩,
   ⟨(some 31), (some (29, false)), (.mv (.t 8))⟩,
   ⟨(some 32), (some (29, false)), (.bin .sub .num (.c (.int .i64 9223372036854775807)) (.t 31))⟩,
   ⟨(some 33), (some (29, false)), (.bin .gtr .num (.t 30) (.t 32))⟩,
   ⟨(some 34), none, (.pick (.t 29) (.c (.bool true)) (.t 33))⟩])
 (.cond (.t 34)
 (.reg [⟨(some 35), none, (.mv (.t 8))⟩,
   ⟨(some 36), none, (.mv (.t 7))⟩,
   ⟨(some 37), none, (.bin .sub .num (.t 35) (.t 36))⟩,
   ⟨(some 8), none, (.mv (.t 37))⟩]) .skip))
 (.seq
 (.seq
 (.reg [⟨(some 38), none, (.mv (.t 0))⟩,
   ⟨(some 39), none, (.mv (.t 8))⟩,
   ⟨(some 40), none, (.bin .add .num (.t 38) (.t 39))⟩,
   ⟨(some 41), none, (.bin .lss .num (.t 40) (.c (.int .i64 0)))⟩])
 (.cond (.t 41)
 (.seq
 (.reg [⟨(some 42), none, (.mv (.t 1))⟩,
   ⟨(some 6), none, (.mv (.t 42))⟩]) .ret) .skip))
 (.seq
 (.reg [⟨(some 43), none, (.mv (.t 0))⟩,
   ⟨(some 44), none, (.mv (.t 8))⟩,
   ⟨(some 45), none, (.bin .add .num (.t 43) (.t 44))⟩,
   ⟨(some 6), none, (.mv (.t 45))⟩]) .ret)))))))⟩
theorem caf22 : cFunc Try.prog Try.f22 = some af22 := by kernel_rfl
/-- limelight/limelightref15.next -/
def af23 : AFunc := ⟨47, [(.tmp 6)],
 (.seq
 (.reg [⟨(some 6), none, (.mv (.c (.int .i64 0)))⟩])
 (.seq
 (.seq
 (.reg [⟨(some 8), none, (.mv (.t 0))⟩,
   ⟨(some 9), none, (.bin .lss .num (.t 8) (.c (.int .i64 0)))⟩])
 (.cond (.t 9)
 (.seq
 (.reg [⟨(some 10), none, (.mv (.t 1))⟩,
   ⟨(some 6), none, (.mv (.t 10))⟩]) .ret) .skip))
 (.seq
 (.reg [⟨(some 11), none, (.mv (.t 0))⟩,
   ⟨(some 12), none, (.mv (.t 0))⟩,
   ⟨(some 13), none, (.mv (.t 2))⟩,
   ⟨(some 14), none, (.bin .rem .num (.t 12) (.t 13))⟩,
   ⟨(some 15), none, (.bin .sub .num (.t 11) (.t 14))⟩,
   ⟨(some 16), none, (.mv (.t 1))⟩,
   ⟨(some 17), none, (.bin .add .num (.t 15) (.t 16))⟩,
   ⟨(some 7), none, (.mv (.t 17))⟩])
 (.seq
 (.seq
 (.reg [⟨(some 18), none, (.mv (.t 0))⟩,
   ⟨(some 19), none, (.mv (.t 7))⟩,
   ⟨(some 20), none, (.bin .sub .num (.t 18) (.t 19))⟩,
   ⟨(some 21), none, (.mv (.t 2))⟩,
   ⟨(some 22), none, (.bin .quo .num (.t 21) (.c (.int .i64 2)))⟩,
   ⟨(some 23), none, (.bin .geq .num (.t 20) (.t 22))⟩])
 (.cond (.t 23)
 (.seq
 (.seq
 (.reg [⟨(some 24), none, (.mv (.t 7))⟩,
   ⟨(some 25), none, (.mv (.t 2))⟩,
   ⟨(some 26), none, (.bin .sub .num (.c (.int .i64 9223372036854775807)) (.t 25))⟩,
   ⟨(some 27), none, (.bin .gtr .num (.t 24) (.t 26))⟩])
 (.cond (.t 27)
 (.seq
 (.reg [⟨(some 28), none, (.mv (.t 7))⟩,
   ⟨(some 6), none, (.mv (.t 28))⟩]) .ret) .skip))
 (.reg [⟨(some 29), none, (.mv (.t 7))⟩,
   ⟨(some 30), none, (.mv (.t 2))⟩,
   ⟨(some 31), none, (.bin .add .num (.t 29) (.t 30))⟩,
   ⟨(some 7), none, (.mv (.t 31))⟩])) .skip))
 (.seq
 (.seq
 (.reg [⟨(some 32), none, (.mv (.t 7))⟩,
   ⟨(some 33), none, (.mv (.t 0))⟩,
   ⟨(some 34), none, (.bin .sub .num (.t 32) (.t 33))⟩,
   ⟨(some 35), none, (.mv (.t 2))⟩,
   ⟨(some 36), none, (.bin .quo .num (.t 35) (.c (.int .i64 2)))⟩,
   ⟨(some 37), none, (.bin .gtr .num (.t 34) (.t 36))⟩,
   ⟨(some 38), none, (.mv (.t 37))⟩,
   ⟨(some 39), (some (38, true)), (.mv (.t 7))⟩,
   ⟨(some 40), (some (38, true)), (.mv (.t 2))⟩,
   ⟨(some 41), (some (38, true)), (.bin .geq .num (.t 39) (.t 40))⟩,
   ⟨(some 42), none, (.pick (.t 38) (.t 41) (.c (.bool false)))⟩])
 (.cond (.t 42)
 (.reg [⟨(some 43), none, (.mv (.t 7))⟩,
   ⟨(some 44), none, (.mv (.t 2))⟩,
   ⟨(some 45), none, (.bin .sub .num (.t 43) (.t 44))⟩,
   ⟨(some 7), none, (.mv (.t 45))⟩]) .skip))
 (.seq
 (.reg [⟨(some 46), none, (.mv (.t 7))⟩,
   ⟨(some 6), none, (.mv (.t 46))⟩]) .ret))))))⟩
theorem caf23 : cFunc Try.prog Try.f23 = some af23 := by kernel_rfl
def AP : Nat → Option AFunc
  | 3 => some af3
  | 4 => some af4
  | 5 => some af5
  | 6 => some af6
  | 7 => some af7
  | 8 => some af8
  | 9 => some af9
  | 10 => some af10
  | 11 => some af11
  | 12 => some af12
  | 13 => some af13
  | 14 => some af14
  | 15 => some af15
  | 16 => some af16
  | 17 => some af17
  | 18 => some af18
  | 19 => some af19
  | 20 => some af20
  | 21 => some af21
  | 22 => some af22
  | 23 => some af23
  | _ => none
theorem apOk : APOk Try.prog AP := by
  intro f af h
  unfold AP at h
  split at h
  · cases h; exact ⟨_, Try.func3, caf3⟩
  · cases h; exact ⟨_, Try.func4, caf4⟩
  · cases h; exact ⟨_, Try.func5, caf5⟩
  · cases h; exact ⟨_, Try.func6, caf6⟩
  · cases h; exact ⟨_, Try.func7, caf7⟩
  · cases h; exact ⟨_, Try.func8, caf8⟩
  · cases h; exact ⟨_, Try.func9, caf9⟩
  · cases h; exact ⟨_, Try.func10, caf10⟩
  · cases h; exact ⟨_, Try.func11, caf11⟩
  · cases h; exact ⟨_, Try.func12, caf12⟩
  · cases h; exact ⟨_, Try.func13, caf13⟩
  · cases h; exact ⟨_, Try.func14, caf14⟩
  · cases h; exact ⟨_, Try.func15, caf15⟩
  · cases h; exact ⟨_, Try.func16, caf16⟩
  · cases h; exact ⟨_, Try.func17, caf17⟩
  · cases h; exact ⟨_, Try.func18, caf18⟩
  · cases h; exact ⟨_, Try.func19, caf19⟩
  · cases h; exact ⟨_, Try.func20, caf20⟩
  · cases h; exact ⟨_, Try.func21, caf21⟩
  · cases h; exact ⟨_, Try.func22, caf22⟩
  · cases h; exact ⟨_, Try.func23, caf23⟩
  · cases h
theorem mixed : Try.prog.follows .mixedOrders = true := by kernel_rfl
end Go.Proofs.YtanloaedpalblaaA
