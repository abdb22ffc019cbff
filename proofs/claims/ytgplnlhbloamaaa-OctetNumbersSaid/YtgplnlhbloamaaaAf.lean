/- The loaded functions of this seat, their types resolved: printed by a program of this claim; each is held against the loaded one. -/
import Derived.Test.YtgplnlhbloamaaaAeZ
import Derived.Test.YtgplnlhbloamaaaProg
set_option maxRecDepth 100000
namespace Go.Proofs.YtgplnlhbloamaaaA
open Go.RowKit
def af3_l0 : AC :=
 (.seq
 (.reg [⟨(some 42), none, (.bin .lss .num (.t 41) (.t 40))⟩])
 (.seq
 (.cond (.t 42) .skip (.exit 4))
 (.seq
 (.block 5
 (.seq
 (.reg [⟨(some 43), none, (.ixSlice 1 (.t 39) (.t 41))⟩,
   ⟨(some 44), none, (.load1 (.t 43))⟩,
   ⟨(some 5), none, (.mv (.t 44))⟩])
 (.seq
 (.reg [⟨(some 45), none, (.mv (.t 1))⟩,
   ⟨(some 46), none, (.mv (.t 5))⟩,
   ⟨(some 47), none, (.call 8 [(.t 45), (.c (.int .u64 9)), (.t 46), (.c (.int .i64 2))])⟩,
   ⟨(some 48), none, (.un .not (.t 47))⟩,
   ⟨(some 49), none, (.mv (.t 48))⟩,
   ⟨(some 50), (some (49, false)), (.mv (.t 1))⟩,
   ⟨(some 51), (some (49, false)), (.mv (.t 5))⟩,
   ⟨(some 52), (some (49, false)), (.call 8 [(.t 50), (.c (.int .u64 9)), (.c (.int .i64 2)), (.t 51)])⟩,
   ⟨(some 53), (some (49, false)), (.un .not (.t 52))⟩,
   ⟨(some 54), none, (.pick (.t 49) (.c (.bool true)) (.t 53))⟩,
   ⟨(some 55), none, (.mv (.t 54))⟩,
   ⟨(some 56), (some (55, false)), (.mv (.t 1))⟩,
   ⟨(some 57), (some (55, false)), (.mv (.t 5))⟩,
   ⟨(some 58), (some (55, false)), (.mv (.t 5))⟩,
   ⟨(some 59), (some (55, false)), (.call 8 [(.t 56), (.c (.int .u64 9)), (.t 57), (.t 58)])⟩,
   ⟨(some 60), (some (55, false)), (.un .not (.t 59))⟩,
   ⟨(some 61), none, (.pick (.t 55) (.c (.bool true)) (.t 60))⟩])
 (.cond (.t 61)
 (.seq
 (.reg [⟨(some 0), none, (.mv (.c (.bool false)))⟩]) .ret) .skip))))
 (.reg [⟨(some 62), none, (.bin .add .num (.t 41) (.c (.int .i64 1)))⟩,
   ⟨(some 41), none, (.mv (.t 62))⟩]))))
def af3_l1 : AC :=
 (.seq
 (.seq
 (.reg [⟨(some 12), none, (.mv (.t 3))⟩,
   ⟨(some 13), none, (.bin .lss .num (.t 12) (.c (.int .i64 15)))⟩])
 (.cond (.t 13) .skip (.exit 2)))
 (.seq
 (.block 3
 (.seq
 (.reg [⟨(some 16), none, (.mv (.t 1))⟩,
   ⟨(some 17), none, (.mv (.t 3))⟩,
   ⟨(some 18), none, (.conv (.int .u64) (.t 17))⟩,
   ⟨(some 19), none, (.bin .shl .num (.t 18) (.c (.int .u64 40)))⟩,
   ⟨(some 20), none, (.bin .add .num (.t 19) (.c (.int .u64 77)))⟩,
   ⟨(some 21), none, (.mv (.t 3))⟩,
   ⟨(some 22), none, (.mv (.t 2))⟩,
   ⟨(some 23), none, (.call 8 [(.t 16), (.t 20), (.t 21), (.t 22)])⟩,
   ⟨(some 24), none, (.un .not (.t 23))⟩,
   ⟨(some 25), none, (.mv (.t 24))⟩,
   ⟨(some 26), (some (25, false)), (.mv (.t 1))⟩,
   ⟨(some 27), (some (25, false)), (.cut 1 (.t 26) none (some (.c (.int .i64 5))) none)⟩,
   ⟨(some 28), (some (25, false)), (.mv (.t 3))⟩,
   ⟨(some 29), (some (25, false)), (.mv (.t 2))⟩,
   ⟨(some 30), (some (25, false)), (.call 8 [(.t 27), (.c (.int .u64 9223372036854775808)), (.t 28), (.t 29)])⟩,
   ⟨(some 31), (some (25, false)), (.un .not (.t 30))⟩,
   ⟨(some 32), none, (.pick (.t 25) (.c (.bool true)) (.t 31))⟩,
   ⟨(some 33), none, (.mv (.t 32))⟩,
   ⟨(some 34), (some (33, false)), (.mv (.t 3))⟩,
   ⟨(some 35), (some (33, false)), (.mv (.t 2))⟩,
   ⟨(some 36), (some (33, false)), (.call 8 [(.c (.slice none 0 0 none)), (.c (.int .u64 5)), (.t 34), (.t 35)])⟩,
   ⟨(some 37), (some (33, false)), (.un .not (.t 36))⟩,
   ⟨(some 38), none, (.pick (.t 33) (.c (.bool true)) (.t 37))⟩])
 (.cond (.t 38)
 (.seq
 (.reg [⟨(some 0), none, (.mv (.c (.bool false)))⟩]) .ret) .skip)))
 (.reg [⟨(some 14), none, (.mv (.t 3))⟩,
   ⟨(some 15), none, (.bin .add .num (.t 14) (.c (.int .i64 1)))⟩,
   ⟨(some 3), none, (.mv (.t 15))⟩])))
def af3_l2 : AC :=
 (.seq
 (.seq
 (.reg [⟨(some 8), none, (.mv (.t 2))⟩,
   ⟨(some 9), none, (.bin .lss .num (.t 8) (.c (.int .i64 14)))⟩])
 (.cond (.t 9) .skip (.exit 0)))
 (.seq
 (.block 1
 (.seq
 (.reg [⟨(some 3), none, (.mv (.c (.int .i64 (-2))))⟩])
 (.block 2
 (.loop af3_l1))))
 (.reg [⟨(some 10), none, (.mv (.t 2))⟩,
   ⟨(some 11), none, (.bin .add .num (.t 10) (.c (.int .i64 1)))⟩,
   ⟨(some 2), none, (.mv (.t 11))⟩])))
/-- limelight/limelightlaw1.OctetNumbers -/
def af3 : AFunc := ⟨64, [(.tmp 0)],
 (.seq
 (.reg [⟨(some 0), none, (.mv (.c (.bool false)))⟩])
 (.seq
 (.reg [⟨(some 6), none, (.buildSlice 1 [(.int .u8 0)] 12 [(0, (1, (.c (.int .u8 116)))), (1, (1, (.c (.int .u8 119)))), (2, (1, (.c (.int .u8 101)))), (3, (1, (.c (.int .u8 108)))), (4, (1, (.c (.int .u8 118)))), (5, (1, (.c (.int .u8 101)))), (6, (1, (.c (.int .u8 32)))), (7, (1, (.c (.int .u8 98)))), (8, (1, (.c (.int .u8 121)))), (9, (1, (.c (.int .u8 116)))), (10, (1, (.c (.int .u8 101)))), (11, (1, (.c (.int .u8 115))))])⟩,
   ⟨(some 7), none, (.conv .mark (.t 6))⟩,
   ⟨(some 1), none, (.mv (.t 7))⟩])
 (.seq
 (.seq
 (.reg [⟨(some 2), none, (.mv (.c (.int .i64 (-2))))⟩])
 (.block 0
 (.loop af3_l2)))
 (.seq
 (.seq
 (.reg [⟨(some 39), none, (.buildSlice 1 [(.int .i64 0)] 5 [(0, (1, (.c (.int .i64 4611686018427387904)))), (1, (1, (.c (.int .i64 (-9223372036854775808))))), (2, (1, (.c (.int .i64 9223372036854775807)))), (3, (1, (.c (.int .i64 64)))), (4, (1, (.c (.int .i64 65))))])⟩,
   ⟨(some 40), none, (.len (.t 39))⟩,
   ⟨(some 41), none, (.mv (.c (.int .i64 0)))⟩])
 (.block 4
 (.loop af3_l0)))
 (.seq
 (.reg [⟨(some 63), none, (.call 9 [])⟩,
   ⟨(some 0), none, (.mv (.t 63))⟩]) .ret)))))⟩
theorem caf3 : cFunc Try.prog Try.f3 = some af3 := by kernel_rfl
/-- limelight/limelightlaw1.OctetTells -/
def af4 : AFunc := ⟨37, [(.tmp 8)],
 (.seq
 (.reg [⟨(some 8), none, (.mv (.c (.bool false)))⟩])
 (.seq
 (.reg [⟨(some 9), none, (.mv (.t 0))⟩,
   ⟨(some 10), none, (.mv (.t 1))⟩,
   ⟨(some 11), none, (.mv (.t 2))⟩,
   ⟨(some 12), none, (.mv (.t 3))⟩,
   ⟨(some 13), none, (.call 8 [(.t 9), (.t 10), (.t 11), (.t 12)])⟩,
   ⟨(some 14), none, (.mv (.t 13))⟩,
   ⟨(some 15), (some (14, true)), (.mv (.t 0))⟩,
   ⟨(some 16), (some (14, true)), (.mv (.t 1))⟩,
   ⟨(some 17), (some (14, true)), (.mv (.t 2))⟩,
   ⟨(some 18), (some (14, true)), (.bin .and .num (.t 17) (.c (.int .i64 31)))⟩,
   ⟨(some 19), (some (14, true)), (.mv (.t 3))⟩,
   ⟨(some 20), (some (14, true)), (.bin .and .num (.t 19) (.c (.int .i64 15)))⟩,
   ⟨(some 21), (some (14, true)), (.call 8 [(.t 15), (.t 16), (.t 18), (.t 20)])⟩,
   ⟨(some 22), none, (.pick (.t 14) (.t 21) (.c (.bool false)))⟩,
   ⟨(some 23), none, (.mv (.t 22))⟩,
   ⟨(some 24), (some (23, true)), (.mv (.t 0))⟩,
   ⟨(some 25), (some (23, true)), (.mv (.t 1))⟩,
   ⟨(some 26), (some (23, true)), (.mv (.t 2))⟩,
   ⟨(some 27), (some (23, true)), (.mv (.t 0))⟩,
   ⟨(some 28), (some (23, true)), (.len (.t 27))⟩,
   ⟨(some 29), (some (23, true)), (.call 10 [(.t 26), (.c (.int .i64 0)), (.t 28)])⟩,
   ⟨(some 30), (some (23, true)), (.mv (.t 3))⟩,
   ⟨(some 31), (some (23, true)), (.call 10 [(.t 30), (.c (.int .i64 0)), (.c (.int .i64 9))])⟩,
   ⟨(some 32), (some (23, true)), (.call 8 [(.t 24), (.t 25), (.t 29), (.t 31)])⟩,
   ⟨(some 33), none, (.pick (.t 23) (.t 32) (.c (.bool false)))⟩,
   ⟨(some 34), none, (.mv (.t 33))⟩,
   ⟨(some 35), (some (34, true)), (.call 9 [])⟩,
   ⟨(some 36), none, (.pick (.t 34) (.t 35) (.c (.bool false)))⟩,
   ⟨(some 8), none, (.mv (.t 36))⟩]) .ret))⟩
theorem caf4 : cFunc Try.prog Try.f4 = some af4 := by kernel_rfl
def af5_l0 : AC :=
 (.seq
 (.seq
 (.reg [⟨(some 38), none, (.mv (.t 14))⟩,
   ⟨(some 39), none, (.mv (.t 13))⟩,
   ⟨(some 40), none, (.len (.t 39))⟩,
   ⟨(some 41), none, (.bin .lss .num (.t 38) (.t 40))⟩])
 (.cond (.t 41) .skip (.exit 0)))
 (.seq
 (.block 1
 (.seq
 (.reg [⟨(some 44), none, (.mv (.t 13))⟩,
   ⟨(some 45), none, (.mv (.t 14))⟩,
   ⟨(some 46), none, (.ixSlice 1 (.t 44) (.t 45))⟩,
   ⟨(some 47), none, (.load1 (.t 46))⟩,
   ⟨(some 48), none, (.bin .neq .num (.t 47) (.c (.int .u8 0)))⟩])
 (.cond (.t 48)
 (.seq
 (.reg [⟨(some 8), none, (.mv (.c (.bool false)))⟩]) .ret) .skip)))
 (.reg [⟨(some 42), none, (.mv (.t 14))⟩,
   ⟨(some 43), none, (.bin .add .num (.t 42) (.c (.int .i64 1)))⟩,
   ⟨(some 14), none, (.mv (.t 43))⟩])))
/-- limelight/limelightlaw1.OctetBack -/
def af5 : AFunc := ⟨115, [(.tmp 8)],
 (.seq
 (.reg [⟨(some 8), none, (.mv (.c (.bool false)))⟩])
 (.seq
 (.reg [⟨(some 15), none, (.mv (.t 2))⟩,
   ⟨(some 16), none, (.call 10 [(.t 15), (.c (.int .i64 1)), (.c (.int .i64 8))])⟩,
   ⟨(some 9), none, (.mv (.t 16))⟩])
 (.seq
 (.reg [⟨(some 17), none, (.mv (.t 0))⟩,
   ⟨(some 18), none, (.mv (.t 1))⟩,
   ⟨(some 19), none, (.mv (.t 9))⟩,
   ⟨(some 20), none, (.call 11 [(.t 17), (.t 18), (.t 19)])⟩,
   ⟨(some 10), none, (.mv (.t 20))⟩])
 (.seq
 (.reg [⟨(some 22), none, (.buildSlice 1 [(.int .u8 0)] 0 [])⟩,
   ⟨(some 23), none, (.mv (.t 10))⟩,
   ⟨(some 24), none, (.append 1 1 (.t 22) (.t 23))⟩,
   ⟨(some 25), none, (.mv (.t 3))⟩,
   ⟨(some 26), none, (.append 1 1 (.t 24) (.t 25))⟩,
   ⟨(some 27), none, (.mv (.t 0))⟩,
   ⟨(some 28), none, (.len (.t 27))⟩,
   ⟨(some 29), none, (.mv (.t 9))⟩,
   ⟨(some 30), none, (.call 12 [(.t 26), (.t 28), (.t 29)])⟩,
   ⟨(some 21), none, (.mv (.t 30))⟩,
   ⟨(some 31), none, (.extract 0 (.t 21))⟩,
   ⟨(some 32), none, (.extract 1 (.t 21))⟩,
   ⟨(some 11), none, (.mv (.t 31))⟩,
   ⟨(some 12), none, (.mv (.t 32))⟩])
 (.seq
 (.reg [⟨(some 33), none, (.mv (.t 0))⟩,
   ⟨(some 34), none, (.mv (.t 9))⟩,
   ⟨(some 35), none, (.call 13 [(.t 33), (.t 34)])⟩,
   ⟨(some 13), none, (.mv (.t 35))⟩])
 (.seq
 (.seq
 (.reg [⟨(some 36), none, (.mv (.t 0))⟩,
   ⟨(some 37), none, (.len (.t 36))⟩,
   ⟨(some 14), none, (.mv (.t 37))⟩])
 (.block 0
 (.loop af5_l0)))
 (.seq
 (.dreg [⟨(some 49), none, (.mv (.t 10))⟩,
   ⟨(some 50), none, (.len (.t 49))⟩,
   ⟨(some 51), none, (.mv (.t 0))⟩,
   ⟨(some 52), none, (.len (.t 51))⟩,
   ⟨(some 53), none, (.mv (.t 9))⟩,
   ⟨(some 54), none, (.bin .add .num (.t 52) (.t 53))⟩,
   ⟨(some 55), none, (.bin .eql .num (.t 50) (.t 54))⟩,
   ⟨(some 56), none, (.mv (.t 55))⟩,
   ⟨(some 57), (some (56, true)), (.mv (.t 12))⟩,
   ⟨(some 58), none, (.pick (.t 56) (.t 57) (.c (.bool false)))⟩,
   ⟨(some 59), none, (.mv (.t 58))⟩,
   ⟨(some 60), (some (59, true)), (.mv (.t 9))⟩,
   ⟨(some 61), (some (59, true)), (.bin .eql .num (.t 60) (.c (.int .i64 8)))⟩,
   ⟨(some 62), (some (59, true)), (.mv (.t 61))⟩,
   ⟨(some 63), (some (62, true)), (.mv (.t 11))⟩,
   ⟨(some 64), (some (62, true)), (.mv (.t 1))⟩,
   ⟨(some 65), (some (62, true)), (.bin .eql .num (.t 63) (.t 64))⟩,
   ⟨(some 66), (some (59, true)), (.pick (.t 62) (.t 65) (.c (.bool false)))⟩,
   ⟨(some 67), (some (59, true)), (.mv (.t 66))⟩,
   ⟨(some 68), (some (67, false)), (.mv (.t 9))⟩,
   ⟨(some 69), (some (67, false)), (.bin .lss .num (.t 68) (.c (.int .i64 8)))⟩,
   ⟨(some 70), (some (67, false)), (.mv (.t 69))⟩,
   ⟨(some 71), (some (70, true)), (.mv (.t 11))⟩,
   ⟨(some 72), (some (70, true)), (.mv (.t 1))⟩,
   ⟨(some 73), (some (70, true)), (.mv (.t 9))⟩,
   ⟨(some 74), (some (70, true)), (.bin .mul .num (.c (.int .i64 8)) (.t 73))⟩,
   ⟨(some 75), (some (70, true)), (.conv (.int .u64) (.t 74))⟩,
   ⟨(some 76), (some (70, true)), (.bin .shl .num (.c (.int .u64 1)) (.t 75))⟩,
   ⟨(some 77), (some (70, true)), (.bin .sub .num (.t 76) (.c (.int .u64 1)))⟩,
   ⟨(some 78), (some (70, true)), (.bin .and .num (.t 72) (.t 77))⟩,
   ⟨(some 79), (some (70, true)), (.bin .eql .num (.t 71) (.t 78))⟩,
   ⟨(some 80), (some (67, false)), (.pick (.t 70) (.t 79) (.c (.bool false)))⟩,
   ⟨(some 81), (some (59, true)), (.pick (.t 67) (.c (.bool true)) (.t 80))⟩,
   ⟨(some 82), none, (.pick (.t 59) (.t 81) (.c (.bool false)))⟩,
   ⟨(some 83), none, (.mv (.t 82))⟩,
   ⟨(some 84), (some (83, true)), (.mv (.t 13))⟩,
   ⟨(some 85), (some (83, true)), (.len (.t 84))⟩,
   ⟨(some 86), (some (83, true)), (.mv (.t 9))⟩,
   ⟨(some 87), (some (83, true)), (.bin .rem .num (.t 85) (.t 86))⟩,
   ⟨(some 88), (some (83, true)), (.bin .eql .num (.t 87) (.c (.int .i64 0)))⟩,
   ⟨(some 89), none, (.pick (.t 83) (.t 88) (.c (.bool false)))⟩,
   ⟨(some 90), none, (.mv (.t 89))⟩,
   ⟨(some 91), (some (90, true)), (.mv (.t 13))⟩,
   ⟨(some 92), (some (90, true)), (.len (.t 91))⟩,
   ⟨(some 93), (some (90, true)), (.mv (.t 0))⟩,
   ⟨(some 94), (some (90, true)), (.len (.t 93))⟩,
   ⟨(some 95), (some (90, true)), (.mv (.t 9))⟩,
   ⟨(some 96), (some (90, true)), (.bin .add .num (.t 94) (.t 95))⟩,
   ⟨(some 97), (some (90, true)), (.bin .lss .num (.t 92) (.t 96))⟩,
   ⟨(some 98), none, (.pick (.t 90) (.t 97) (.c (.bool false)))⟩,
   ⟨(some 99), none, (.mv (.t 98))⟩,
   ⟨(some 100), (some (99, true)), (.mv (.t 13))⟩,
   ⟨(some 101), (some (99, true)), (.mv (.t 0))⟩,
   ⟨(some 102), (some (99, true)), (.len (.t 101))⟩,
   ⟨(some 103), (some (99, true)), (.mv (.t 13))⟩,
   ⟨(some 104), (some (99, true)), (.len (.t 103))⟩,
   ⟨(some 105), (some (99, true)), (.mn [(.t 102), (.t 104)])⟩,
   ⟨(some 106), (some (99, true)), (.cut 1 (.t 100) none (some (.t 105)) none)⟩,
   ⟨(some 107), (some (99, true)), (.conv .bytesStr (.t 106))⟩,
   ⟨(some 108), (some (99, true)), (.mv (.t 0))⟩,
   ⟨(some 109), (some (99, true)), (.conv .bytesStr (.t 108))⟩,
   ⟨(some 110), (some (99, true)), (.bin .eql .str (.t 107) (.t 109))⟩,
   ⟨(some 111), none, (.pick (.t 99) (.t 110) (.c (.bool false)))⟩,
   ⟨(some 112), none, (.mv (.t 111))⟩,
   ⟨(some 113), (some (112, true)), (.call 9 [])⟩,
   ⟨(some 114), none, (.pick (.t 112) (.t 113) (.c (.bool false)))⟩,
   ⟨(some 8), none, (.mv (.t 114))⟩] []) .ret)))))))⟩
theorem caf5 : cFunc Try.prog Try.f5 = some af5 := by kernel_rfl
/-- limelight/limelightlaw1.OctetOrder -/
def af6 : AFunc := ⟨81, [(.tmp 8)],
 (.seq
 (.reg [⟨(some 8), none, (.mv (.c (.bool false)))⟩])
 (.seq
 (.reg [⟨(some 16), none, (.mv (.t 3))⟩,
   ⟨(some 17), none, (.mv (.t 2))⟩,
   ⟨(some 18), none, (.len (.t 17))⟩,
   ⟨(some 19), none, (.call 10 [(.t 16), (.c (.int .i64 0)), (.t 18)])⟩,
   ⟨(some 9), none, (.mv (.t 19))⟩])
 (.seq
 (.reg [⟨(some 21), none, (.mv (.t 2))⟩,
   ⟨(some 22), none, (.mv (.t 9))⟩,
   ⟨(some 23), none, (.call 14 [(.t 21), (.c (.int .i64 0)), (.t 22)])⟩,
   ⟨(some 20), none, (.mv (.t 23))⟩,
   ⟨(some 24), none, (.extract 0 (.t 20))⟩,
   ⟨(some 25), none, (.extract 1 (.t 20))⟩,
   ⟨(some 10), none, (.mv (.t 24))⟩,
   ⟨(some 11), none, (.mv (.t 25))⟩])
 (.seq
 (.reg [⟨(some 27), none, (.mv (.t 2))⟩,
   ⟨(some 28), none, (.mv (.t 9))⟩,
   ⟨(some 29), none, (.mv (.t 2))⟩,
   ⟨(some 30), none, (.len (.t 29))⟩,
   ⟨(some 31), none, (.mv (.t 9))⟩,
   ⟨(some 32), none, (.bin .sub .num (.t 30) (.t 31))⟩,
   ⟨(some 33), none, (.call 14 [(.t 27), (.t 28), (.t 32)])⟩,
   ⟨(some 26), none, (.mv (.t 33))⟩,
   ⟨(some 34), none, (.extract 0 (.t 26))⟩,
   ⟨(some 35), none, (.extract 1 (.t 26))⟩,
   ⟨(some 12), none, (.mv (.t 34))⟩,
   ⟨(some 13), none, (.mv (.t 35))⟩])
 (.seq
 (.reg [⟨(some 37), none, (.mv (.t 2))⟩,
   ⟨(some 38), none, (.mv (.t 9))⟩,
   ⟨(some 39), none, (.mv (.t 2))⟩,
   ⟨(some 40), none, (.len (.t 39))⟩,
   ⟨(some 41), none, (.mv (.t 9))⟩,
   ⟨(some 42), none, (.bin .sub .num (.t 40) (.t 41))⟩,
   ⟨(some 43), none, (.bin .add .num (.t 42) (.c (.int .i64 1)))⟩,
   ⟨(some 44), none, (.call 14 [(.t 37), (.t 38), (.t 43)])⟩,
   ⟨(some 36), none, (.mv (.t 44))⟩,
   ⟨(some 45), none, (.extract 0 (.t 36))⟩,
   ⟨(some 46), none, (.extract 1 (.t 36))⟩,
   ⟨(some 14), none, (.mv (.t 45))⟩,
   ⟨(some 15), none, (.mv (.t 46))⟩])
 (.seq
 (.dreg [⟨(some 47), none, (.mv (.t 0))⟩,
   ⟨(some 48), none, (.call 11 [(.c (.slice none 0 0 none)), (.t 47), (.c (.int .i64 8))])⟩,
   ⟨(some 49), none, (.conv .bytesStr (.t 48))⟩,
   ⟨(some 50), none, (.mv (.t 1))⟩,
   ⟨(some 51), none, (.call 11 [(.c (.slice none 0 0 none)), (.t 50), (.c (.int .i64 8))])⟩,
   ⟨(some 52), none, (.conv .bytesStr (.t 51))⟩,
   ⟨(some 53), none, (.bin .lss .num (.t 49) (.t 52))⟩,
   ⟨(some 54), none, (.mv (.t 0))⟩,
   ⟨(some 55), none, (.mv (.t 1))⟩,
   ⟨(some 56), none, (.bin .lss .num (.t 54) (.t 55))⟩,
   ⟨(some 57), none, (.bin .eql .bool (.t 53) (.t 56))⟩,
   ⟨(some 58), none, (.mv (.t 57))⟩,
   ⟨(some 59), (some (58, true)), (.mv (.t 11))⟩,
   ⟨(some 60), none, (.pick (.t 58) (.t 59) (.c (.bool false)))⟩,
   ⟨(some 61), none, (.mv (.t 60))⟩,
   ⟨(some 62), (some (61, true)), (.mv (.t 13))⟩,
   ⟨(some 63), none, (.pick (.t 61) (.t 62) (.c (.bool false)))⟩,
   ⟨(some 64), none, (.mv (.t 63))⟩,
   ⟨(some 65), (some (64, true)), (.mv (.t 15))⟩,
   ⟨(some 66), (some (64, true)), (.un .not (.t 65))⟩,
   ⟨(some 67), none, (.pick (.t 64) (.t 66) (.c (.bool false)))⟩,
   ⟨(some 68), none, (.mv (.t 67))⟩,
   ⟨(some 69), (some (68, true)), (.mv (.t 10))⟩,
   ⟨(some 70), (some (68, true)), (.conv .bytesStr (.t 69))⟩,
   ⟨(some 71), (some (68, true)), (.mv (.t 12))⟩,
   ⟨(some 72), (some (68, true)), (.conv .bytesStr (.t 71))⟩,
   ⟨(some 73), (some (68, true)), (.bin .add .num (.t 70) (.t 72))⟩,
   ⟨(some 74), (some (68, true)), (.mv (.t 2))⟩,
   ⟨(some 75), (some (68, true)), (.conv .bytesStr (.t 74))⟩,
   ⟨(some 76), (some (68, true)), (.bin .eql .str (.t 73) (.t 75))⟩,
   ⟨(some 77), none, (.pick (.t 68) (.t 76) (.c (.bool false)))⟩,
   ⟨(some 78), none, (.mv (.t 77))⟩,
   ⟨(some 79), (some (78, true)), (.call 9 [])⟩,
   ⟨(some 80), none, (.pick (.t 78) (.t 79) (.c (.bool false)))⟩,
   ⟨(some 8), none, (.mv (.t 80))⟩] [(2, 5)]) .ret))))))⟩
theorem caf6 : cFunc Try.prog Try.f6 = some af6 := by kernel_rfl
def af7_l0 : AC :=
 (.seq
 (.seq
 (.reg [⟨(some 26), none, (.mv (.t 10))⟩,
   ⟨(some 27), none, (.mv (.t 6))⟩,
   ⟨(some 28), none, (.len (.t 27))⟩,
   ⟨(some 29), none, (.bin .lss .num (.t 26) (.t 28))⟩,
   ⟨(some 30), none, (.mv (.t 29))⟩,
   ⟨(some 31), (some (30, true)), (.mv (.t 10))⟩,
   ⟨(some 32), (some (30, true)), (.bin .lss .num (.t 31) (.c (.int .i64 8)))⟩,
   ⟨(some 33), none, (.pick (.t 30) (.t 32) (.c (.bool false)))⟩])
 (.cond (.t 33) .skip (.exit 0)))
 (.seq
 (.block 1
 (.seq
 (.reg [⟨(some 37), none, (.mv (.t 6))⟩,
   ⟨(some 38), none, (.mv (.t 10))⟩,
   ⟨(some 39), none, (.call 12 [(.t 37), (.t 38), (.c (.int .i64 1))])⟩,
   ⟨(some 36), none, (.mv (.t 39))⟩,
   ⟨(some 40), none, (.extract 0 (.t 36))⟩,
   ⟨(some 41), none, (.extract 1 (.t 36))⟩,
   ⟨(some 11), none, (.mv (.t 40))⟩,
   ⟨(some 12), none, (.mv (.t 41))⟩])
 (.seq
 (.seq
 (.reg [⟨(some 42), none, (.mv (.t 12))⟩,
   ⟨(some 43), none, (.un .not (.t 42))⟩])
 (.cond (.t 43)
 (.seq
 (.reg [⟨(some 4), none, (.mv (.c (.bool false)))⟩]) .ret) .skip))
 (.reg [⟨(some 44), none, (.mv (.t 9))⟩,
   ⟨(some 45), none, (.bin .shl .num (.t 44) (.c (.int .u64 8)))⟩,
   ⟨(some 46), none, (.mv (.t 11))⟩,
   ⟨(some 47), none, (.bin .or .num (.t 45) (.t 46))⟩,
   ⟨(some 9), none, (.mv (.t 47))⟩]))))
 (.reg [⟨(some 34), none, (.mv (.t 10))⟩,
   ⟨(some 35), none, (.bin .add .num (.t 34) (.c (.int .i64 1)))⟩,
   ⟨(some 10), none, (.mv (.t 35))⟩])))
/-- limelight/limelightlaw1.OctetPads -/
def af7 : AFunc := ⟨70, [(.tmp 4)],
 (.seq
 (.reg [⟨(some 4), none, (.mv (.c (.bool false)))⟩])
 (.seq
 (.reg [⟨(some 13), none, (.mv (.t 1))⟩,
   ⟨(some 14), none, (.call 10 [(.t 13), (.c (.int .i64 1)), (.c (.int .i64 64))])⟩,
   ⟨(some 5), none, (.mv (.t 14))⟩])
 (.seq
 (.reg [⟨(some 15), none, (.mv (.t 0))⟩,
   ⟨(some 16), none, (.mv (.t 5))⟩,
   ⟨(some 17), none, (.call 13 [(.t 15), (.t 16)])⟩,
   ⟨(some 6), none, (.mv (.t 17))⟩])
 (.seq
 (.reg [⟨(some 19), none, (.mv (.t 6))⟩,
   ⟨(some 20), none, (.mv (.t 6))⟩,
   ⟨(some 21), none, (.len (.t 20))⟩,
   ⟨(some 22), none, (.mn [(.t 21), (.c (.int .i64 8))])⟩,
   ⟨(some 23), none, (.call 12 [(.t 19), (.c (.int .i64 0)), (.t 22)])⟩,
   ⟨(some 18), none, (.mv (.t 23))⟩,
   ⟨(some 24), none, (.extract 0 (.t 18))⟩,
   ⟨(some 25), none, (.extract 1 (.t 18))⟩,
   ⟨(some 7), none, (.mv (.t 24))⟩,
   ⟨(some 8), none, (.mv (.t 25))⟩])
 (.seq
 (.reg [⟨(some 9), none, (.mv (.c (.int .u64 0)))⟩])
 (.seq
 (.seq
 (.reg [⟨(some 10), none, (.mv (.c (.int .i64 0)))⟩])
 (.block 0
 (.loop af7_l0)))
 (.seq
 (.dreg [⟨(some 48), none, (.mv (.t 6))⟩,
   ⟨(some 49), none, (.mv (.t 5))⟩,
   ⟨(some 50), none, (.call 13 [(.t 48), (.t 49)])⟩,
   ⟨(some 51), none, (.conv .bytesStr (.t 50))⟩,
   ⟨(some 52), none, (.mv (.t 6))⟩,
   ⟨(some 53), none, (.conv .bytesStr (.t 52))⟩,
   ⟨(some 54), none, (.bin .eql .str (.t 51) (.t 53))⟩,
   ⟨(some 55), none, (.mv (.t 54))⟩,
   ⟨(some 56), (some (55, true)), (.mv (.t 8))⟩,
   ⟨(some 57), (some (55, true)), (.mv (.t 6))⟩,
   ⟨(some 58), (some (55, true)), (.len (.t 57))⟩,
   ⟨(some 59), (some (55, true)), (.bin .gtr .num (.t 58) (.c (.int .i64 0)))⟩,
   ⟨(some 60), (some (55, true)), (.bin .eql .bool (.t 56) (.t 59))⟩,
   ⟨(some 61), none, (.pick (.t 55) (.t 60) (.c (.bool false)))⟩,
   ⟨(some 62), none, (.mv (.t 61))⟩,
   ⟨(some 63), (some (62, true)), (.mv (.t 7))⟩,
   ⟨(some 64), (some (62, true)), (.mv (.t 9))⟩,
   ⟨(some 65), (some (62, true)), (.bin .eql .num (.t 63) (.t 64))⟩,
   ⟨(some 66), none, (.pick (.t 62) (.t 65) (.c (.bool false)))⟩,
   ⟨(some 67), none, (.mv (.t 66))⟩,
   ⟨(some 68), (some (67, true)), (.call 9 [])⟩,
   ⟨(some 69), none, (.pick (.t 67) (.t 68) (.c (.bool false)))⟩,
   ⟨(some 4), none, (.mv (.t 69))⟩] [(5, 2)]) .ret)))))))⟩
theorem caf7 : cFunc Try.prog Try.f7 = some af7 := by kernel_rfl
/-- limelight/limelightlaw1.same -/
def af8 : AFunc := ⟨89, [(.tmp 8)],
 (.seq
 (.reg [⟨(some 8), none, (.mv (.c (.bool false)))⟩])
 (.seq
 (.reg [⟨(some 18), none, (.mv (.t 0))⟩,
   ⟨(some 19), none, (.mv (.t 2))⟩,
   ⟨(some 20), none, (.mv (.t 3))⟩,
   ⟨(some 21), none, (.call 12 [(.t 18), (.t 19), (.t 20)])⟩,
   ⟨(some 17), none, (.mv (.t 21))⟩,
   ⟨(some 22), none, (.extract 0 (.t 17))⟩,
   ⟨(some 23), none, (.extract 1 (.t 17))⟩,
   ⟨(some 9), none, (.mv (.t 22))⟩,
   ⟨(some 10), none, (.mv (.t 23))⟩])
 (.seq
 (.reg [⟨(some 25), none, (.mv (.t 0))⟩,
   ⟨(some 26), none, (.mv (.t 2))⟩,
   ⟨(some 27), none, (.mv (.t 3))⟩,
   ⟨(some 28), none, (.call 15 [(.t 25), (.t 26), (.t 27)])⟩,
   ⟨(some 24), none, (.mv (.t 28))⟩,
   ⟨(some 29), none, (.extract 0 (.t 24))⟩,
   ⟨(some 30), none, (.extract 1 (.t 24))⟩,
   ⟨(some 11), none, (.mv (.t 29))⟩,
   ⟨(some 12), none, (.mv (.t 30))⟩])
 (.seq
 (.reg [⟨(some 32), none, (.mv (.t 0))⟩,
   ⟨(some 33), none, (.mv (.t 2))⟩,
   ⟨(some 34), none, (.mv (.t 3))⟩,
   ⟨(some 35), none, (.call 14 [(.t 32), (.t 33), (.t 34)])⟩,
   ⟨(some 31), none, (.mv (.t 35))⟩,
   ⟨(some 36), none, (.extract 0 (.t 31))⟩,
   ⟨(some 37), none, (.extract 1 (.t 31))⟩,
   ⟨(some 13), none, (.mv (.t 36))⟩,
   ⟨(some 14), none, (.mv (.t 37))⟩])
 (.seq
 (.reg [⟨(some 39), none, (.mv (.t 0))⟩,
   ⟨(some 40), none, (.mv (.t 2))⟩,
   ⟨(some 41), none, (.mv (.t 3))⟩,
   ⟨(some 42), none, (.call 16 [(.t 39), (.t 40), (.t 41)])⟩,
   ⟨(some 38), none, (.mv (.t 42))⟩,
   ⟨(some 43), none, (.extract 0 (.t 38))⟩,
   ⟨(some 44), none, (.extract 1 (.t 38))⟩,
   ⟨(some 15), none, (.mv (.t 43))⟩,
   ⟨(some 16), none, (.mv (.t 44))⟩])
 (.seq
 (.dreg [⟨(some 45), none, (.mv (.t 9))⟩,
   ⟨(some 46), none, (.mv (.t 11))⟩,
   ⟨(some 47), none, (.bin .eql .num (.t 45) (.t 46))⟩,
   ⟨(some 48), none, (.mv (.t 47))⟩,
   ⟨(some 49), (some (48, true)), (.mv (.t 10))⟩,
   ⟨(some 50), (some (48, true)), (.mv (.t 12))⟩,
   ⟨(some 51), (some (48, true)), (.bin .eql .bool (.t 49) (.t 50))⟩,
   ⟨(some 52), none, (.pick (.t 48) (.t 51) (.c (.bool false)))⟩,
   ⟨(some 53), none, (.mv (.t 52))⟩,
   ⟨(some 54), (some (53, true)), (.mv (.t 13))⟩,
   ⟨(some 55), (some (53, true)), (.conv .bytesStr (.t 54))⟩,
   ⟨(some 56), (some (53, true)), (.mv (.t 15))⟩,
   ⟨(some 57), (some (53, true)), (.conv .bytesStr (.t 56))⟩,
   ⟨(some 58), (some (53, true)), (.bin .eql .str (.t 55) (.t 57))⟩,
   ⟨(some 59), none, (.pick (.t 53) (.t 58) (.c (.bool false)))⟩,
   ⟨(some 60), none, (.mv (.t 59))⟩,
   ⟨(some 61), (some (60, true)), (.mv (.t 14))⟩,
   ⟨(some 62), (some (60, true)), (.mv (.t 16))⟩,
   ⟨(some 63), (some (60, true)), (.bin .eql .bool (.t 61) (.t 62))⟩,
   ⟨(some 64), none, (.pick (.t 60) (.t 63) (.c (.bool false)))⟩,
   ⟨(some 65), none, (.mv (.t 64))⟩,
   ⟨(some 66), (some (65, true)), (.mv (.t 0))⟩,
   ⟨(some 67), (some (65, true)), (.mv (.t 1))⟩,
   ⟨(some 68), (some (65, true)), (.mv (.t 3))⟩,
   ⟨(some 69), (some (65, true)), (.call 11 [(.t 66), (.t 67), (.t 68)])⟩,
   ⟨(some 70), (some (65, true)), (.conv .bytesStr (.t 69))⟩,
   ⟨(some 71), (some (65, true)), (.mv (.t 0))⟩,
   ⟨(some 72), (some (65, true)), (.mv (.t 1))⟩,
   ⟨(some 73), (some (65, true)), (.mv (.t 3))⟩,
   ⟨(some 74), (some (65, true)), (.call 17 [(.t 71), (.t 72), (.t 73)])⟩,
   ⟨(some 75), (some (65, true)), (.conv .bytesStr (.t 74))⟩,
   ⟨(some 76), (some (65, true)), (.bin .eql .str (.t 70) (.t 75))⟩,
   ⟨(some 77), none, (.pick (.t 65) (.t 76) (.c (.bool false)))⟩,
   ⟨(some 78), none, (.mv (.t 77))⟩,
   ⟨(some 79), (some (78, true)), (.mv (.t 0))⟩,
   ⟨(some 80), (some (78, true)), (.mv (.t 3))⟩,
   ⟨(some 81), (some (78, true)), (.call 13 [(.t 79), (.t 80)])⟩,
   ⟨(some 82), (some (78, true)), (.conv .bytesStr (.t 81))⟩,
   ⟨(some 83), (some (78, true)), (.mv (.t 0))⟩,
   ⟨(some 84), (some (78, true)), (.mv (.t 3))⟩,
   ⟨(some 85), (some (78, true)), (.call 18 [(.t 83), (.t 84)])⟩,
   ⟨(some 86), (some (78, true)), (.conv .bytesStr (.t 85))⟩,
   ⟨(some 87), (some (78, true)), (.bin .eql .str (.t 82) (.t 86))⟩,
   ⟨(some 88), none, (.pick (.t 78) (.t 87) (.c (.bool false)))⟩,
   ⟨(some 8), none, (.mv (.t 88))⟩] [(25, 30), (37, 41)]) .ret))))))⟩
theorem caf8 : cFunc Try.prog Try.f8 = some af8 := by kernel_rfl
/-- limelight/limelightlaw1.known -/
def af9 : AFunc := ⟨61, [(.tmp 0)],
 (.seq
 (.reg [⟨(some 0), none, (.mv (.c (.bool false)))⟩])
 (.seq
 (.reg [⟨(some 8), none, (.buildSlice 1 [(.int .u8 0)] 3 [(0, (1, (.c (.int .u8 0)))), (1, (1, (.c (.int .u8 1)))), (2, (1, (.c (.int .u8 2))))])⟩,
   ⟨(some 9), none, (.call 12 [(.t 8), (.c (.int .i64 1)), (.c (.int .i64 2))])⟩,
   ⟨(some 7), none, (.mv (.t 9))⟩,
   ⟨(some 10), none, (.extract 0 (.t 7))⟩,
   ⟨(some 11), none, (.extract 1 (.t 7))⟩,
   ⟨(some 1), none, (.mv (.t 10))⟩,
   ⟨(some 2), none, (.mv (.t 11))⟩])
 (.seq
 (.reg [⟨(some 13), none, (.call 12 [(.c (.slice none 0 0 none)), (.c (.int .i64 0)), (.c (.int .i64 1))])⟩,
   ⟨(some 12), none, (.mv (.t 13))⟩,
   ⟨(some 14), none, (.extract 0 (.t 12))⟩,
   ⟨(some 15), none, (.extract 1 (.t 12))⟩,
   ⟨(some 3), none, (.mv (.t 14))⟩,
   ⟨(some 4), none, (.mv (.t 15))⟩])
 (.seq
 (.reg [⟨(some 17), none, (.buildSlice 1 [(.int .u8 0)] 3 [(0, (1, (.c (.int .u8 97)))), (1, (1, (.c (.int .u8 98)))), (2, (1, (.c (.int .u8 99))))])⟩,
   ⟨(some 18), none, (.conv .mark (.t 17))⟩,
   ⟨(some 19), none, (.call 14 [(.t 18), (.c (.int .i64 1)), (.c (.int .i64 2))])⟩,
   ⟨(some 16), none, (.mv (.t 19))⟩,
   ⟨(some 20), none, (.extract 0 (.t 16))⟩,
   ⟨(some 21), none, (.extract 1 (.t 16))⟩,
   ⟨(some 5), none, (.mv (.t 20))⟩,
   ⟨(some 6), none, (.mv (.t 21))⟩])
 (.seq
 (.reg [⟨(some 22), none, (.call 11 [(.c (.slice none 0 0 none)), (.c (.int .u64 258)), (.c (.int .i64 3))])⟩,
   ⟨(some 23), none, (.conv .bytesStr (.t 22))⟩,
   ⟨(some 24), none, (.bin .eql .str (.t 23) (.c (.str [0, 1, 2])))⟩,
   ⟨(some 25), none, (.mv (.t 24))⟩,
   ⟨(some 26), (some (25, true)), (.mv (.t 1))⟩,
   ⟨(some 27), (some (25, true)), (.bin .eql .num (.t 26) (.c (.int .u64 258)))⟩,
   ⟨(some 28), none, (.pick (.t 25) (.t 27) (.c (.bool false)))⟩,
   ⟨(some 29), none, (.mv (.t 28))⟩,
   ⟨(some 30), (some (29, true)), (.mv (.t 2))⟩,
   ⟨(some 31), none, (.pick (.t 29) (.t 30) (.c (.bool false)))⟩,
   ⟨(some 32), none, (.mv (.t 31))⟩,
   ⟨(some 33), (some (32, true)), (.mv (.t 4))⟩,
   ⟨(some 34), (some (32, true)), (.un .not (.t 33))⟩,
   ⟨(some 35), none, (.pick (.t 32) (.t 34) (.c (.bool false)))⟩,
   ⟨(some 36), none, (.mv (.t 35))⟩,
   ⟨(some 37), (some (36, true)), (.mv (.t 5))⟩,
   ⟨(some 38), (some (36, true)), (.conv .bytesStr (.t 37))⟩,
   ⟨(some 39), (some (36, true)), (.bin .eql .str (.t 38) (.c (.str [98, 99])))⟩,
   ⟨(some 40), none, (.pick (.t 36) (.t 39) (.c (.bool false)))⟩,
   ⟨(some 41), none, (.mv (.t 40))⟩,
   ⟨(some 42), (some (41, true)), (.mv (.t 6))⟩,
   ⟨(some 43), none, (.pick (.t 41) (.t 42) (.c (.bool false)))⟩,
   ⟨(some 44), none, (.mv (.t 43))⟩,
   ⟨(some 45), (some (44, true)), (.buildSlice 1 [(.int .u8 0)] 1 [(0, (1, (.c (.int .u8 1))))])⟩,
   ⟨(some 46), (some (44, true)), (.call 13 [(.t 45), (.c (.int .i64 4))])⟩,
   ⟨(some 47), (some (44, true)), (.len (.t 46))⟩,
   ⟨(some 48), (some (44, true)), (.bin .eql .num (.t 47) (.c (.int .i64 4)))⟩,
   ⟨(some 49), none, (.pick (.t 44) (.t 48) (.c (.bool false)))⟩,
   ⟨(some 50), none, (.mv (.t 49))⟩,
   ⟨(some 51), (some (50, true)), (.mkSlice 1 1 [(.int .u8 0)] (.c (.int .i64 4)) (.c (.int .i64 4)))⟩,
   ⟨(some 52), (some (50, true)), (.call 13 [(.t 51), (.c (.int .i64 4))])⟩,
   ⟨(some 53), (some (50, true)), (.len (.t 52))⟩,
   ⟨(some 54), (some (50, true)), (.bin .eql .num (.t 53) (.c (.int .i64 4)))⟩,
   ⟨(some 55), none, (.pick (.t 50) (.t 54) (.c (.bool false)))⟩,
   ⟨(some 56), none, (.mv (.t 55))⟩,
   ⟨(some 57), (some (56, true)), (.call 11 [(.c (.slice none 0 0 none)), (.c (.int .u64 1)), (.c (.int .i64 9))])⟩,
   ⟨(some 58), (some (56, true)), (.len (.t 57))⟩,
   ⟨(some 59), (some (56, true)), (.bin .eql .num (.t 58) (.c (.int .i64 0)))⟩,
   ⟨(some 60), none, (.pick (.t 56) (.t 59) (.c (.bool false)))⟩,
   ⟨(some 0), none, (.mv (.t 60))⟩]) .ret)))))⟩
theorem caf9 : cFunc Try.prog Try.f9 = some af9 := by kernel_rfl
/-- limelight/limelightbook.Within -/
def af10 : AFunc := ⟨33, [(.tmp 6)],
 (.seq
 (.reg [⟨(some 6), none, (.mv (.c (.int .i64 0)))⟩])
 (.seq
 (.seq
 (.reg [⟨(some 7), none, (.mv (.t 0))⟩,
   ⟨(some 8), none, (.mv (.t 1))⟩,
   ⟨(some 9), none, (.bin .geq .num (.t 7) (.t 8))⟩,
   ⟨(some 10), none, (.mv (.t 9))⟩,
   ⟨(some 11), (some (10, true)), (.mv (.t 0))⟩,
   ⟨(some 12), (some (10, true)), (.mv (.t 2))⟩,
   ⟨(some 13), (some (10, true)), (.bin .leq .num (.t 11) (.t 12))⟩,
   ⟨(some 14), none, (.pick (.t 10) (.t 13) (.c (.bool false)))⟩])
 (.cond (.t 14)
 (.seq
 (.reg [⟨(some 15), none, (.mv (.t 0))⟩,
   ⟨(some 6), none, (.mv (.t 15))⟩]) .ret) .skip))
 (.seq
 (.reg [⟨(some 16), none, (.mv (.t 0))⟩,
   ⟨(some 17), none, (.mv (.t 2))⟩,
   ⟨(some 18), none, (.mv (.t 1))⟩,
   ⟨(some 19), none, (.bin .sub .num (.t 17) (.t 18))⟩,
   ⟨(some 20), none, (.bin .add .num (.t 19) (.c (.int .i64 1)))⟩,
   ⟨(some 21), none, (.bin .rem .num (.t 16) (.t 20))⟩,
   ⟨(some 0), none, (.mv (.t 21))⟩])
 (.seq
 (.seq
 (.reg [⟨(some 22), none, (.mv (.t 0))⟩,
   ⟨(some 23), none, (.bin .lss .num (.t 22) (.c (.int .i64 0)))⟩])
 (.cond (.t 23)
 (.reg [⟨(some 24), none, (.mv (.t 0))⟩,
   ⟨(some 25), none, (.mv (.t 2))⟩,
   ⟨(some 26), none, (.bin .add .num (.t 24) (.t 25))⟩,
   ⟨(some 27), none, (.mv (.t 1))⟩,
   ⟨(some 28), none, (.bin .sub .num (.t 26) (.t 27))⟩,
   ⟨(some 29), none, (.bin .add .num (.t 28) (.c (.int .i64 1)))⟩,
   ⟨(some 0), none, (.mv (.t 29))⟩]) .skip))
 (.seq
 (.reg [⟨(some 30), none, (.mv (.t 1))⟩,
   ⟨(some 31), none, (.mv (.t 0))⟩,
   ⟨(some 32), none, (.bin .add .num (.t 30) (.t 31))⟩,
   ⟨(some 6), none, (.mv (.t 32))⟩]) .ret)))))⟩
theorem caf10 : cFunc Try.prog Try.f10 = some af10 := by kernel_rfl
def af11_l0 : AC :=
 (.seq
 (.seq
 (.reg [⟨(some 20), none, (.mv (.t 8))⟩,
   ⟨(some 21), none, (.bin .geq .num (.t 20) (.c (.int .i64 0)))⟩])
 (.cond (.t 21) .skip (.exit 0)))
 (.seq
 (.block 1
 (.reg [⟨(some 24), none, (.mv (.t 7))⟩,
   ⟨(some 25), none, (.mv (.t 1))⟩,
   ⟨(some 26), none, (.mv (.t 8))⟩,
   ⟨(some 27), none, (.bin .mul .num (.t 26) (.c (.int .i64 8)))⟩,
   ⟨(some 28), none, (.bin .shr .num (.t 25) (.t 27))⟩,
   ⟨(some 29), none, (.conv (.int .u8) (.t 28))⟩,
   ⟨(some 30), none, (.buildSlice 1 [(.int .u8 0)] 1 [(0, (1, (.t 29)))])⟩,
   ⟨(some 31), none, (.append 1 1 (.t 24) (.t 30))⟩,
   ⟨(some 7), none, (.mv (.t 31))⟩]))
 (.reg [⟨(some 22), none, (.mv (.t 8))⟩,
   ⟨(some 23), none, (.bin .sub .num (.t 22) (.c (.int .i64 1)))⟩,
   ⟨(some 8), none, (.mv (.t 23))⟩])))
/-- limelight/octet.Put -/
def af11 : AFunc := ⟨34, [(.tmp 6)],
 (.seq
 (.reg [⟨(some 6), none, (.mv (.c (.slice none 0 0 none)))⟩])
 (.seq
 (.reg [⟨(some 9), none, (.mv (.t 0))⟩,
   ⟨(some 10), none, (.call 19 [(.t 9)])⟩,
   ⟨(some 7), none, (.mv (.t 10))⟩])
 (.seq
 (.seq
 (.reg [⟨(some 11), none, (.mv (.t 2))⟩,
   ⟨(some 12), none, (.bin .lss .num (.t 11) (.c (.int .i64 1)))⟩,
   ⟨(some 13), none, (.mv (.t 12))⟩,
   ⟨(some 14), (some (13, false)), (.mv (.t 2))⟩,
   ⟨(some 15), (some (13, false)), (.bin .gtr .num (.t 14) (.c (.int .i64 8)))⟩,
   ⟨(some 16), none, (.pick (.t 13) (.c (.bool true)) (.t 15))⟩])
 (.cond (.t 16)
 (.seq
 (.reg [⟨(some 17), none, (.mv (.t 7))⟩,
   ⟨(some 6), none, (.mv (.t 17))⟩]) .ret) .skip))
 (.seq
 (.seq
 (.reg [⟨(some 18), none, (.mv (.t 2))⟩,
   ⟨(some 19), none, (.bin .sub .num (.t 18) (.c (.int .i64 1)))⟩,
   ⟨(some 8), none, (.mv (.t 19))⟩])
 (.block 0
 (.loop af11_l0)))
 (.seq
 (.reg [⟨(some 32), none, (.mv (.t 7))⟩,
   ⟨(some 33), none, (.call 20 [(.t 32)])⟩,
   ⟨(some 6), none, (.mv (.t 33))⟩]) .ret)))))⟩
theorem caf11 : cFunc Try.prog Try.f11 = some af11 := by kernel_rfl
def af12_l0 : AC :=
 (.seq
 (.reg [⟨(some 33), none, (.bin .lss .num (.t 32) (.t 31))⟩])
 (.seq
 (.cond (.t 33) .skip (.exit 0))
 (.seq
 (.block 1
 (.seq
 (.reg [⟨(some 34), none, (.ixSlice 1 (.t 30) (.t 32))⟩,
   ⟨(some 35), none, (.load1 (.t 34))⟩,
   ⟨(some 12), none, (.mv (.t 35))⟩])
 (.reg [⟨(some 36), none, (.mv (.t 10))⟩,
   ⟨(some 37), none, (.bin .shl .num (.t 36) (.c (.int .u64 8)))⟩,
   ⟨(some 38), none, (.mv (.t 12))⟩,
   ⟨(some 39), none, (.conv (.int .u64) (.t 38))⟩,
   ⟨(some 40), none, (.bin .or .num (.t 37) (.t 39))⟩,
   ⟨(some 10), none, (.mv (.t 40))⟩])))
 (.reg [⟨(some 41), none, (.bin .add .num (.t 32) (.c (.int .i64 1)))⟩,
   ⟨(some 32), none, (.mv (.t 41))⟩]))))
/-- limelight/octet.Get -/
def af12 : AFunc := ⟨43, [(.tmp 6), (.tmp 7)],
 (.seq
 (.reg [⟨(some 6), none, (.mv (.c (.int .u64 0)))⟩,
   ⟨(some 7), none, (.mv (.c (.bool false)))⟩])
 (.seq
 (.reg [⟨(some 14), none, (.mv (.t 0))⟩,
   ⟨(some 15), none, (.mv (.t 1))⟩,
   ⟨(some 16), none, (.mv (.t 2))⟩,
   ⟨(some 17), none, (.call 14 [(.t 14), (.t 15), (.t 16)])⟩,
   ⟨(some 13), none, (.mv (.t 17))⟩,
   ⟨(some 18), none, (.extract 0 (.t 13))⟩,
   ⟨(some 19), none, (.extract 1 (.t 13))⟩,
   ⟨(some 8), none, (.mv (.t 18))⟩,
   ⟨(some 9), none, (.mv (.t 19))⟩])
 (.seq
 (.seq
 (.reg [⟨(some 20), none, (.mv (.t 9))⟩,
   ⟨(some 21), none, (.un .not (.t 20))⟩,
   ⟨(some 22), none, (.mv (.t 21))⟩,
   ⟨(some 23), (some (22, false)), (.mv (.t 2))⟩,
   ⟨(some 24), (some (22, false)), (.bin .lss .num (.t 23) (.c (.int .i64 1)))⟩,
   ⟨(some 25), none, (.pick (.t 22) (.c (.bool true)) (.t 24))⟩,
   ⟨(some 26), none, (.mv (.t 25))⟩,
   ⟨(some 27), (some (26, false)), (.mv (.t 2))⟩,
   ⟨(some 28), (some (26, false)), (.bin .gtr .num (.t 27) (.c (.int .i64 8)))⟩,
   ⟨(some 29), none, (.pick (.t 26) (.c (.bool true)) (.t 28))⟩])
 (.cond (.t 29)
 (.seq
 (.reg [⟨(some 6), none, (.mv (.c (.int .u64 0)))⟩,
   ⟨(some 7), none, (.mv (.c (.bool false)))⟩]) .ret) .skip))
 (.seq
 (.reg [⟨(some 10), none, (.mv (.c (.int .u64 0)))⟩])
 (.seq
 (.seq
 (.reg [⟨(some 30), none, (.mv (.t 8))⟩,
   ⟨(some 31), none, (.len (.t 30))⟩,
   ⟨(some 32), none, (.mv (.c (.int .i64 0)))⟩])
 (.block 0
 (.loop af12_l0)))
 (.seq
 (.reg [⟨(some 42), none, (.mv (.t 10))⟩,
   ⟨(some 6), none, (.mv (.t 42))⟩,
   ⟨(some 7), none, (.mv (.c (.bool true)))⟩]) .ret))))))⟩
theorem caf12 : cFunc Try.prog Try.f12 = some af12 := by kernel_rfl
def af13_l0 : AC :=
 (.seq
 (.seq
 (.reg [⟨(some 15), none, (.mv (.t 5))⟩,
   ⟨(some 16), none, (.len (.t 15))⟩,
   ⟨(some 17), none, (.mv (.t 1))⟩,
   ⟨(some 18), none, (.bin .rem .num (.t 16) (.t 17))⟩,
   ⟨(some 19), none, (.bin .neq .num (.t 18) (.c (.int .i64 0)))⟩])
 (.cond (.t 19) .skip (.exit 0)))
 (.block 1
 (.reg [⟨(some 20), none, (.mv (.t 5))⟩,
   ⟨(some 21), none, (.buildSlice 1 [(.int .u8 0)] 1 [(0, (1, (.c (.int .u8 0))))])⟩,
   ⟨(some 22), none, (.append 1 1 (.t 20) (.t 21))⟩,
   ⟨(some 5), none, (.mv (.t 22))⟩])))
/-- limelight/octet.Pad -/
def af13 : AFunc := ⟨25, [(.tmp 4)],
 (.seq
 (.reg [⟨(some 4), none, (.mv (.c (.slice none 0 0 none)))⟩])
 (.seq
 (.reg [⟨(some 6), none, (.mv (.t 0))⟩,
   ⟨(some 7), none, (.call 19 [(.t 6)])⟩,
   ⟨(some 5), none, (.mv (.t 7))⟩])
 (.seq
 (.seq
 (.reg [⟨(some 8), none, (.mv (.t 1))⟩,
   ⟨(some 9), none, (.bin .lss .num (.t 8) (.c (.int .i64 1)))⟩,
   ⟨(some 10), none, (.mv (.t 9))⟩,
   ⟨(some 11), (some (10, false)), (.mv (.t 1))⟩,
   ⟨(some 12), (some (10, false)), (.bin .gtr .num (.t 11) (.c (.int .i64 64)))⟩,
   ⟨(some 13), none, (.pick (.t 10) (.c (.bool true)) (.t 12))⟩])
 (.cond (.t 13)
 (.seq
 (.reg [⟨(some 14), none, (.mv (.t 5))⟩,
   ⟨(some 4), none, (.mv (.t 14))⟩]) .ret) .skip))
 (.seq
 (.block 0
 (.loop af13_l0))
 (.seq
 (.reg [⟨(some 23), none, (.mv (.t 5))⟩,
   ⟨(some 24), none, (.call 20 [(.t 23)])⟩,
   ⟨(some 4), none, (.mv (.t 24))⟩]) .ret)))))⟩
theorem caf13 : cFunc Try.prog Try.f13 = some af13 := by kernel_rfl
/-- limelight/octet.Cut -/
def af14 : AFunc := ⟨35, [(.tmp 6), (.tmp 7)],
 (.seq
 (.reg [⟨(some 6), none, (.mv (.c (.slice none 0 0 none)))⟩,
   ⟨(some 7), none, (.mv (.c (.bool false)))⟩])
 (.seq
 (.seq
 (.reg [⟨(some 8), none, (.mv (.t 1))⟩,
   ⟨(some 9), none, (.bin .lss .num (.t 8) (.c (.int .i64 0)))⟩,
   ⟨(some 10), none, (.mv (.t 9))⟩,
   ⟨(some 11), (some (10, false)), (.mv (.t 2))⟩,
   ⟨(some 12), (some (10, false)), (.bin .lss .num (.t 11) (.c (.int .i64 0)))⟩,
   ⟨(some 13), none, (.pick (.t 10) (.c (.bool true)) (.t 12))⟩,
   ⟨(some 14), none, (.mv (.t 13))⟩,
   ⟨(some 15), (some (14, false)), (.mv (.t 1))⟩,
   ⟨(some 16), (some (14, false)), (.mv (.t 0))⟩,
   ⟨(some 17), (some (14, false)), (.len (.t 16))⟩,
   ⟨(some 18), (some (14, false)), (.bin .gtr .num (.t 15) (.t 17))⟩,
   ⟨(some 19), none, (.pick (.t 14) (.c (.bool true)) (.t 18))⟩,
   ⟨(some 20), none, (.mv (.t 19))⟩,
   ⟨(some 21), (some (20, false)), (.mv (.t 2))⟩,
   ⟨(some 22), (some (20, false)), (.mv (.t 0))⟩,
   ⟨(some 23), (some (20, false)), (.len (.t 22))⟩,
   ⟨(some 24), (some (20, false)), (.mv (.t 1))⟩,
   ⟨(some 25), (some (20, false)), (.bin .sub .num (.t 23) (.t 24))⟩,
   ⟨(some 26), (some (20, false)), (.bin .gtr .num (.t 21) (.t 25))⟩,
   ⟨(some 27), none, (.pick (.t 20) (.c (.bool true)) (.t 26))⟩])
 (.cond (.t 27)
 (.seq
 (.reg [⟨(some 6), none, (.mv (.c (.slice none 0 0 none)))⟩,
   ⟨(some 7), none, (.mv (.c (.bool false)))⟩]) .ret) .skip))
 (.seq
 (.reg [⟨(some 28), none, (.mv (.t 0))⟩,
   ⟨(some 29), none, (.mv (.t 1))⟩,
   ⟨(some 30), none, (.mv (.t 1))⟩,
   ⟨(some 31), none, (.mv (.t 2))⟩,
   ⟨(some 32), none, (.bin .add .num (.t 30) (.t 31))⟩,
   ⟨(some 33), none, (.cut 1 (.t 28) (some (.t 29)) (some (.t 32)) none)⟩,
   ⟨(some 34), none, (.call 19 [(.t 33)])⟩,
   ⟨(some 6), none, (.mv (.t 34))⟩,
   ⟨(some 7), none, (.mv (.c (.bool true)))⟩]) .ret)))⟩
theorem caf14 : cFunc Try.prog Try.f14 = some af14 := by kernel_rfl
def af15_l0 : AC :=
 (.seq
 (.seq
 (.reg [⟨(some 34), none, (.mv (.t 9))⟩,
   ⟨(some 35), none, (.mv (.t 2))⟩,
   ⟨(some 36), none, (.bin .lss .num (.t 34) (.t 35))⟩])
 (.cond (.t 36) .skip (.exit 0)))
 (.seq
 (.block 1
 (.reg [⟨(some 39), none, (.mv (.t 8))⟩,
   ⟨(some 40), none, (.bin .shl .num (.t 39) (.c (.int .u64 8)))⟩,
   ⟨(some 41), none, (.mv (.t 0))⟩,
   ⟨(some 42), none, (.mv (.t 1))⟩,
   ⟨(some 43), none, (.mv (.t 9))⟩,
   ⟨(some 44), none, (.bin .add .num (.t 42) (.t 43))⟩,
   ⟨(some 45), none, (.ixSlice 1 (.t 41) (.t 44))⟩,
   ⟨(some 46), none, (.load1 (.t 45))⟩,
   ⟨(some 47), none, (.conv (.int .u64) (.t 46))⟩,
   ⟨(some 48), none, (.bin .or .num (.t 40) (.t 47))⟩,
   ⟨(some 8), none, (.mv (.t 48))⟩]))
 (.reg [⟨(some 37), none, (.mv (.t 9))⟩,
   ⟨(some 38), none, (.bin .add .num (.t 37) (.c (.int .i64 1)))⟩,
   ⟨(some 9), none, (.mv (.t 38))⟩])))
/-- limelight/limelightref1.Get -/
def af15 : AFunc := ⟨50, [(.tmp 6), (.tmp 7)],
 (.seq
 (.reg [⟨(some 6), none, (.mv (.c (.int .u64 0)))⟩,
   ⟨(some 7), none, (.mv (.c (.bool false)))⟩])
 (.seq
 (.seq
 (.reg [⟨(some 10), none, (.mv (.t 2))⟩,
   ⟨(some 11), none, (.bin .lss .num (.t 10) (.c (.int .i64 1)))⟩,
   ⟨(some 12), none, (.mv (.t 11))⟩,
   ⟨(some 13), (some (12, false)), (.mv (.t 2))⟩,
   ⟨(some 14), (some (12, false)), (.bin .gtr .num (.t 13) (.c (.int .i64 8)))⟩,
   ⟨(some 15), none, (.pick (.t 12) (.c (.bool true)) (.t 14))⟩,
   ⟨(some 16), none, (.mv (.t 15))⟩,
   ⟨(some 17), (some (16, false)), (.mv (.t 1))⟩,
   ⟨(some 18), (some (16, false)), (.bin .lss .num (.t 17) (.c (.int .i64 0)))⟩,
   ⟨(some 19), none, (.pick (.t 16) (.c (.bool true)) (.t 18))⟩,
   ⟨(some 20), none, (.mv (.t 19))⟩,
   ⟨(some 21), (some (20, false)), (.mv (.t 1))⟩,
   ⟨(some 22), (some (20, false)), (.mv (.t 0))⟩,
   ⟨(some 23), (some (20, false)), (.len (.t 22))⟩,
   ⟨(some 24), (some (20, false)), (.bin .gtr .num (.t 21) (.t 23))⟩,
   ⟨(some 25), none, (.pick (.t 20) (.c (.bool true)) (.t 24))⟩,
   ⟨(some 26), none, (.mv (.t 25))⟩,
   ⟨(some 27), (some (26, false)), (.mv (.t 2))⟩,
   ⟨(some 28), (some (26, false)), (.mv (.t 0))⟩,
   ⟨(some 29), (some (26, false)), (.len (.t 28))⟩,
   ⟨(some 30), (some (26, false)), (.mv (.t 1))⟩,
   ⟨(some 31), (some (26, false)), (.bin .sub .num (.t 29) (.t 30))⟩,
   ⟨(some 32), (some (26, false)), (.bin .gtr .num (.t 27) (.t 31))⟩,
   ⟨(some 33), none, (.pick (.t 26) (.c (.bool true)) (.t 32))⟩])
 (.cond (.t 33)
 (.seq
 (.reg [⟨(some 6), none, (.mv (.c (.int .u64 0)))⟩,
   ⟨(some 7), none, (.mv (.c (.bool false)))⟩]) .ret) .skip))
 (.seq
 (.reg [⟨(some 8), none, (.mv (.c (.int .u64 0)))⟩])
 (.seq
 (.seq
 (.reg [⟨(some 9), none, (.mv (.c (.int .i64 0)))⟩])
 (.block 0
 (.loop af15_l0)))
 (.seq
 (.reg [⟨(some 49), none, (.mv (.t 8))⟩,
   ⟨(some 6), none, (.mv (.t 49))⟩,
   ⟨(some 7), none, (.mv (.c (.bool true)))⟩]) .ret)))))⟩
theorem caf15 : cFunc Try.prog Try.f15 = some af15 := by kernel_rfl
/-- limelight/limelightref1.Cut -/
def af16 : AFunc := ⟨36, [(.tmp 6), (.tmp 7)],
 (.seq
 (.reg [⟨(some 6), none, (.mv (.c (.slice none 0 0 none)))⟩,
   ⟨(some 7), none, (.mv (.c (.bool false)))⟩])
 (.seq
 (.seq
 (.reg [⟨(some 8), none, (.mv (.t 1))⟩,
   ⟨(some 9), none, (.bin .lss .num (.t 8) (.c (.int .i64 0)))⟩,
   ⟨(some 10), none, (.mv (.t 9))⟩,
   ⟨(some 11), (some (10, false)), (.mv (.t 2))⟩,
   ⟨(some 12), (some (10, false)), (.bin .lss .num (.t 11) (.c (.int .i64 0)))⟩,
   ⟨(some 13), none, (.pick (.t 10) (.c (.bool true)) (.t 12))⟩,
   ⟨(some 14), none, (.mv (.t 13))⟩,
   ⟨(some 15), (some (14, false)), (.mv (.t 1))⟩,
   ⟨(some 16), (some (14, false)), (.mv (.t 0))⟩,
   ⟨(some 17), (some (14, false)), (.len (.t 16))⟩,
   ⟨(some 18), (some (14, false)), (.bin .gtr .num (.t 15) (.t 17))⟩,
   ⟨(some 19), none, (.pick (.t 14) (.c (.bool true)) (.t 18))⟩,
   ⟨(some 20), none, (.mv (.t 19))⟩,
   ⟨(some 21), (some (20, false)), (.mv (.t 2))⟩,
   ⟨(some 22), (some (20, false)), (.mv (.t 0))⟩,
   ⟨(some 23), (some (20, false)), (.len (.t 22))⟩,
   ⟨(some 24), (some (20, false)), (.mv (.t 1))⟩,
   ⟨(some 25), (some (20, false)), (.bin .sub .num (.t 23) (.t 24))⟩,
   ⟨(some 26), (some (20, false)), (.bin .gtr .num (.t 21) (.t 25))⟩,
   ⟨(some 27), none, (.pick (.t 20) (.c (.bool true)) (.t 26))⟩])
 (.cond (.t 27)
 (.seq
 (.reg [⟨(some 6), none, (.mv (.c (.slice none 0 0 none)))⟩,
   ⟨(some 7), none, (.mv (.c (.bool false)))⟩]) .ret) .skip))
 (.seq
 (.reg [⟨(some 28), none, (.buildSlice 1 [(.int .u8 0)] 0 [])⟩,
   ⟨(some 29), none, (.mv (.t 0))⟩,
   ⟨(some 30), none, (.mv (.t 1))⟩,
   ⟨(some 31), none, (.mv (.t 1))⟩,
   ⟨(some 32), none, (.mv (.t 2))⟩,
   ⟨(some 33), none, (.bin .add .num (.t 31) (.t 32))⟩,
   ⟨(some 34), none, (.cut 1 (.t 29) (some (.t 30)) (some (.t 33)) none)⟩,
   ⟨(some 35), none, (.append 1 1 (.t 28) (.t 34))⟩,
   ⟨(some 6), none, (.mv (.t 35))⟩,
   ⟨(some 7), none, (.mv (.c (.bool true)))⟩]) .ret)))⟩
theorem caf16 : cFunc Try.prog Try.f16 = some af16 := by kernel_rfl
def af17_l0 : AC :=
 (.seq
 (.seq
 (.reg [⟨(some 21), none, (.mv (.t 8))⟩,
   ⟨(some 22), none, (.bin .geq .num (.t 21) (.c (.int .i64 0)))⟩])
 (.cond (.t 22) .skip (.exit 0)))
 (.seq
 (.block 1
 (.reg [⟨(some 25), none, (.mv (.t 7))⟩,
   ⟨(some 26), none, (.mv (.t 1))⟩,
   ⟨(some 27), none, (.mv (.t 8))⟩,
   ⟨(some 28), none, (.bin .mul .num (.c (.int .i64 8)) (.t 27))⟩,
   ⟨(some 29), none, (.conv (.int .u64) (.t 28))⟩,
   ⟨(some 30), none, (.bin .shr .num (.t 26) (.t 29))⟩,
   ⟨(some 31), none, (.conv (.int .u8) (.t 30))⟩,
   ⟨(some 32), none, (.buildSlice 1 [(.int .u8 0)] 1 [(0, (1, (.t 31)))])⟩,
   ⟨(some 33), none, (.append 1 1 (.t 25) (.t 32))⟩,
   ⟨(some 7), none, (.mv (.t 33))⟩]))
 (.reg [⟨(some 23), none, (.mv (.t 8))⟩,
   ⟨(some 24), none, (.bin .sub .num (.t 23) (.c (.int .i64 1)))⟩,
   ⟨(some 8), none, (.mv (.t 24))⟩])))
/-- limelight/limelightref1.Put -/
def af17 : AFunc := ⟨35, [(.tmp 6)],
 (.seq
 (.reg [⟨(some 6), none, (.mv (.c (.slice none 0 0 none)))⟩])
 (.seq
 (.reg [⟨(some 9), none, (.buildSlice 1 [(.int .u8 0)] 0 [])⟩,
   ⟨(some 10), none, (.mv (.t 0))⟩,
   ⟨(some 11), none, (.append 1 1 (.t 9) (.t 10))⟩,
   ⟨(some 7), none, (.mv (.t 11))⟩])
 (.seq
 (.seq
 (.reg [⟨(some 12), none, (.mv (.t 2))⟩,
   ⟨(some 13), none, (.bin .lss .num (.t 12) (.c (.int .i64 1)))⟩,
   ⟨(some 14), none, (.mv (.t 13))⟩,
   ⟨(some 15), (some (14, false)), (.mv (.t 2))⟩,
   ⟨(some 16), (some (14, false)), (.bin .gtr .num (.t 15) (.c (.int .i64 8)))⟩,
   ⟨(some 17), none, (.pick (.t 14) (.c (.bool true)) (.t 16))⟩])
 (.cond (.t 17)
 (.seq
 (.reg [⟨(some 18), none, (.mv (.t 7))⟩,
   ⟨(some 6), none, (.mv (.t 18))⟩]) .ret) .skip))
 (.seq
 (.seq
 (.reg [⟨(some 19), none, (.mv (.t 2))⟩,
   ⟨(some 20), none, (.bin .sub .num (.t 19) (.c (.int .i64 1)))⟩,
   ⟨(some 8), none, (.mv (.t 20))⟩])
 (.block 0
 (.loop af17_l0)))
 (.seq
 (.reg [⟨(some 34), none, (.mv (.t 7))⟩,
   ⟨(some 6), none, (.mv (.t 34))⟩]) .ret)))))⟩
theorem caf17 : cFunc Try.prog Try.f17 = some af17 := by kernel_rfl
def af18_l0 : AC :=
 (.seq
 (.seq
 (.reg [⟨(some 9), none, (.mv (.t 1))⟩,
   ⟨(some 10), none, (.bin .geq .num (.t 9) (.c (.int .i64 1)))⟩,
   ⟨(some 11), none, (.mv (.t 10))⟩,
   ⟨(some 12), (some (11, true)), (.mv (.t 1))⟩,
   ⟨(some 13), (some (11, true)), (.bin .leq .num (.t 12) (.c (.int .i64 64)))⟩,
   ⟨(some 14), none, (.pick (.t 11) (.t 13) (.c (.bool false)))⟩,
   ⟨(some 15), none, (.mv (.t 14))⟩,
   ⟨(some 16), (some (15, true)), (.mv (.t 5))⟩,
   ⟨(some 17), (some (15, true)), (.len (.t 16))⟩,
   ⟨(some 18), (some (15, true)), (.mv (.t 1))⟩,
   ⟨(some 19), (some (15, true)), (.bin .rem .num (.t 17) (.t 18))⟩,
   ⟨(some 20), (some (15, true)), (.bin .neq .num (.t 19) (.c (.int .i64 0)))⟩,
   ⟨(some 21), none, (.pick (.t 15) (.t 20) (.c (.bool false)))⟩])
 (.cond (.t 21) .skip (.exit 0)))
 (.block 1
 (.reg [⟨(some 22), none, (.mv (.t 5))⟩,
   ⟨(some 23), none, (.buildSlice 1 [(.int .u8 0)] 1 [(0, (1, (.c (.int .u8 0))))])⟩,
   ⟨(some 24), none, (.append 1 1 (.t 22) (.t 23))⟩,
   ⟨(some 5), none, (.mv (.t 24))⟩])))
/-- limelight/limelightref1.Pad -/
def af18 : AFunc := ⟨26, [(.tmp 4)],
 (.seq
 (.reg [⟨(some 4), none, (.mv (.c (.slice none 0 0 none)))⟩])
 (.seq
 (.reg [⟨(some 6), none, (.buildSlice 1 [(.int .u8 0)] 0 [])⟩,
   ⟨(some 7), none, (.mv (.t 0))⟩,
   ⟨(some 8), none, (.append 1 1 (.t 6) (.t 7))⟩,
   ⟨(some 5), none, (.mv (.t 8))⟩])
 (.seq
 (.block 0
 (.loop af18_l0))
 (.seq
 (.reg [⟨(some 25), none, (.mv (.t 5))⟩,
   ⟨(some 4), none, (.mv (.t 25))⟩]) .ret))))⟩
theorem caf18 : cFunc Try.prog Try.f18 = some af18 := by kernel_rfl
/-- slices.Clone[[]byte,byte] -/
def af19 : AFunc := ⟨8, [(.tmp 2)],
 (.seq
 (.reg [⟨(some 2), none, (.mv (.c (.slice none 0 0 none)))⟩])
 (.seq
 (.seq
 (.reg [⟨(some 3), none, (.mv (.t 0))⟩,
   ⟨(some 4), none, (.bin .eql .slc (.t 3) (.c (.slice none 0 0 none)))⟩])
 (.cond (.t 4)
 (.seq
 (.reg [⟨(some 2), none, (.mv (.c (.slice none 0 0 none)))⟩]) .ret) .skip))
 (.seq
 (.reg [⟨(some 5), none, (.buildSlice 1 [(.int .u8 0)] 0 [])⟩,
   ⟨(some 6), none, (.mv (.t 0))⟩,
   ⟨(some 7), none, (.append 1 1 (.t 5) (.t 6))⟩,
   ⟨(some 2), none, (.mv (.t 7))⟩]) .ret)))⟩
theorem caf19 : cFunc Try.prog Try.f19 = some af19 := by kernel_rfl
/-- slices.Clip[[]byte,byte] -/
def af20 : AFunc := ⟨9, [(.tmp 2)],
 (.seq
 (.reg [⟨(some 2), none, (.mv (.c (.slice none 0 0 none)))⟩])
 (.seq
 (.reg [⟨(some 3), none, (.mv (.t 0))⟩,
   ⟨(some 4), none, (.mv (.t 0))⟩,
   ⟨(some 5), none, (.len (.t 4))⟩,
   ⟨(some 6), none, (.mv (.t 0))⟩,
   ⟨(some 7), none, (.len (.t 6))⟩,
   ⟨(some 8), none, (.cut 1 (.t 3) none (some (.t 5)) (some (.t 7)))⟩,
   ⟨(some 2), none, (.mv (.t 8))⟩]) .ret))⟩
theorem caf20 : cFunc Try.prog Try.f20 = some af20 := by kernel_rfl
def AP : Nat → Option AFunc
  | 3 => some af3
  | 4 => some af4
  | 5 => some af5
  | 6 => some af6
  | 7 => some af7
  | 8 => some af8
  | 9 => some af9
  | 10 => some af10
  | 11 => some af11
  | 12 => some af12
  | 13 => some af13
  | 14 => some af14
  | 15 => some af15
  | 16 => some af16
  | 17 => some af17
  | 18 => some af18
  | 19 => some af19
  | 20 => some af20
  | _ => none
theorem apOk : APOk Try.prog AP := by
  intro f af h
  unfold AP at h
  split at h
  · cases h; exact ⟨_, Try.func3, caf3⟩
  · cases h; exact ⟨_, Try.func4, caf4⟩
  · cases h; exact ⟨_, Try.func5, caf5⟩
  · cases h; exact ⟨_, Try.func6, caf6⟩
  · cases h; exact ⟨_, Try.func7, caf7⟩
  · cases h; exact ⟨_, Try.func8, caf8⟩
  · cases h; exact ⟨_, Try.func9, caf9⟩
  · cases h; exact ⟨_, Try.func10, caf10⟩
  · cases h; exact ⟨_, Try.func11, caf11⟩
  · cases h; exact ⟨_, Try.func12, caf12⟩
  · cases h; exact ⟨_, Try.func13, caf13⟩
  · cases h; exact ⟨_, Try.func14, caf14⟩
  · cases h; exact ⟨_, Try.func15, caf15⟩
  · cases h; exact ⟨_, Try.func16, caf16⟩
  · cases h; exact ⟨_, Try.func17, caf17⟩
  · cases h; exact ⟨_, Try.func18, caf18⟩
  · cases h; exact ⟨_, Try.func19, caf19⟩
  · cases h; exact ⟨_, Try.func20, caf20⟩
  · cases h
theorem mixed : Try.prog.follows .mixedOrders = true := by kernel_rfl
end Go.Proofs.YtgplnlhbloamaaaA
