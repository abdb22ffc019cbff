/- The loaded functions of this seat, their types resolved: printed by a program of this claim; each is held against the loaded one. -/
import Derived.Test.YtkjmhhoioanolaaAeZ
import Derived.Test.YtkjmhhoioanolaaProg
set_option maxRecDepth 100000
namespace Go.Proofs.YtkjmhhoioanolaaA
open Go.RowKit
def af3_l0 : AC :=
 (.seq
 (.reg [⟨(some 87), none, (.bin .lss .num (.t 86) (.t 85))⟩])
 (.seq
 (.cond (.t 87) .skip (.exit 6))
 (.seq
 (.block 7
 (.seq
 (.reg [⟨(some 88), none, (.ixSlice 1 (.t 84) (.t 86))⟩,
   ⟨(some 89), none, (.load1 (.t 88))⟩,
   ⟨(some 14), none, (.mv (.t 89))⟩])
 (.seq
 (.seq
 (.reg [⟨(some 90), none, (.mv (.t 14))⟩,
   ⟨(some 91), none, (.len (.t 90))⟩,
   ⟨(some 92), none, (.bin .eql .num (.t 91) (.c (.int .i64 0)))⟩])
 (.cond (.t 92)
 (.seq
 (.reg [⟨(some 4), none, (.mv (.c (.bool false)))⟩]) .ret) .skip))
 (.reg [⟨(some 93), none, (.mv (.t 7))⟩,
   ⟨(some 94), none, (.mv (.t 14))⟩,
   ⟨(some 95), none, (.ixSlice 1 (.t 94) (.c (.int .i64 0)))⟩,
   ⟨(some 96), none, (.load1 (.t 95))⟩,
   ⟨(some 97), none, (.buildSlice 1 [(.int .u8 0)] 1 [(0, (1, (.t 96)))])⟩,
   ⟨(some 98), none, (.append 1 1 (.t 93) (.t 97))⟩,
   ⟨(some 7), none, (.mv (.t 98))⟩]))))
 (.reg [⟨(some 99), none, (.bin .add .num (.t 86) (.c (.int .i64 1)))⟩,
   ⟨(some 86), none, (.mv (.t 99))⟩]))))
def af3_l1 : AC :=
 (.seq
 (.seq
 (.reg [⟨(some 72), none, (.mv (.t 12))⟩,
   ⟨(some 73), none, (.bin .lss .num (.t 72) (.c (.int .i64 100)))⟩,
   ⟨(some 74), none, (.mv (.t 73))⟩,
   ⟨(some 75), (some (74, true)), (.mv (.t 5))⟩,
   ⟨(some 76), (some (74, true)), (.call 12 [(.t 75)])⟩,
   ⟨(some 77), (some (74, true)), (.bin .gtr .num (.t 76) (.c (.int .i64 0)))⟩,
   ⟨(some 78), none, (.pick (.t 74) (.t 77) (.c (.bool false)))⟩])
 (.cond (.t 78) .skip (.exit 4)))
 (.seq
 (.block 5
 (.seq
 (.reg [⟨(some 81), none, (.mv (.t 5))⟩,
   ⟨(some 82), none, (.call 10 [(.t 81), (.c (.int .i64 1000000))])⟩])
 (.seq
 (.reg [⟨(some 83), none, (.mv (.t 5))⟩,
   ⟨(some 84), none, (.call 11 [(.t 83)])⟩,
   ⟨(some 85), none, (.len (.t 84))⟩,
   ⟨(some 86), none, (.mv (.c (.int .i64 0)))⟩])
 (.block 6
 (.loop af3_l0)))))
 (.reg [⟨(some 79), none, (.mv (.t 12))⟩,
   ⟨(some 80), none, (.bin .add .num (.t 79) (.c (.int .i64 1)))⟩,
   ⟨(some 12), none, (.mv (.t 80))⟩])))
def af3_l2 : AC :=
 (.seq
 (.reg [⟨(some 59), none, (.bin .lss .num (.t 58) (.t 57))⟩])
 (.seq
 (.cond (.t 59) .skip (.exit 2))
 (.seq
 (.block 3
 (.seq
 (.reg [⟨(some 60), none, (.ixSlice 1 (.t 56) (.t 58))⟩,
   ⟨(some 61), none, (.load1 (.t 60))⟩,
   ⟨(some 11), none, (.mv (.t 61))⟩])
 (.seq
 (.seq
 (.reg [⟨(some 62), none, (.mv (.t 11))⟩,
   ⟨(some 63), none, (.len (.t 62))⟩,
   ⟨(some 64), none, (.bin .eql .num (.t 63) (.c (.int .i64 0)))⟩])
 (.cond (.t 64)
 (.seq
 (.reg [⟨(some 4), none, (.mv (.c (.bool false)))⟩]) .ret) .skip))
 (.reg [⟨(some 65), none, (.mv (.t 7))⟩,
   ⟨(some 66), none, (.mv (.t 11))⟩,
   ⟨(some 67), none, (.ixSlice 1 (.t 66) (.c (.int .i64 0)))⟩,
   ⟨(some 68), none, (.load1 (.t 67))⟩,
   ⟨(some 69), none, (.buildSlice 1 [(.int .u8 0)] 1 [(0, (1, (.t 68)))])⟩,
   ⟨(some 70), none, (.append 1 1 (.t 65) (.t 69))⟩,
   ⟨(some 7), none, (.mv (.t 70))⟩]))))
 (.reg [⟨(some 71), none, (.bin .add .num (.t 58) (.c (.int .i64 1)))⟩,
   ⟨(some 58), none, (.mv (.t 71))⟩]))))
def af3_l3 : AC :=
 (.seq
 (.seq
 (.reg [⟨(some 21), none, (.mv (.t 8))⟩,
   ⟨(some 22), none, (.mv (.t 0))⟩,
   ⟨(some 23), none, (.len (.t 22))⟩,
   ⟨(some 24), none, (.bin .lss .num (.t 21) (.t 23))⟩,
   ⟨(some 25), none, (.mv (.t 24))⟩,
   ⟨(some 26), (some (25, true)), (.mv (.t 8))⟩,
   ⟨(some 27), (some (25, true)), (.bin .lss .num (.t 26) (.c (.int .i64 40)))⟩,
   ⟨(some 28), none, (.pick (.t 25) (.t 27) (.c (.bool false)))⟩])
 (.cond (.t 28) .skip (.exit 0)))
 (.seq
 (.block 1
 (.seq
 (.reg [⟨(some 31), none, (.mv (.t 0))⟩,
   ⟨(some 32), none, (.mv (.t 8))⟩,
   ⟨(some 33), none, (.ixSlice 1 (.t 31) (.t 32))⟩,
   ⟨(some 34), none, (.load1 (.t 33))⟩,
   ⟨(some 35), none, (.call 8 [(.t 34), (.c (.int .i64 0)), (.c (.int .i64 300))])⟩,
   ⟨(some 36), none, (.bin .add .num (.c (.int .i64 1)) (.t 35))⟩,
   ⟨(some 37), none, (.mkSlice 1 1 [(.int .u8 0)] (.t 36) (.t 36))⟩,
   ⟨(some 9), none, (.mv (.t 37))⟩])
 (.seq
 (.reg [⟨(some 38), none, (.mv (.t 9))⟩,
   ⟨(some 39), none, (.mv (.t 8))⟩,
   ⟨(some 40), none, (.conv (.int .u8) (.t 39))⟩,
   ⟨(some 41), none, (.ixSlice 1 (.t 38) (.c (.int .i64 0)))⟩,
   ⟨none, none, (.store 1 (.t 41) (.t 40))⟩])
 (.seq
 (.seq
 (.reg [⟨(some 42), none, (.mv (.t 5))⟩,
   ⟨(some 43), none, (.mv (.t 9))⟩,
   ⟨(some 44), none, (.call 9 [(.t 42), (.t 43)])⟩])
 (.cond (.t 44)
 (.reg [⟨(some 45), none, (.mv (.t 6))⟩,
   ⟨(some 46), none, (.mv (.t 8))⟩,
   ⟨(some 47), none, (.conv (.int .u8) (.t 46))⟩,
   ⟨(some 48), none, (.buildSlice 1 [(.int .u8 0)] 1 [(0, (1, (.t 47)))])⟩,
   ⟨(some 49), none, (.append 1 1 (.t 45) (.t 48))⟩,
   ⟨(some 6), none, (.mv (.t 49))⟩]) .skip))
 (.seq
 (.reg [⟨(some 50), none, (.mv (.t 8))⟩,
   ⟨(some 51), none, (.bin .rem .num (.t 50) (.c (.int .i64 3)))⟩,
   ⟨(some 52), none, (.bin .eql .num (.t 51) (.c (.int .i64 2)))⟩])
 (.cond (.t 52)
 (.seq
 (.reg [⟨(some 53), none, (.mv (.t 5))⟩,
   ⟨(some 54), none, (.call 10 [(.t 53), (.c (.int .i64 50000))])⟩])
 (.seq
 (.reg [⟨(some 55), none, (.mv (.t 5))⟩,
   ⟨(some 56), none, (.call 11 [(.t 55)])⟩,
   ⟨(some 57), none, (.len (.t 56))⟩,
   ⟨(some 58), none, (.mv (.c (.int .i64 0)))⟩])
 (.block 2
 (.loop af3_l2)))) .skip))))))
 (.reg [⟨(some 29), none, (.mv (.t 8))⟩,
   ⟨(some 30), none, (.bin .add .num (.t 29) (.c (.int .i64 1)))⟩,
   ⟨(some 8), none, (.mv (.t 30))⟩])))
/-- limelight/limelightlaw11.PaceOrder -/
def af3 : AFunc := ⟨113, [(.tmp 4)],
 (.seq
 (.reg [⟨(some 4), none, (.mv (.c (.bool false)))⟩])
 (.seq
 (.reg [⟨(some 15), none, (.mv (.t 1))⟩,
   ⟨(some 16), none, (.bin .and .num (.t 15) (.c (.int .i64 65535)))⟩,
   ⟨(some 17), none, (.bin .add .num (.c (.int .i64 1000)) (.t 16))⟩,
   ⟨(some 18), none, (.call 7 [(.t 17), (.c (.int .i64 2000))])⟩,
   ⟨(some 5), none, (.mv (.t 18))⟩])
 (.seq
 (.seq
 (.reg [⟨(some 19), none, (.mv (.t 5))⟩,
   ⟨(some 20), none, (.bin .eql .ptr (.t 19) (.c (.ptr none)))⟩])
 (.cond (.t 20)
 (.seq
 (.reg [⟨(some 4), none, (.mv (.c (.bool false)))⟩]) .ret) .skip))
 (.seq
 (.reg [⟨(some 6), none, (.mv (.c (.slice none 0 0 none)))⟩,
   ⟨(some 7), none, (.mv (.c (.slice none 0 0 none)))⟩])
 (.seq
 (.seq
 (.reg [⟨(some 8), none, (.mv (.c (.int .i64 0)))⟩])
 (.block 0
 (.loop af3_l3)))
 (.seq
 (.seq
 (.reg [⟨(some 12), none, (.mv (.c (.int .i64 0)))⟩])
 (.block 4
 (.loop af3_l1)))
 (.seq
 (.reg [⟨(some 100), none, (.mv (.t 7))⟩,
   ⟨(some 101), none, (.conv .bytesStr (.t 100))⟩,
   ⟨(some 102), none, (.mv (.t 6))⟩,
   ⟨(some 103), none, (.conv .bytesStr (.t 102))⟩,
   ⟨(some 104), none, (.bin .eql .str (.t 101) (.t 103))⟩,
   ⟨(some 105), none, (.mv (.t 104))⟩,
   ⟨(some 106), (some (105, true)), (.mv (.t 5))⟩,
   ⟨(some 107), (some (105, true)), (.call 12 [(.t 106)])⟩,
   ⟨(some 108), (some (105, true)), (.bin .eql .num (.t 107) (.c (.int .i64 0)))⟩,
   ⟨(some 109), none, (.pick (.t 105) (.t 108) (.c (.bool false)))⟩,
   ⟨(some 110), none, (.mv (.t 109))⟩,
   ⟨(some 111), (some (110, true)), (.call 13 [])⟩,
   ⟨(some 112), none, (.pick (.t 110) (.t 111) (.c (.bool false)))⟩,
   ⟨(some 4), none, (.mv (.t 112))⟩]) .ret)))))))⟩
theorem caf3 : cFunc Try.prog Try.f3 = some af3 := by kernel_rfl
def af4_l0 : AC :=
 (.seq
 (.seq
 (.reg [⟨(some 12), none, (.mv (.t 8))⟩,
   ⟨(some 13), none, (.mv (.t 0))⟩,
   ⟨(some 14), none, (.len (.t 13))⟩,
   ⟨(some 15), none, (.bin .lss .num (.t 12) (.t 14))⟩,
   ⟨(some 16), none, (.mv (.t 15))⟩,
   ⟨(some 17), (some (16, true)), (.mv (.t 8))⟩,
   ⟨(some 18), (some (16, true)), (.bin .lss .num (.t 17) (.c (.int .i64 60)))⟩,
   ⟨(some 19), none, (.pick (.t 16) (.t 18) (.c (.bool false)))⟩])
 (.cond (.t 19) .skip (.exit 0)))
 (.seq
 (.block 1
 (.seq
 (.reg [⟨(some 22), none, (.mv (.t 5))⟩,
   ⟨(some 23), none, (.mv (.t 0))⟩,
   ⟨(some 24), none, (.mv (.t 8))⟩,
   ⟨(some 25), none, (.ixSlice 1 (.t 23) (.t 24))⟩,
   ⟨(some 26), none, (.load1 (.t 25))⟩,
   ⟨(some 27), none, (.bin .and .num (.t 26) (.c (.int .i64 2047)))⟩,
   ⟨(some 28), none, (.mkSlice 1 1 [(.int .u8 0)] (.t 27) (.t 27))⟩,
   ⟨(some 29), none, (.call 9 [(.t 22), (.t 28)])⟩])
 (.seq
 (.reg [⟨(some 30), none, (.mv (.t 6))⟩,
   ⟨(some 31), none, (.bin .add .num (.t 30) (.c (.int .i64 1)))⟩,
   ⟨(some 6), none, (.mv (.t 31))⟩])
 (.seq
 (.seq
 (.reg [⟨(some 32), none, (.mv (.t 8))⟩,
   ⟨(some 33), none, (.mv (.t 1))⟩,
   ⟨(some 34), none, (.len (.t 33))⟩,
   ⟨(some 35), none, (.bin .lss .num (.t 32) (.t 34))⟩,
   ⟨(some 36), none, (.mv (.t 35))⟩,
   ⟨(some 37), (some (36, true)), (.mv (.t 1))⟩,
   ⟨(some 38), (some (36, true)), (.mv (.t 8))⟩,
   ⟨(some 39), (some (36, true)), (.ixSlice 1 (.t 37) (.t 38))⟩,
   ⟨(some 40), (some (36, true)), (.load1 (.t 39))⟩,
   ⟨(some 41), none, (.pick (.t 36) (.t 40) (.c (.bool false)))⟩])
 (.cond (.t 41)
 (.seq
 (.reg [⟨(some 42), none, (.mv (.t 5))⟩,
   ⟨(some 43), none, (.call 10 [(.t 42), (.c (.int .i64 20000))])⟩])
 (.reg [⟨(some 44), none, (.mv (.t 7))⟩,
   ⟨(some 45), none, (.mv (.t 5))⟩,
   ⟨(some 46), none, (.call 11 [(.t 45)])⟩,
   ⟨(some 47), none, (.len (.t 46))⟩,
   ⟨(some 48), none, (.bin .add .num (.t 44) (.t 47))⟩,
   ⟨(some 7), none, (.mv (.t 48))⟩])) .skip))
 (.seq
 (.reg [⟨(some 49), none, (.mv (.t 6))⟩,
   ⟨(some 50), none, (.mv (.t 7))⟩,
   ⟨(some 51), none, (.mv (.t 5))⟩,
   ⟨(some 52), none, (.call 12 [(.t 51)])⟩,
   ⟨(some 53), none, (.bin .add .num (.t 50) (.t 52))⟩,
   ⟨(some 54), none, (.mv (.t 5))⟩,
   ⟨(some 55), none, (.call 14 [(.t 54)])⟩,
   ⟨(some 56), none, (.bin .add .num (.t 53) (.t 55))⟩,
   ⟨(some 57), none, (.bin .neq .num (.t 49) (.t 56))⟩,
   ⟨(some 58), none, (.mv (.t 57))⟩,
   ⟨(some 59), (some (58, false)), (.mv (.t 5))⟩,
   ⟨(some 60), (some (58, false)), (.call 12 [(.t 59)])⟩,
   ⟨(some 61), (some (58, false)), (.bin .gtr .num (.t 60) (.c (.int .i64 16)))⟩,
   ⟨(some 62), none, (.pick (.t 58) (.c (.bool true)) (.t 61))⟩])
 (.cond (.t 62)
 (.seq
 (.reg [⟨(some 4), none, (.mv (.c (.bool false)))⟩]) .ret) .skip))))))
 (.reg [⟨(some 20), none, (.mv (.t 8))⟩,
   ⟨(some 21), none, (.bin .add .num (.t 20) (.c (.int .i64 1)))⟩,
   ⟨(some 8), none, (.mv (.t 21))⟩])))
/-- limelight/limelightlaw11.PaceCounts -/
def af4 : AFunc := ⟨64, [(.tmp 4)],
 (.seq
 (.reg [⟨(some 4), none, (.mv (.c (.bool false)))⟩])
 (.seq
 (.reg [⟨(some 9), none, (.call 7 [(.c (.int .i64 3000)), (.c (.int .i64 1500))])⟩,
   ⟨(some 5), none, (.mv (.t 9))⟩])
 (.seq
 (.seq
 (.reg [⟨(some 10), none, (.mv (.t 5))⟩,
   ⟨(some 11), none, (.bin .eql .ptr (.t 10) (.c (.ptr none)))⟩])
 (.cond (.t 11)
 (.seq
 (.reg [⟨(some 4), none, (.mv (.c (.bool false)))⟩]) .ret) .skip))
 (.seq
 (.reg [⟨(some 6), none, (.mv (.c (.int .i64 0)))⟩,
   ⟨(some 7), none, (.mv (.c (.int .i64 0)))⟩])
 (.seq
 (.seq
 (.reg [⟨(some 8), none, (.mv (.c (.int .i64 0)))⟩])
 (.block 0
 (.loop af4_l0)))
 (.seq
 (.reg [⟨(some 63), none, (.call 13 [])⟩,
   ⟨(some 4), none, (.mv (.t 63))⟩]) .ret))))))⟩
theorem caf4 : cFunc Try.prog Try.f4 = some af4 := by kernel_rfl
def af5_l0 : AC :=
 (.seq
 (.seq
 (.reg [⟨(some 42), none, (.mv (.t 5))⟩,
   ⟨(some 43), none, (.bin .lss .num (.t 42) (.c (.int .i64 19)))⟩,
   ⟨(some 44), none, (.mv (.t 43))⟩,
   ⟨(some 45), (some (44, true)), (.mv (.t 4))⟩,
   ⟨(some 46), (some (44, true)), (.bin .neq .ptr (.t 45) (.c (.ptr none)))⟩,
   ⟨(some 47), none, (.pick (.t 44) (.t 46) (.c (.bool false)))⟩])
 (.cond (.t 47) .skip (.exit 4)))
 (.seq
 (.block 5
 (.seq
 (.reg [⟨(some 50), none, (.mv (.t 4))⟩,
   ⟨(some 51), none, (.buildSlice 1 [(.int .u8 0)] 1 [(0, (1, (.c (.int .u8 1))))])⟩,
   ⟨(some 52), none, (.call 9 [(.t 50), (.t 51)])⟩,
   ⟨(some 53), none, (.mv (.t 5))⟩,
   ⟨(some 54), none, (.bin .lss .num (.t 53) (.c (.int .i64 16)))⟩,
   ⟨(some 55), none, (.bin .neq .bool (.t 52) (.t 54))⟩])
 (.cond (.t 55)
 (.seq
 (.reg [⟨(some 0), none, (.mv (.c (.bool false)))⟩]) .ret) .skip)))
 (.reg [⟨(some 48), none, (.mv (.t 5))⟩,
   ⟨(some 49), none, (.bin .add .num (.t 48) (.c (.int .i64 1)))⟩,
   ⟨(some 5), none, (.mv (.t 49))⟩])))
def af5_l1 : AC :=
 (.seq
 (.seq
 (.reg [⟨(some 10), none, (.mv (.t 3))⟩,
   ⟨(some 11), none, (.bin .lss .num (.t 10) (.c (.int .i64 80)))⟩])
 (.cond (.t 11) .skip (.exit 2)))
 (.seq
 (.block 3
 (.reg [⟨(some 14), none, (.mv (.t 2))⟩,
   ⟨(some 15), none, (.mv (.t 3))⟩,
   ⟨(some 16), none, (.mv (.t 3))⟩,
   ⟨(some 17), none, (.bin .mul .num (.t 15) (.t 16))⟩,
   ⟨(some 18), none, (.mv (.t 1))⟩,
   ⟨(some 19), none, (.bin .add .num (.t 17) (.t 18))⟩,
   ⟨(some 20), none, (.bin .rem .num (.t 19) (.c (.int .i64 6)))⟩,
   ⟨(some 21), none, (.mv (.t 3))⟩,
   ⟨(some 22), none, (.mv (.t 1))⟩,
   ⟨(some 23), none, (.bin .mul .num (.t 21) (.t 22))⟩,
   ⟨(some 24), none, (.bin .mul .num (.t 23) (.c (.int .i64 7)))⟩,
   ⟨(some 25), none, (.bin .rem .num (.t 24) (.c (.int .i64 600)))⟩,
   ⟨(some 26), none, (.build [(.int .i64 0), (.int .i64 0)] [(0, (1, (.t 20))), (1, (1, (.t 25)))])⟩,
   ⟨(some 27), none, (.buildSlice 2 [(.int .i64 0), (.int .i64 0)] 1 [(0, (2, (.t 26)))])⟩,
   ⟨(some 28), none, (.append 2 16 (.t 14) (.t 27))⟩,
   ⟨(some 2), none, (.mv (.t 28))⟩]))
 (.reg [⟨(some 12), none, (.mv (.t 3))⟩,
   ⟨(some 13), none, (.bin .add .num (.t 12) (.c (.int .i64 1)))⟩,
   ⟨(some 3), none, (.mv (.t 13))⟩])))
def af5_l2 : AC :=
 (.seq
 (.seq
 (.reg [⟨(some 6), none, (.mv (.t 1))⟩,
   ⟨(some 7), none, (.bin .lss .num (.t 6) (.c (.int .i64 40)))⟩])
 (.cond (.t 7) .skip (.exit 0)))
 (.seq
 (.block 1
 (.seq
 (.reg [⟨(some 2), none, (.mv (.c (.slice none 0 0 none)))⟩])
 (.seq
 (.seq
 (.reg [⟨(some 3), none, (.mv (.c (.int .i64 0)))⟩])
 (.block 2
 (.loop af5_l1)))
 (.seq
 (.reg [⟨(some 29), none, (.mv (.t 1))⟩,
   ⟨(some 30), none, (.bin .mul .num (.t 29) (.c (.int .i64 1000)))⟩,
   ⟨(some 31), none, (.mv (.t 1))⟩,
   ⟨(some 32), none, (.bin .mul .num (.t 31) (.c (.int .i64 60)))⟩,
   ⟨(some 33), none, (.mv (.t 2))⟩,
   ⟨(some 34), none, (.call 15 [(.t 30), (.t 32), (.t 33)])⟩,
   ⟨(some 35), none, (.un .not (.t 34))⟩,
   ⟨(some 36), none, (.mv (.t 35))⟩,
   ⟨(some 37), (some (36, false)), (.mv (.t 2))⟩,
   ⟨(some 38), (some (36, false)), (.call 15 [(.c (.int .i64 1048576)), (.c (.int .i64 1048576)), (.t 37)])⟩,
   ⟨(some 39), (some (36, false)), (.un .not (.t 38))⟩,
   ⟨(some 40), none, (.pick (.t 36) (.c (.bool true)) (.t 39))⟩])
 (.cond (.t 40)
 (.seq
 (.reg [⟨(some 0), none, (.mv (.c (.bool false)))⟩]) .ret) .skip)))))
 (.reg [⟨(some 8), none, (.mv (.t 1))⟩,
   ⟨(some 9), none, (.bin .add .num (.t 8) (.c (.int .i64 1)))⟩,
   ⟨(some 1), none, (.mv (.t 9))⟩])))
/-- limelight/limelightlaw11.PaceNumbers -/
def af5 : AFunc := ⟨72, [(.tmp 0)],
 (.seq
 (.reg [⟨(some 0), none, (.mv (.c (.bool false)))⟩])
 (.seq
 (.seq
 (.reg [⟨(some 1), none, (.mv (.c (.int .i64 0)))⟩])
 (.block 0
 (.loop af5_l2)))
 (.seq
 (.reg [⟨(some 41), none, (.call 7 [(.c (.int .i64 5)), (.c (.int .i64 50000))])⟩,
   ⟨(some 4), none, (.mv (.t 41))⟩])
 (.seq
 (.seq
 (.reg [⟨(some 5), none, (.mv (.c (.int .i64 0)))⟩])
 (.block 4
 (.loop af5_l0)))
 (.seq
 (.reg [⟨(some 56), none, (.mv (.t 4))⟩,
   ⟨(some 57), none, (.bin .neq .ptr (.t 56) (.c (.ptr none)))⟩,
   ⟨(some 58), none, (.mv (.t 57))⟩,
   ⟨(some 59), (some (58, true)), (.mv (.t 4))⟩,
   ⟨(some 60), (some (58, true)), (.call 14 [(.t 59)])⟩,
   ⟨(some 61), (some (58, true)), (.bin .eql .num (.t 60) (.c (.int .i64 3)))⟩,
   ⟨(some 62), none, (.pick (.t 58) (.t 61) (.c (.bool false)))⟩,
   ⟨(some 63), none, (.mv (.t 62))⟩,
   ⟨(some 64), (some (63, true)), (.mv (.t 4))⟩,
   ⟨(some 65), (some (63, true)), (.call 11 [(.t 64)])⟩,
   ⟨(some 66), (some (63, true)), (.len (.t 65))⟩,
   ⟨(some 67), (some (63, true)), (.bin .eql .num (.t 66) (.c (.int .i64 16)))⟩,
   ⟨(some 68), none, (.pick (.t 63) (.t 67) (.c (.bool false)))⟩,
   ⟨(some 69), none, (.mv (.t 68))⟩,
   ⟨(some 70), (some (69, true)), (.call 13 [])⟩,
   ⟨(some 71), none, (.pick (.t 69) (.t 70) (.c (.bool false)))⟩,
   ⟨(some 0), none, (.mv (.t 71))⟩]) .ret)))))⟩
theorem caf5 : cFunc Try.prog Try.f5 = some af5 := by kernel_rfl
def af6_l0 : AC :=
 (.seq
 (.reg [⟨(some 13), none, (.bin .lss .num (.t 12) (.t 11))⟩])
 (.seq
 (.cond (.t 13) .skip (.exit 0))
 (.seq
 (.block 1
 (.seq
 (.reg [⟨(some 14), none, (.mv (.t 12))⟩,
   ⟨(some 8), none, (.mv (.t 14))⟩])
 (.seq
 (.reg [⟨(some 15), none, (.mv (.t 2))⟩,
   ⟨(some 16), none, (.mv (.t 8))⟩,
   ⟨(some 17), none, (.ixSlice 2 (.t 15) (.t 16))⟩,
   ⟨(some 18), none, (.loadN 2 (.t 17))⟩,
   ⟨(some 9), none, (.alloc [(.int .i64 0), (.int .i64 0)])⟩,
   ⟨none, none, (.store 2 (.t 9) (.t 18))⟩])
 (.seq
 (.reg [⟨(some 19), none, (.fieldAddr 0 1 (.t 9))⟩,
   ⟨(some 20), none, (.load1 (.t 19))⟩,
   ⟨(some 21), none, (.call 8 [(.t 20), (.c (.int .i64 0)), (.c (.int .i64 5))])⟩,
   ⟨(some 22), none, (.fieldAddr 0 1 (.t 9))⟩,
   ⟨none, none, (.store 1 (.t 22) (.t 21))⟩])
 (.seq
 (.seq
 (.reg [⟨(some 23), none, (.fieldAddr 0 1 (.t 9))⟩,
   ⟨(some 24), none, (.load1 (.t 23))⟩,
   ⟨(some 25), none, (.bin .gtr .num (.t 24) (.c (.int .i64 3)))⟩])
 (.cond (.t 25)
 (.reg [⟨(some 26), none, (.fieldAddr 1 1 (.t 9))⟩,
   ⟨(some 27), none, (.load1 (.t 26))⟩,
   ⟨(some 28), none, (.bin .and .num (.t 27) (.c (.int .i64 1048575)))⟩,
   ⟨(some 29), none, (.fieldAddr 1 1 (.t 9))⟩,
   ⟨none, none, (.store 1 (.t 29) (.t 28))⟩]) .skip))
 (.reg [⟨(some 30), none, (.mv (.t 7))⟩,
   ⟨(some 31), none, (.loadN 2 (.t 9))⟩,
   ⟨(some 32), none, (.buildSlice 2 [(.int .i64 0), (.int .i64 0)] 1 [(0, (2, (.t 31)))])⟩,
   ⟨(some 33), none, (.append 2 16 (.t 30) (.t 32))⟩,
   ⟨(some 7), none, (.mv (.t 33))⟩]))))))
 (.reg [⟨(some 34), none, (.bin .add .num (.t 12) (.c (.int .i64 1)))⟩,
   ⟨(some 12), none, (.mv (.t 34))⟩]))))
/-- limelight/limelightlaw11.PacePlays -/
def af6 : AFunc := ⟨55, [(.tmp 6)],
 (.seq
 (.reg [⟨(some 6), none, (.mv (.c (.bool false)))⟩])
 (.seq
 (.reg [⟨(some 7), none, (.mv (.c (.slice none 0 0 none)))⟩])
 (.seq
 (.seq
 (.reg [⟨(some 10), none, (.mv (.t 2))⟩,
   ⟨(some 11), none, (.len (.t 10))⟩,
   ⟨(some 12), none, (.mv (.c (.int .i64 0)))⟩])
 (.block 0
 (.loop af6_l0)))
 (.seq
 (.reg [⟨(some 35), none, (.mv (.t 0))⟩,
   ⟨(some 36), none, (.bin .and .num (.t 35) (.c (.int .i64 1048575)))⟩,
   ⟨(some 37), none, (.mv (.t 1))⟩,
   ⟨(some 38), none, (.bin .and .num (.t 37) (.c (.int .i64 8191)))⟩,
   ⟨(some 39), none, (.mv (.t 7))⟩,
   ⟨(some 40), none, (.call 15 [(.t 36), (.t 38), (.t 39)])⟩,
   ⟨(some 41), none, (.mv (.t 40))⟩,
   ⟨(some 42), (some (41, true)), (.mv (.t 0))⟩,
   ⟨(some 43), (some (41, true)), (.mv (.t 1))⟩,
   ⟨(some 44), (some (41, true)), (.mv (.t 2))⟩,
   ⟨(some 45), (some (41, true)), (.call 15 [(.t 42), (.t 43), (.t 44)])⟩,
   ⟨(some 46), none, (.pick (.t 41) (.t 45) (.c (.bool false)))⟩,
   ⟨(some 47), none, (.mv (.t 46))⟩,
   ⟨(some 48), (some (47, true)), (.mv (.t 0))⟩,
   ⟨(some 49), (some (47, true)), (.mv (.t 7))⟩,
   ⟨(some 50), (some (47, true)), (.call 15 [(.t 48), (.c (.int .i64 6000)), (.t 49)])⟩,
   ⟨(some 51), none, (.pick (.t 47) (.t 50) (.c (.bool false)))⟩,
   ⟨(some 52), none, (.mv (.t 51))⟩,
   ⟨(some 53), (some (52, true)), (.call 13 [])⟩,
   ⟨(some 54), none, (.pick (.t 52) (.t 53) (.c (.bool false)))⟩,
   ⟨(some 6), none, (.mv (.t 54))⟩]) .ret))))⟩
theorem caf6 : cFunc Try.prog Try.f6 = some af6 := by kernel_rfl
/-- limelight/pace.New -/
def af7 : AFunc := ⟨10, [(.tmp 4)],
 (.seq
 (.reg [⟨(some 4), none, (.mv (.c (.ptr none)))⟩])
 (.seq
 (.reg [⟨(some 5), none, (.mv (.t 0))⟩,
   ⟨(some 6), none, (.mv (.t 1))⟩,
   ⟨(some 7), none, (.call 16 [(.t 5), (.t 6)])⟩,
   ⟨(some 8), none, (.build [(.slice none 0 0 none), (.ptr none), (.int .i64 0)] [(1, (1, (.t 7)))])⟩,
   ⟨(some 9), none, (.box (.t 8))⟩,
   ⟨(some 4), none, (.mv (.t 9))⟩]) .ret))⟩
theorem caf7 : cFunc Try.prog Try.f7 = some af7 := by kernel_rfl
/-- limelight/limelightbook.Within -/
def af8 : AFunc := ⟨33, [(.tmp 6)],
 (.seq
 (.reg [⟨(some 6), none, (.mv (.c (.int .i64 0)))⟩])
 (.seq
 (.seq
 (.reg [⟨(some 7), none, (.mv (.t 0))⟩,
   ⟨(some 8), none, (.mv (.t 1))⟩,
   ⟨(some 9), none, (.bin .geq .num (.t 7) (.t 8))⟩,
   ⟨(some 10), none, (.mv (.t 9))⟩,
   ⟨(some 11), (some (10, true)), (.mv (.t 0))⟩,
   ⟨(some 12), (some (10, true)), (.mv (.t 2))⟩,
   ⟨(some 13), (some (10, true)), (.bin .leq .num (.t 11) (.t 12))⟩,
   ⟨(some 14), none, (.pick (.t 10) (.t 13) (.c (.bool false)))⟩])
 (.cond (.t 14)
 (.seq
 (.reg [⟨(some 15), none, (.mv (.t 0))⟩,
   ⟨(some 6), none, (.mv (.t 15))⟩]) .ret) .skip))
 (.seq
 (.reg [⟨(some 16), none, (.mv (.t 0))⟩,
   ⟨(some 17), none, (.mv (.t 2))⟩,
   ⟨(some 18), none, (.mv (.t 1))⟩,
   ⟨(some 19), none, (.bin .sub .num (.t 17) (.t 18))⟩,
   ⟨(some 20), none, (.bin .add .num (.t 19) (.c (.int .i64 1)))⟩,
   ⟨(some 21), none, (.bin .rem .num (.t 16) (.t 20))⟩,
   ⟨(some 0), none, (.mv (.t 21))⟩])
 (.seq
 (.seq
 (.reg [⟨(some 22), none, (.mv (.t 0))⟩,
   ⟨(some 23), none, (.bin .lss .num (.t 22) (.c (.int .i64 0)))⟩])
 (.cond (.t 23)
 (.reg [⟨(some 24), none, (.mv (.t 0))⟩,
   ⟨(some 25), none, (.mv (.t 2))⟩,
   ⟨(some 26), none, (.bin .add .num (.t 24) (.t 25))⟩,
   ⟨(some 27), none, (.mv (.t 1))⟩,
   ⟨(some 28), none, (.bin .sub .num (.t 26) (.t 27))⟩,
   ⟨(some 29), none, (.bin .add .num (.t 28) (.c (.int .i64 1)))⟩,
   ⟨(some 0), none, (.mv (.t 29))⟩]) .skip))
 (.seq
 (.reg [⟨(some 30), none, (.mv (.t 1))⟩,
   ⟨(some 31), none, (.mv (.t 0))⟩,
   ⟨(some 32), none, (.bin .add .num (.t 30) (.t 31))⟩,
   ⟨(some 6), none, (.mv (.t 32))⟩]) .ret)))))⟩
theorem caf8 : cFunc Try.prog Try.f8 = some af8 := by kernel_rfl
/-- (*limelight/pace.Queue).Put -/
def af9 : AFunc := ⟨39, [(.tmp 4)],
 (.seq
 (.reg [⟨(some 4), none, (.mv (.c (.bool false)))⟩])
 (.seq
 (.seq
 (.dreg [⟨(some 5), none, (.mv (.t 0))⟩,
   ⟨(some 6), none, (.nilCheck (.t 5))⟩,
   ⟨(some 7), none, (.fieldAddr 0 1 (.t 6))⟩,
   ⟨(some 8), none, (.load1 (.t 7))⟩,
   ⟨(some 9), none, (.len (.t 8))⟩,
   ⟨(some 10), none, (.bin .geq .num (.t 9) (.c (.int .i64 16)))⟩,
   ⟨(some 11), none, (.mv (.t 10))⟩,
   ⟨(some 12), (some (11, false)), (.mv (.t 1))⟩,
   ⟨(some 13), (some (11, false)), (.call 17 [(.t 12)])⟩,
   ⟨(some 14), (some (11, false)), (.mv (.t 0))⟩,
   ⟨(some 15), (some (11, false)), (.nilCheck (.t 14))⟩,
   ⟨(some 16), (some (11, false)), (.fieldAddr 1 1 (.t 15))⟩,
   ⟨(some 17), (some (11, false)), (.load1 (.t 16))⟩,
   ⟨(some 18), (some (11, false)), (.call 18 [(.t 17)])⟩,
   ⟨(some 19), (some (11, false)), (.bin .gtr .num (.t 13) (.t 18))⟩,
   ⟨(some 20), none, (.pick (.t 11) (.c (.bool true)) (.t 19))⟩] [(12, 8)])
 (.cond (.t 20)
 (.seq
 (.reg [⟨(some 21), none, (.mv (.t 0))⟩,
   ⟨(some 22), none, (.nilCheck (.t 21))⟩,
   ⟨(some 23), none, (.fieldAddr 2 1 (.t 22))⟩,
   ⟨(some 24), none, (.load1 (.t 23))⟩,
   ⟨(some 25), none, (.bin .add .num (.t 24) (.c (.int .i64 1)))⟩,
   ⟨(some 26), none, (.nilCheck (.t 21))⟩,
   ⟨(some 27), none, (.fieldAddr 2 1 (.t 26))⟩,
   ⟨none, none, (.store 1 (.t 27) (.t 25))⟩])
 (.seq
 (.reg [⟨(some 4), none, (.mv (.c (.bool false)))⟩]) .ret)) .skip))
 (.seq
 (.dreg [⟨(some 28), none, (.mv (.t 0))⟩,
   ⟨(some 29), none, (.mv (.t 0))⟩,
   ⟨(some 30), none, (.nilCheck (.t 29))⟩,
   ⟨(some 31), none, (.fieldAddr 0 1 (.t 30))⟩,
   ⟨(some 32), none, (.load1 (.t 31))⟩,
   ⟨(some 33), none, (.mv (.t 1))⟩,
   ⟨(some 34), none, (.call 19 [(.t 33)])⟩,
   ⟨(some 35), none, (.buildSlice 1 [(.slice none 0 0 none)] 1 [(0, (1, (.t 34)))])⟩,
   ⟨(some 36), none, (.append 1 24 (.t 32) (.t 35))⟩,
   ⟨(some 37), none, (.nilCheck (.t 28))⟩,
   ⟨(some 38), none, (.fieldAddr 0 1 (.t 37))⟩,
   ⟨none, none, (.store 1 (.t 38) (.t 36))⟩] [(4, 7), (4, 8)])
 (.seq
 (.reg [⟨(some 4), none, (.mv (.c (.bool true)))⟩]) .ret))))⟩
theorem caf9 : cFunc Try.prog Try.f9 = some af9 := by kernel_rfl
/-- (*limelight/pace.Queue).Tick -/
def af10 : AFunc := ⟨10, [],
 (.reg [⟨(some 4), none, (.mv (.t 0))⟩,
   ⟨(some 5), none, (.nilCheck (.t 4))⟩,
   ⟨(some 6), none, (.fieldAddr 1 1 (.t 5))⟩,
   ⟨(some 7), none, (.load1 (.t 6))⟩,
   ⟨(some 8), none, (.mv (.t 1))⟩,
   ⟨(some 9), none, (.call 20 [(.t 7), (.t 8)])⟩])⟩
theorem caf10 : cFunc Try.prog Try.f10 = some af10 := by kernel_rfl
def af11_l0 : AC :=
 (.seq
 (.seq
 (.dreg [⟨(some 4), none, (.mv (.t 0))⟩,
   ⟨(some 5), none, (.nilCheck (.t 4))⟩,
   ⟨(some 6), none, (.fieldAddr 0 1 (.t 5))⟩,
   ⟨(some 7), none, (.load1 (.t 6))⟩,
   ⟨(some 8), none, (.len (.t 7))⟩,
   ⟨(some 9), none, (.bin .gtr .num (.t 8) (.c (.int .i64 0)))⟩,
   ⟨(some 10), none, (.mv (.t 9))⟩,
   ⟨(some 11), (some (10, true)), (.mv (.t 0))⟩,
   ⟨(some 12), (some (10, true)), (.nilCheck (.t 11))⟩,
   ⟨(some 13), (some (10, true)), (.fieldAddr 1 1 (.t 12))⟩,
   ⟨(some 14), (some (10, true)), (.load1 (.t 13))⟩,
   ⟨(some 15), (some (10, true)), (.mv (.t 0))⟩,
   ⟨(some 16), (some (10, true)), (.nilCheck (.t 15))⟩,
   ⟨(some 17), (some (10, true)), (.fieldAddr 0 1 (.t 16))⟩,
   ⟨(some 18), (some (10, true)), (.load1 (.t 17))⟩,
   ⟨(some 19), (some (10, true)), (.ixSlice 1 (.t 18) (.c (.int .i64 0)))⟩,
   ⟨(some 20), (some (10, true)), (.load1 (.t 19))⟩,
   ⟨(some 21), (some (10, true)), (.call 17 [(.t 20)])⟩,
   ⟨(some 22), (some (10, true)), (.call 21 [(.t 14), (.t 21)])⟩,
   ⟨(some 23), none, (.pick (.t 10) (.t 22) (.c (.bool false)))⟩] [(10, 18)])
 (.cond (.t 23) .skip (.exit 0)))
 (.block 1
 (.seq
 (.reg [⟨(some 24), none, (.mv (.t 3))⟩,
   ⟨(some 25), none, (.mv (.t 0))⟩,
   ⟨(some 26), none, (.nilCheck (.t 25))⟩,
   ⟨(some 27), none, (.fieldAddr 0 1 (.t 26))⟩,
   ⟨(some 28), none, (.load1 (.t 27))⟩,
   ⟨(some 29), none, (.ixSlice 1 (.t 28) (.c (.int .i64 0)))⟩,
   ⟨(some 30), none, (.load1 (.t 29))⟩,
   ⟨(some 31), none, (.buildSlice 1 [(.slice none 0 0 none)] 1 [(0, (1, (.t 30)))])⟩,
   ⟨(some 32), none, (.append 1 24 (.t 24) (.t 31))⟩,
   ⟨(some 3), none, (.mv (.t 32))⟩])
 (.reg [⟨(some 33), none, (.mv (.t 0))⟩,
   ⟨(some 34), none, (.mv (.t 0))⟩,
   ⟨(some 35), none, (.nilCheck (.t 34))⟩,
   ⟨(some 36), none, (.fieldAddr 0 1 (.t 35))⟩,
   ⟨(some 37), none, (.load1 (.t 36))⟩,
   ⟨(some 38), none, (.cut 1 (.t 37) (some (.c (.int .i64 1))) none none)⟩,
   ⟨(some 39), none, (.nilCheck (.t 33))⟩,
   ⟨(some 40), none, (.fieldAddr 0 1 (.t 39))⟩,
   ⟨none, none, (.store 1 (.t 40) (.t 38))⟩]))))
/-- (*limelight/pace.Queue).Go -/
def af11 : AFunc := ⟨43, [(.tmp 2)],
 (.seq
 (.reg [⟨(some 2), none, (.mv (.c (.slice none 0 0 none)))⟩])
 (.seq
 (.reg [⟨(some 3), none, (.mv (.c (.slice none 0 0 none)))⟩])
 (.seq
 (.block 0
 (.loop af11_l0))
 (.seq
 (.reg [⟨(some 41), none, (.mv (.t 3))⟩,
   ⟨(some 42), none, (.call 22 [(.t 41)])⟩,
   ⟨(some 2), none, (.mv (.t 42))⟩]) .ret))))⟩
theorem caf11 : cFunc Try.prog Try.f11 = some af11 := by kernel_rfl
/-- (*limelight/pace.Queue).Len -/
def af12 : AFunc := ⟨8, [(.tmp 2)],
 (.seq
 (.reg [⟨(some 2), none, (.mv (.c (.int .i64 0)))⟩])
 (.seq
 (.reg [⟨(some 3), none, (.mv (.t 0))⟩,
   ⟨(some 4), none, (.nilCheck (.t 3))⟩,
   ⟨(some 5), none, (.fieldAddr 0 1 (.t 4))⟩,
   ⟨(some 6), none, (.load1 (.t 5))⟩,
   ⟨(some 7), none, (.len (.t 6))⟩,
   ⟨(some 2), none, (.mv (.t 7))⟩]) .ret))⟩
theorem caf12 : cFunc Try.prog Try.f12 = some af12 := by kernel_rfl
/-- limelight/limelightlaw11.known -/
def af13 : AFunc := ⟨76, [(.tmp 0)],
 (.seq
 (.reg [⟨(some 0), none, (.mv (.c (.bool false)))⟩])
 (.seq
 (.reg [⟨(some 8), none, (.call 7 [(.c (.int .i64 0)), (.c (.int .i64 100))])⟩,
   ⟨(some 1), none, (.mv (.t 8))⟩])
 (.seq
 (.seq
 (.reg [⟨(some 9), none, (.mv (.t 1))⟩,
   ⟨(some 10), none, (.bin .eql .ptr (.t 9) (.c (.ptr none)))⟩])
 (.cond (.t 10)
 (.seq
 (.reg [⟨(some 0), none, (.mv (.c (.bool false)))⟩]) .ret) .skip))
 (.seq
 (.dreg [⟨(some 11), none, (.mv (.t 1))⟩,
   ⟨(some 12), none, (.mkSlice 1 1 [(.int .u8 0)] (.c (.int .i64 73)) (.c (.int .i64 73)))⟩,
   ⟨(some 13), none, (.call 9 [(.t 11), (.t 12)])⟩,
   ⟨(some 14), none, (.mv (.t 1))⟩,
   ⟨(some 15), none, (.mkSlice 1 1 [(.int .u8 0)] (.c (.int .i64 10)) (.c (.int .i64 10)))⟩,
   ⟨(some 16), none, (.call 9 [(.t 14), (.t 15)])⟩,
   ⟨(some 2), none, (.mv (.t 13))⟩,
   ⟨(some 3), none, (.mv (.t 16))⟩] [(4, 4)])
 (.seq
 (.reg [⟨(some 17), none, (.mv (.t 1))⟩,
   ⟨(some 18), none, (.call 12 [(.t 17)])⟩,
   ⟨(some 4), none, (.mv (.t 18))⟩])
 (.seq
 (.reg [⟨(some 19), none, (.mv (.t 1))⟩,
   ⟨(some 20), none, (.call 11 [(.t 19)])⟩,
   ⟨(some 5), none, (.mv (.t 20))⟩])
 (.seq
 (.reg [⟨(some 21), none, (.mv (.t 1))⟩,
   ⟨(some 22), none, (.mkSlice 1 1 [(.int .u8 0)] (.c (.int .i64 70)) (.c (.int .i64 70)))⟩,
   ⟨(some 23), none, (.call 9 [(.t 21), (.t 22)])⟩,
   ⟨(some 6), none, (.mv (.t 23))⟩])
 (.seq
 (.reg [⟨(some 24), none, (.mv (.t 1))⟩,
   ⟨(some 25), none, (.call 11 [(.t 24)])⟩,
   ⟨(some 7), none, (.mv (.t 25))⟩])
 (.seq
 (.reg [⟨(some 26), none, (.mv (.t 2))⟩,
   ⟨(some 27), none, (.un .not (.t 26))⟩,
   ⟨(some 28), none, (.mv (.t 27))⟩,
   ⟨(some 29), (some (28, true)), (.mv (.t 3))⟩,
   ⟨(some 30), none, (.pick (.t 28) (.t 29) (.c (.bool false)))⟩,
   ⟨(some 31), none, (.mv (.t 30))⟩,
   ⟨(some 32), (some (31, true)), (.mv (.t 4))⟩,
   ⟨(some 33), (some (31, true)), (.bin .eql .num (.t 32) (.c (.int .i64 1)))⟩,
   ⟨(some 34), none, (.pick (.t 31) (.t 33) (.c (.bool false)))⟩,
   ⟨(some 35), none, (.mv (.t 34))⟩,
   ⟨(some 36), (some (35, true)), (.mv (.t 5))⟩,
   ⟨(some 37), (some (35, true)), (.len (.t 36))⟩,
   ⟨(some 38), (some (35, true)), (.bin .eql .num (.t 37) (.c (.int .i64 1)))⟩,
   ⟨(some 39), none, (.pick (.t 35) (.t 38) (.c (.bool false)))⟩,
   ⟨(some 40), none, (.mv (.t 39))⟩,
   ⟨(some 41), (some (40, true)), (.mv (.t 5))⟩,
   ⟨(some 42), (some (40, true)), (.ixSlice 1 (.t 41) (.c (.int .i64 0)))⟩,
   ⟨(some 43), (some (40, true)), (.load1 (.t 42))⟩,
   ⟨(some 44), (some (40, true)), (.len (.t 43))⟩,
   ⟨(some 45), (some (40, true)), (.bin .eql .num (.t 44) (.c (.int .i64 10)))⟩,
   ⟨(some 46), none, (.pick (.t 40) (.t 45) (.c (.bool false)))⟩,
   ⟨(some 47), none, (.mv (.t 46))⟩,
   ⟨(some 48), (some (47, true)), (.mv (.t 6))⟩,
   ⟨(some 49), none, (.pick (.t 47) (.t 48) (.c (.bool false)))⟩,
   ⟨(some 50), none, (.mv (.t 49))⟩,
   ⟨(some 51), (some (50, true)), (.mv (.t 7))⟩,
   ⟨(some 52), (some (50, true)), (.len (.t 51))⟩,
   ⟨(some 53), (some (50, true)), (.bin .eql .num (.t 52) (.c (.int .i64 0)))⟩,
   ⟨(some 54), none, (.pick (.t 50) (.t 53) (.c (.bool false)))⟩,
   ⟨(some 55), none, (.mv (.t 54))⟩,
   ⟨(some 56), (some (55, true)), (.mv (.t 1))⟩,
   ⟨(some 57), (some (55, true)), (.call 12 [(.t 56)])⟩,
   ⟨(some 58), (some (55, true)), (.bin .eql .num (.t 57) (.c (.int .i64 1)))⟩,
   ⟨(some 59), none, (.pick (.t 55) (.t 58) (.c (.bool false)))⟩,
   ⟨(some 60), none, (.mv (.t 59))⟩,
   ⟨(some 61), (some (60, true)), (.mv (.t 1))⟩,
   ⟨(some 62), (some (60, true)), (.call 14 [(.t 61)])⟩,
   ⟨(some 63), (some (60, true)), (.bin .eql .num (.t 62) (.c (.int .i64 1)))⟩,
   ⟨(some 64), none, (.pick (.t 60) (.t 63) (.c (.bool false)))⟩,
   ⟨(some 65), none, (.mv (.t 64))⟩,
   ⟨(some 66), (some (65, true)), (.mv (.t 1))⟩,
   ⟨(some 67), (some (65, true)), (.call 23 [(.t 66)])⟩,
   ⟨(some 68), (some (65, true)), (.bin .neq .ptr (.t 67) (.c (.ptr none)))⟩,
   ⟨(some 69), none, (.pick (.t 65) (.t 68) (.c (.bool false)))⟩,
   ⟨(some 70), none, (.mv (.t 69))⟩,
   ⟨(some 71), (some (70, true)), (.mv (.t 1))⟩,
   ⟨(some 72), (some (70, true)), (.call 23 [(.t 71)])⟩,
   ⟨(some 73), (some (70, true)), (.call 24 [(.t 72)])⟩,
   ⟨(some 74), (some (70, true)), (.bin .eql .num (.t 73) (.c (.int .i64 62)))⟩,
   ⟨(some 75), none, (.pick (.t 70) (.t 74) (.c (.bool false)))⟩,
   ⟨(some 0), none, (.mv (.t 75))⟩]) .ret)))))))))⟩
theorem caf13 : cFunc Try.prog Try.f13 = some af13 := by kernel_rfl
/-- (*limelight/pace.Queue).Cut -/
def af14 : AFunc := ⟨7, [(.tmp 2)],
 (.seq
 (.reg [⟨(some 2), none, (.mv (.c (.int .i64 0)))⟩])
 (.seq
 (.reg [⟨(some 3), none, (.mv (.t 0))⟩,
   ⟨(some 4), none, (.nilCheck (.t 3))⟩,
   ⟨(some 5), none, (.fieldAddr 2 1 (.t 4))⟩,
   ⟨(some 6), none, (.load1 (.t 5))⟩,
   ⟨(some 2), none, (.mv (.t 6))⟩]) .ret))⟩
theorem caf14 : cFunc Try.prog Try.f14 = some af14 := by kernel_rfl
def af15_l0 : AC :=
 (.seq
 (.reg [⟨(some 49), none, (.bin .lss .num (.t 48) (.t 47))⟩])
 (.seq
 (.cond (.t 49) .skip (.exit 3))
 (.seq
 (.block 4
 (.seq
 (.reg [⟨(some 50), none, (.mv (.t 48))⟩,
   ⟨(some 12), none, (.mv (.t 50))⟩])
 (.reg [⟨(some 51), none, (.mv (.t 11))⟩,
   ⟨(some 52), none, (.mv (.t 12))⟩,
   ⟨(some 53), none, (.mv (.t 9))⟩,
   ⟨(some 54), none, (.mv (.t 12))⟩,
   ⟨(some 55), none, (.bin .add .num (.t 53) (.t 54))⟩,
   ⟨(some 56), none, (.conv (.int .u8) (.t 55))⟩,
   ⟨(some 57), none, (.ixSlice 1 (.t 51) (.t 52))⟩,
   ⟨none, none, (.store 1 (.t 57) (.t 56))⟩])))
 (.reg [⟨(some 58), none, (.bin .add .num (.t 48) (.c (.int .i64 1)))⟩,
   ⟨(some 48), none, (.mv (.t 58))⟩]))))
def af15_l1 : AC :=
 (.seq
 (.seq
 (.reg [⟨(some 19), none, (.mv (.t 9))⟩,
   ⟨(some 20), none, (.mv (.t 2))⟩,
   ⟨(some 21), none, (.len (.t 20))⟩,
   ⟨(some 22), none, (.bin .lss .num (.t 19) (.t 21))⟩,
   ⟨(some 23), none, (.mv (.t 22))⟩,
   ⟨(some 24), (some (23, true)), (.mv (.t 9))⟩,
   ⟨(some 25), (some (23, true)), (.bin .lss .num (.t 24) (.c (.int .i64 100)))⟩,
   ⟨(some 26), none, (.pick (.t 23) (.t 25) (.c (.bool false)))⟩])
 (.cond (.t 26) .skip (.exit 0)))
 (.seq
 (.block 1
 (.seq
 (.reg [⟨(some 29), none, (.mv (.t 2))⟩,
   ⟨(some 30), none, (.mv (.t 9))⟩,
   ⟨(some 31), none, (.ixSlice 2 (.t 29) (.t 30))⟩,
   ⟨(some 32), none, (.loadN 2 (.t 31))⟩,
   ⟨(some 10), none, (.alloc [(.int .i64 0), (.int .i64 0)])⟩,
   ⟨none, none, (.store 2 (.t 10) (.t 32))⟩])
 (.seq
 (.seq
 (.reg [⟨(some 33), none, (.mv (.t 7))⟩,
   ⟨(some 34), none, (.bin .eql .ptr (.t 33) (.c (.ptr none)))⟩,
   ⟨(some 35), none, (.mv (.t 34))⟩,
   ⟨(some 36), (some (35, false)), (.mv (.t 7))⟩,
   ⟨(some 37), (some (35, false)), (.call 23 [(.t 36)])⟩,
   ⟨(some 38), (some (35, false)), (.bin .eql .ptr (.t 37) (.c (.ptr none)))⟩,
   ⟨(some 39), none, (.pick (.t 35) (.c (.bool true)) (.t 38))⟩])
 (.cond (.t 39)
 (.seq
 (.reg [⟨(some 6), none, (.mv (.c (.bool false)))⟩]) .ret) .skip))
 (.seq
 (.seq
 (.reg [⟨(some 40), none, (.fieldAddr 0 1 (.t 10))⟩,
   ⟨(some 41), none, (.load1 (.t 40))⟩])
 (.block 2
 (.seq
 (.reg [⟨(some 67), none, (.bin .eql .num (.t 41) (.c (.int .i64 3)))⟩,
   ⟨(some 66), none, (.mv (.t 67))⟩])
 (.cond (.t 66)
 (.seq
 (.reg [⟨(some 68), none, (.mv (.t 7))⟩,
   ⟨(some 69), none, (.call 11 [(.t 68)])⟩,
   ⟨(some 70), none, (.mv (.t 8))⟩,
   ⟨(some 71), none, (.call 27 [(.t 70)])⟩,
   ⟨(some 72), none, (.call 26 [(.t 69), (.t 71)])⟩,
   ⟨(some 73), none, (.un .not (.t 72))⟩])
 (.cond (.t 73)
 (.seq
 (.reg [⟨(some 6), none, (.mv (.c (.bool false)))⟩]) .ret) .skip))
 (.seq
 (.reg [⟨(some 75), none, (.bin .eql .num (.t 41) (.c (.int .i64 4)))⟩,
   ⟨(some 74), none, (.mv (.t 75))⟩])
 (.cond (.t 74)
 (.seq
 (.reg [⟨(some 76), none, (.mv (.t 7))⟩,
   ⟨(some 77), none, (.fieldAddr 1 1 (.t 10))⟩,
   ⟨(some 78), none, (.load1 (.t 77))⟩,
   ⟨(some 79), none, (.call 10 [(.t 76), (.t 78)])⟩])
 (.dreg [⟨(some 80), none, (.mv (.t 8))⟩,
   ⟨(some 81), none, (.nilCheck (.t 80))⟩,
   ⟨(some 82), none, (.fieldAddr 0 1 (.t 81))⟩,
   ⟨(some 83), none, (.load1 (.t 82))⟩,
   ⟨(some 84), none, (.fieldAddr 1 1 (.t 10))⟩,
   ⟨(some 85), none, (.load1 (.t 84))⟩,
   ⟨(some 86), none, (.call 28 [(.t 83), (.t 85)])⟩] []))
 (.seq
 (.reg [⟨(some 88), none, (.bin .eql .num (.t 41) (.c (.int .i64 5)))⟩,
   ⟨(some 87), none, (.mv (.t 88))⟩])
 (.cond (.t 87)
 (.seq
 (.reg [⟨(some 89), none, (.mv (.t 7))⟩,
   ⟨(some 90), none, (.fieldAddr 1 1 (.t 10))⟩,
   ⟨(some 91), none, (.load1 (.t 90))⟩,
   ⟨(some 92), none, (.call 29 [(.t 89), (.t 91)])⟩])
 (.dreg [⟨(some 93), none, (.mv (.t 8))⟩,
   ⟨(some 94), none, (.nilCheck (.t 93))⟩,
   ⟨(some 95), none, (.fieldAddr 0 1 (.t 94))⟩,
   ⟨(some 96), none, (.load1 (.t 95))⟩,
   ⟨(some 97), none, (.fieldAddr 1 1 (.t 10))⟩,
   ⟨(some 98), none, (.load1 (.t 97))⟩,
   ⟨(some 99), none, (.call 30 [(.t 96), (.t 98)])⟩] []))
 (.seq
 (.reg [⟨(some 42), none, (.fieldAddr 1 1 (.t 10))⟩,
   ⟨(some 43), none, (.load1 (.t 42))⟩,
   ⟨(some 44), none, (.bin .and .num (.t 43) (.c (.int .i64 1023)))⟩,
   ⟨(some 45), none, (.mkSlice 1 1 [(.int .u8 0)] (.t 44) (.t 44))⟩,
   ⟨(some 11), none, (.mv (.t 45))⟩])
 (.seq
 (.seq
 (.reg [⟨(some 46), none, (.mv (.t 11))⟩,
   ⟨(some 47), none, (.len (.t 46))⟩,
   ⟨(some 48), none, (.mv (.c (.int .i64 0)))⟩])
 (.block 3
 (.loop af15_l0)))
 (.seq
 (.reg [⟨(some 59), none, (.mv (.t 7))⟩,
   ⟨(some 60), none, (.mv (.t 11))⟩,
   ⟨(some 61), none, (.call 9 [(.t 59), (.t 60)])⟩,
   ⟨(some 62), none, (.mv (.t 8))⟩,
   ⟨(some 63), none, (.mv (.t 11))⟩,
   ⟨(some 64), none, (.call 31 [(.t 62), (.t 63)])⟩,
   ⟨(some 65), none, (.bin .neq .bool (.t 61) (.t 64))⟩])
 (.cond (.t 65)
 (.seq
 (.reg [⟨(some 6), none, (.mv (.c (.bool false)))⟩]) .ret) .skip))))))))))))
 (.seq
 (.dreg [⟨(some 100), none, (.mv (.t 7))⟩,
   ⟨(some 101), none, (.call 12 [(.t 100)])⟩,
   ⟨(some 102), none, (.mv (.t 8))⟩,
   ⟨(some 103), none, (.nilCheck (.t 102))⟩,
   ⟨(some 104), none, (.fieldAddr 1 1 (.t 103))⟩,
   ⟨(some 105), none, (.load1 (.t 104))⟩,
   ⟨(some 106), none, (.len (.t 105))⟩,
   ⟨(some 107), none, (.bin .neq .num (.t 101) (.t 106))⟩,
   ⟨(some 108), none, (.mv (.t 107))⟩,
   ⟨(some 109), (some (108, false)), (.mv (.t 7))⟩,
   ⟨(some 110), (some (108, false)), (.call 14 [(.t 109)])⟩,
   ⟨(some 111), (some (108, false)), (.mv (.t 8))⟩,
   ⟨(some 112), (some (108, false)), (.nilCheck (.t 111))⟩,
   ⟨(some 113), (some (108, false)), (.fieldAddr 2 1 (.t 112))⟩,
   ⟨(some 114), (some (108, false)), (.load1 (.t 113))⟩,
   ⟨(some 115), (some (108, false)), (.bin .neq .num (.t 110) (.t 114))⟩,
   ⟨(some 116), none, (.pick (.t 108) (.c (.bool true)) (.t 115))⟩,
   ⟨(some 117), none, (.mv (.t 116))⟩,
   ⟨(some 118), (some (117, false)), (.mv (.t 7))⟩,
   ⟨(some 119), (some (117, false)), (.call 23 [(.t 118)])⟩,
   ⟨(some 120), (some (117, false)), (.call 24 [(.t 119)])⟩,
   ⟨(some 121), (some (117, false)), (.mv (.t 8))⟩,
   ⟨(some 122), (some (117, false)), (.nilCheck (.t 121))⟩,
   ⟨(some 123), (some (117, false)), (.fieldAddr 0 1 (.t 122))⟩,
   ⟨(some 124), (some (117, false)), (.load1 (.t 123))⟩,
   ⟨(some 125), (some (117, false)), (.nilCheck (.t 124))⟩,
   ⟨(some 126), (some (117, false)), (.fieldAddr 2 1 (.t 125))⟩,
   ⟨(some 127), (some (117, false)), (.load1 (.t 126))⟩,
   ⟨(some 128), (some (117, false)), (.bin .quo .num (.t 127) (.c (.int .i64 1000000)))⟩,
   ⟨(some 129), (some (117, false)), (.bin .neq .num (.t 120) (.t 128))⟩,
   ⟨(some 130), none, (.pick (.t 117) (.c (.bool true)) (.t 129))⟩] [(5, 1), (14, 10), (24, 19), (24, 20), (27, 19), (27, 20)])
 (.cond (.t 130)
 (.seq
 (.reg [⟨(some 6), none, (.mv (.c (.bool false)))⟩]) .ret) .skip))))))
 (.reg [⟨(some 27), none, (.mv (.t 9))⟩,
   ⟨(some 28), none, (.bin .add .num (.t 27) (.c (.int .i64 1)))⟩,
   ⟨(some 9), none, (.mv (.t 28))⟩])))
/-- limelight/limelightlaw11.play -/
def af15 : AFunc := ⟨140, [(.tmp 6)],
 (.seq
 (.reg [⟨(some 6), none, (.mv (.c (.bool false)))⟩])
 (.seq
 (.reg [⟨(some 13), none, (.mv (.t 0))⟩,
   ⟨(some 14), none, (.mv (.t 1))⟩,
   ⟨(some 15), none, (.call 7 [(.t 13), (.t 14)])⟩,
   ⟨(some 16), none, (.mv (.t 0))⟩,
   ⟨(some 17), none, (.mv (.t 1))⟩,
   ⟨(some 18), none, (.call 25 [(.t 16), (.t 17)])⟩,
   ⟨(some 7), none, (.mv (.t 15))⟩,
   ⟨(some 8), none, (.mv (.t 18))⟩])
 (.seq
 (.seq
 (.reg [⟨(some 9), none, (.mv (.c (.int .i64 0)))⟩])
 (.block 0
 (.loop af15_l1)))
 (.seq
 (.reg [⟨(some 131), none, (.mv (.t 7))⟩,
   ⟨(some 132), none, (.bin .neq .ptr (.t 131) (.c (.ptr none)))⟩,
   ⟨(some 133), none, (.mv (.t 132))⟩,
   ⟨(some 134), (some (133, true)), (.mv (.t 7))⟩,
   ⟨(some 135), (some (133, true)), (.call 11 [(.t 134)])⟩,
   ⟨(some 136), (some (133, true)), (.mv (.t 8))⟩,
   ⟨(some 137), (some (133, true)), (.call 27 [(.t 136)])⟩,
   ⟨(some 138), (some (133, true)), (.call 26 [(.t 135), (.t 137)])⟩,
   ⟨(some 139), none, (.pick (.t 133) (.t 138) (.c (.bool false)))⟩,
   ⟨(some 6), none, (.mv (.t 139))⟩]) .ret))))⟩
theorem caf15 : cFunc Try.prog Try.f15 = some af15 := by kernel_rfl
/-- limelight/bucket.New -/
def af16 : AFunc := ⟨14, [(.tmp 4)],
 (.seq
 (.reg [⟨(some 4), none, (.mv (.c (.ptr none)))⟩])
 (.seq
 (.reg [⟨(some 5), none, (.mv (.t 0))⟩,
   ⟨(some 6), none, (.call 32 [(.t 5)])⟩,
   ⟨(some 7), none, (.mv (.t 1))⟩,
   ⟨(some 8), none, (.call 32 [(.t 7)])⟩,
   ⟨(some 9), none, (.mv (.t 1))⟩,
   ⟨(some 10), none, (.call 32 [(.t 9)])⟩,
   ⟨(some 11), none, (.call 33 [(.t 10), (.c (.int .i64 1000000))])⟩,
   ⟨(some 12), none, (.build [(.int .i64 0), (.int .i64 0), (.int .i64 0)] [(0, (1, (.t 6))), (1, (1, (.t 8))), (2, (1, (.t 11)))])⟩,
   ⟨(some 13), none, (.box (.t 12))⟩,
   ⟨(some 4), none, (.mv (.t 13))⟩]) .ret))⟩
theorem caf16 : cFunc Try.prog Try.f16 = some af16 := by kernel_rfl
/-- limelight/pace.cost -/
def af17 : AFunc := ⟨6, [(.tmp 2)],
 (.seq
 (.reg [⟨(some 2), none, (.mv (.c (.int .i64 0)))⟩])
 (.seq
 (.reg [⟨(some 3), none, (.mv (.t 0))⟩,
   ⟨(some 4), none, (.len (.t 3))⟩,
   ⟨(some 5), none, (.bin .add .num (.t 4) (.c (.int .i64 28)))⟩,
   ⟨(some 2), none, (.mv (.t 5))⟩]) .ret))⟩
theorem caf17 : cFunc Try.prog Try.f17 = some af17 := by kernel_rfl
/-- (*limelight/bucket.Bucket).Burst -/
def af18 : AFunc := ⟨7, [(.tmp 2)],
 (.seq
 (.reg [⟨(some 2), none, (.mv (.c (.int .i64 0)))⟩])
 (.seq
 (.reg [⟨(some 3), none, (.mv (.t 0))⟩,
   ⟨(some 4), none, (.nilCheck (.t 3))⟩,
   ⟨(some 5), none, (.fieldAddr 1 1 (.t 4))⟩,
   ⟨(some 6), none, (.load1 (.t 5))⟩,
   ⟨(some 2), none, (.mv (.t 6))⟩]) .ret))⟩
theorem caf18 : cFunc Try.prog Try.f18 = some af18 := by kernel_rfl
/-- slices.Clone[[]byte,byte] -/
def af19 : AFunc := ⟨8, [(.tmp 2)],
 (.seq
 (.reg [⟨(some 2), none, (.mv (.c (.slice none 0 0 none)))⟩])
 (.seq
 (.seq
 (.reg [⟨(some 3), none, (.mv (.t 0))⟩,
   ⟨(some 4), none, (.bin .eql .slc (.t 3) (.c (.slice none 0 0 none)))⟩])
 (.cond (.t 4)
 (.seq
 (.reg [⟨(some 2), none, (.mv (.c (.slice none 0 0 none)))⟩]) .ret) .skip))
 (.seq
 (.reg [⟨(some 5), none, (.buildSlice 1 [(.int .u8 0)] 0 [])⟩,
   ⟨(some 6), none, (.mv (.t 0))⟩,
   ⟨(some 7), none, (.append 1 1 (.t 5) (.t 6))⟩,
   ⟨(some 2), none, (.mv (.t 7))⟩]) .ret)))⟩
theorem caf19 : cFunc Try.prog Try.f19 = some af19 := by kernel_rfl
/-- (*limelight/bucket.Bucket).Tick -/
def af20 : AFunc := ⟨24, [],
 (.dreg [⟨(some 4), none, (.mv (.t 0))⟩,
   ⟨(some 5), none, (.mv (.t 0))⟩,
   ⟨(some 6), none, (.nilCheck (.t 5))⟩,
   ⟨(some 7), none, (.fieldAddr 2 1 (.t 6))⟩,
   ⟨(some 8), none, (.load1 (.t 7))⟩,
   ⟨(some 9), none, (.mv (.t 0))⟩,
   ⟨(some 10), none, (.nilCheck (.t 9))⟩,
   ⟨(some 11), none, (.fieldAddr 0 1 (.t 10))⟩,
   ⟨(some 12), none, (.load1 (.t 11))⟩,
   ⟨(some 13), none, (.mv (.t 1))⟩,
   ⟨(some 14), none, (.call 33 [(.t 12), (.t 13)])⟩,
   ⟨(some 15), none, (.call 34 [(.t 8), (.t 14)])⟩,
   ⟨(some 16), none, (.mv (.t 0))⟩,
   ⟨(some 17), none, (.nilCheck (.t 16))⟩,
   ⟨(some 18), none, (.fieldAddr 1 1 (.t 17))⟩,
   ⟨(some 19), none, (.load1 (.t 18))⟩,
   ⟨(some 20), none, (.call 33 [(.t 19), (.c (.int .i64 1000000))])⟩,
   ⟨(some 21), none, (.mn [(.t 15), (.t 20)])⟩,
   ⟨(some 22), none, (.nilCheck (.t 4))⟩,
   ⟨(some 23), none, (.fieldAddr 2 1 (.t 22))⟩,
   ⟨none, none, (.store 1 (.t 23) (.t 21))⟩] [(4, 11), (15, 10), (15, 11)])⟩
theorem caf20 : cFunc Try.prog Try.f20 = some af20 := by kernel_rfl
/-- (*limelight/bucket.Bucket).Take -/
def af21 : AFunc := ⟨25, [(.tmp 4)],
 (.seq
 (.reg [⟨(some 4), none, (.mv (.c (.bool false)))⟩])
 (.seq
 (.seq
 (.dreg [⟨(some 5), none, (.mv (.t 1))⟩,
   ⟨(some 6), none, (.bin .lss .num (.t 5) (.c (.int .i64 0)))⟩,
   ⟨(some 7), none, (.mv (.t 6))⟩,
   ⟨(some 8), (some (7, false)), (.mv (.t 1))⟩,
   ⟨(some 9), (some (7, false)), (.call 33 [(.t 8), (.c (.int .i64 1000000))])⟩,
   ⟨(some 10), (some (7, false)), (.mv (.t 0))⟩,
   ⟨(some 11), (some (7, false)), (.nilCheck (.t 10))⟩,
   ⟨(some 12), (some (7, false)), (.fieldAddr 2 1 (.t 11))⟩,
   ⟨(some 13), (some (7, false)), (.load1 (.t 12))⟩,
   ⟨(some 14), (some (7, false)), (.bin .gtr .num (.t 9) (.t 13))⟩,
   ⟨(some 15), none, (.pick (.t 7) (.c (.bool true)) (.t 14))⟩] [(8, 4)])
 (.cond (.t 15)
 (.seq
 (.reg [⟨(some 4), none, (.mv (.c (.bool false)))⟩]) .ret) .skip))
 (.seq
 (.reg [⟨(some 16), none, (.mv (.t 0))⟩,
   ⟨(some 17), none, (.nilCheck (.t 16))⟩,
   ⟨(some 18), none, (.fieldAddr 2 1 (.t 17))⟩,
   ⟨(some 19), none, (.load1 (.t 18))⟩,
   ⟨(some 20), none, (.mv (.t 1))⟩,
   ⟨(some 21), none, (.bin .mul .num (.t 20) (.c (.int .i64 1000000)))⟩,
   ⟨(some 22), none, (.bin .sub .num (.t 19) (.t 21))⟩,
   ⟨(some 23), none, (.nilCheck (.t 16))⟩,
   ⟨(some 24), none, (.fieldAddr 2 1 (.t 23))⟩,
   ⟨none, none, (.store 1 (.t 24) (.t 22))⟩])
 (.seq
 (.reg [⟨(some 4), none, (.mv (.c (.bool true)))⟩]) .ret))))⟩
theorem caf21 : cFunc Try.prog Try.f21 = some af21 := by kernel_rfl
/-- slices.Clip[[][]byte,[]byte] -/
def af22 : AFunc := ⟨9, [(.tmp 2)],
 (.seq
 (.reg [⟨(some 2), none, (.mv (.c (.slice none 0 0 none)))⟩])
 (.seq
 (.reg [⟨(some 3), none, (.mv (.t 0))⟩,
   ⟨(some 4), none, (.mv (.t 0))⟩,
   ⟨(some 5), none, (.len (.t 4))⟩,
   ⟨(some 6), none, (.mv (.t 0))⟩,
   ⟨(some 7), none, (.len (.t 6))⟩,
   ⟨(some 8), none, (.cut 1 (.t 3) none (some (.t 5)) (some (.t 7)))⟩,
   ⟨(some 2), none, (.mv (.t 8))⟩]) .ret))⟩
theorem caf22 : cFunc Try.prog Try.f22 = some af22 := by kernel_rfl
/-- (*limelight/pace.Queue).Bucket -/
def af23 : AFunc := ⟨7, [(.tmp 2)],
 (.seq
 (.reg [⟨(some 2), none, (.mv (.c (.ptr none)))⟩])
 (.seq
 (.reg [⟨(some 3), none, (.mv (.t 0))⟩,
   ⟨(some 4), none, (.nilCheck (.t 3))⟩,
   ⟨(some 5), none, (.fieldAddr 1 1 (.t 4))⟩,
   ⟨(some 6), none, (.load1 (.t 5))⟩,
   ⟨(some 2), none, (.mv (.t 6))⟩]) .ret))⟩
theorem caf23 : cFunc Try.prog Try.f23 = some af23 := by kernel_rfl
/-- (*limelight/bucket.Bucket).Level -/
def af24 : AFunc := ⟨8, [(.tmp 2)],
 (.seq
 (.reg [⟨(some 2), none, (.mv (.c (.int .i64 0)))⟩])
 (.seq
 (.reg [⟨(some 3), none, (.mv (.t 0))⟩,
   ⟨(some 4), none, (.nilCheck (.t 3))⟩,
   ⟨(some 5), none, (.fieldAddr 2 1 (.t 4))⟩,
   ⟨(some 6), none, (.load1 (.t 5))⟩,
   ⟨(some 7), none, (.bin .quo .num (.t 6) (.c (.int .i64 1000000)))⟩,
   ⟨(some 2), none, (.mv (.t 7))⟩]) .ret))⟩
theorem caf24 : cFunc Try.prog Try.f24 = some af24 := by kernel_rfl
/-- limelight/limelightref9.NewQueue -/
def af25 : AFunc := ⟨10, [(.tmp 4)],
 (.seq
 (.reg [⟨(some 4), none, (.mv (.c (.ptr none)))⟩])
 (.seq
 (.reg [⟨(some 5), none, (.mv (.t 0))⟩,
   ⟨(some 6), none, (.mv (.t 1))⟩,
   ⟨(some 7), none, (.call 35 [(.t 5), (.t 6)])⟩,
   ⟨(some 8), none, (.build [(.ptr none), (.slice none 0 0 none), (.int .i64 0)] [(0, (1, (.t 7)))])⟩,
   ⟨(some 9), none, (.box (.t 8))⟩,
   ⟨(some 4), none, (.mv (.t 9))⟩]) .ret))⟩
theorem caf25 : cFunc Try.prog Try.f25 = some af25 := by kernel_rfl
def af26_l0 : AC :=
 (.seq
 (.reg [⟨(some 14), none, (.bin .lss .num (.t 13) (.t 12))⟩])
 (.seq
 (.cond (.t 14) .skip (.exit 0))
 (.seq
 (.block 1
 (.seq
 (.reg [⟨(some 15), none, (.mv (.t 13))⟩,
   ⟨(some 5), none, (.mv (.t 15))⟩])
 (.seq
 (.dreg [⟨(some 16), none, (.mv (.t 0))⟩,
   ⟨(some 17), none, (.mv (.t 5))⟩,
   ⟨(some 18), none, (.ixSlice 1 (.t 16) (.t 17))⟩,
   ⟨(some 19), none, (.load1 (.t 18))⟩,
   ⟨(some 20), none, (.conv .bytesStr (.t 19))⟩,
   ⟨(some 21), none, (.mv (.t 1))⟩,
   ⟨(some 22), none, (.mv (.t 5))⟩,
   ⟨(some 23), none, (.ixSlice 1 (.t 21) (.t 22))⟩,
   ⟨(some 24), none, (.load1 (.t 23))⟩,
   ⟨(some 25), none, (.bin .neq .str (.t 20) (.t 24))⟩] [])
 (.cond (.t 25)
 (.seq
 (.reg [⟨(some 4), none, (.mv (.c (.bool false)))⟩]) .ret) .skip))))
 (.reg [⟨(some 26), none, (.bin .add .num (.t 13) (.c (.int .i64 1)))⟩,
   ⟨(some 13), none, (.mv (.t 26))⟩]))))
/-- limelight/limelightlaw11.rows -/
def af26 : AFunc := ⟨27, [(.tmp 4)],
 (.seq
 (.reg [⟨(some 4), none, (.mv (.c (.bool false)))⟩])
 (.seq
 (.seq
 (.reg [⟨(some 6), none, (.mv (.t 0))⟩,
   ⟨(some 7), none, (.len (.t 6))⟩,
   ⟨(some 8), none, (.mv (.t 1))⟩,
   ⟨(some 9), none, (.len (.t 8))⟩,
   ⟨(some 10), none, (.bin .neq .num (.t 7) (.t 9))⟩])
 (.cond (.t 10)
 (.seq
 (.reg [⟨(some 4), none, (.mv (.c (.bool false)))⟩]) .ret) .skip))
 (.seq
 (.seq
 (.reg [⟨(some 11), none, (.mv (.t 0))⟩,
   ⟨(some 12), none, (.len (.t 11))⟩,
   ⟨(some 13), none, (.mv (.c (.int .i64 0)))⟩])
 (.block 0
 (.loop af26_l0)))
 (.seq
 (.reg [⟨(some 4), none, (.mv (.c (.bool true)))⟩]) .ret))))⟩
theorem caf26 : cFunc Try.prog Try.f26 = some af26 := by kernel_rfl
def af27_l0 : AC :=
 (.seq
 (.seq
 (.dreg [⟨(some 4), none, (.mv (.t 0))⟩,
   ⟨(some 5), none, (.nilCheck (.t 4))⟩,
   ⟨(some 6), none, (.fieldAddr 1 1 (.t 5))⟩,
   ⟨(some 7), none, (.load1 (.t 6))⟩,
   ⟨(some 8), none, (.len (.t 7))⟩,
   ⟨(some 9), none, (.bin .gtr .num (.t 8) (.c (.int .i64 0)))⟩,
   ⟨(some 10), none, (.mv (.t 9))⟩,
   ⟨(some 11), (some (10, true)), (.mv (.t 0))⟩,
   ⟨(some 12), (some (10, true)), (.nilCheck (.t 11))⟩,
   ⟨(some 13), (some (10, true)), (.fieldAddr 0 1 (.t 12))⟩,
   ⟨(some 14), (some (10, true)), (.load1 (.t 13))⟩,
   ⟨(some 15), (some (10, true)), (.mv (.t 0))⟩,
   ⟨(some 16), (some (10, true)), (.nilCheck (.t 15))⟩,
   ⟨(some 17), (some (10, true)), (.fieldAddr 1 1 (.t 16))⟩,
   ⟨(some 18), (some (10, true)), (.load1 (.t 17))⟩,
   ⟨(some 19), (some (10, true)), (.ixSlice 1 (.t 18) (.c (.int .i64 0)))⟩,
   ⟨(some 20), (some (10, true)), (.load1 (.t 19))⟩,
   ⟨(some 21), (some (10, true)), (.lenS (.t 20))⟩,
   ⟨(some 22), (some (10, true)), (.bin .add .num (.t 21) (.c (.int .i64 28)))⟩,
   ⟨(some 23), (some (10, true)), (.call 36 [(.t 14), (.t 22)])⟩,
   ⟨(some 24), none, (.pick (.t 10) (.t 23) (.c (.bool false)))⟩] [])
 (.cond (.t 24) .skip (.exit 0)))
 (.block 1
 (.seq
 (.reg [⟨(some 25), none, (.mv (.t 3))⟩,
   ⟨(some 26), none, (.mv (.t 0))⟩,
   ⟨(some 27), none, (.nilCheck (.t 26))⟩,
   ⟨(some 28), none, (.fieldAddr 1 1 (.t 27))⟩,
   ⟨(some 29), none, (.load1 (.t 28))⟩,
   ⟨(some 30), none, (.ixSlice 1 (.t 29) (.c (.int .i64 0)))⟩,
   ⟨(some 31), none, (.load1 (.t 30))⟩,
   ⟨(some 32), none, (.buildSlice 1 [(.str [])] 1 [(0, (1, (.t 31)))])⟩,
   ⟨(some 33), none, (.append 1 16 (.t 25) (.t 32))⟩,
   ⟨(some 3), none, (.mv (.t 33))⟩])
 (.reg [⟨(some 34), none, (.mv (.t 0))⟩,
   ⟨(some 35), none, (.buildSlice 1 [(.str [])] 0 [])⟩,
   ⟨(some 36), none, (.mv (.t 0))⟩,
   ⟨(some 37), none, (.nilCheck (.t 36))⟩,
   ⟨(some 38), none, (.fieldAddr 1 1 (.t 37))⟩,
   ⟨(some 39), none, (.load1 (.t 38))⟩,
   ⟨(some 40), none, (.cut 1 (.t 39) (some (.c (.int .i64 1))) none none)⟩,
   ⟨(some 41), none, (.append 1 16 (.t 35) (.t 40))⟩,
   ⟨(some 42), none, (.nilCheck (.t 34))⟩,
   ⟨(some 43), none, (.fieldAddr 1 1 (.t 42))⟩,
   ⟨none, none, (.store 1 (.t 43) (.t 41))⟩]))))
/-- (*limelight/limelightref9.Queue).Go -/
def af27 : AFunc := ⟨45, [(.tmp 2)],
 (.seq
 (.reg [⟨(some 2), none, (.mv (.c (.slice none 0 0 none)))⟩])
 (.seq
 (.reg [⟨(some 3), none, (.mv (.c (.slice none 0 0 none)))⟩])
 (.seq
 (.block 0
 (.loop af27_l0))
 (.seq
 (.reg [⟨(some 44), none, (.mv (.t 3))⟩,
   ⟨(some 2), none, (.mv (.t 44))⟩]) .ret))))⟩
theorem caf27 : cFunc Try.prog Try.f27 = some af27 := by kernel_rfl
/-- (*limelight/limelightref9.Bucket).Tick -/
def af28 : AFunc := ⟨24, [],
 (.dreg [⟨(some 4), none, (.mv (.t 0))⟩,
   ⟨(some 5), none, (.mv (.t 0))⟩,
   ⟨(some 6), none, (.nilCheck (.t 5))⟩,
   ⟨(some 7), none, (.fieldAddr 2 1 (.t 6))⟩,
   ⟨(some 8), none, (.load1 (.t 7))⟩,
   ⟨(some 9), none, (.mv (.t 0))⟩,
   ⟨(some 10), none, (.nilCheck (.t 9))⟩,
   ⟨(some 11), none, (.fieldAddr 0 1 (.t 10))⟩,
   ⟨(some 12), none, (.load1 (.t 11))⟩,
   ⟨(some 13), none, (.mv (.t 1))⟩,
   ⟨(some 14), none, (.call 38 [(.t 12), (.t 13)])⟩,
   ⟨(some 15), none, (.call 37 [(.t 8), (.t 14)])⟩,
   ⟨(some 16), none, (.mv (.t 0))⟩,
   ⟨(some 17), none, (.nilCheck (.t 16))⟩,
   ⟨(some 18), none, (.fieldAddr 1 1 (.t 17))⟩,
   ⟨(some 19), none, (.load1 (.t 18))⟩,
   ⟨(some 20), none, (.bin .mul .num (.t 19) (.c (.int .i64 1000000)))⟩,
   ⟨(some 21), none, (.mn [(.t 15), (.t 20)])⟩,
   ⟨(some 22), none, (.nilCheck (.t 4))⟩,
   ⟨(some 23), none, (.fieldAddr 2 1 (.t 22))⟩,
   ⟨none, none, (.store 1 (.t 23) (.t 21))⟩] [(4, 11), (15, 10), (15, 11)])⟩
theorem caf28 : cFunc Try.prog Try.f28 = some af28 := by kernel_rfl
/-- (*limelight/pace.Queue).Rate -/
def af29 : AFunc := ⟨10, [],
 (.reg [⟨(some 4), none, (.mv (.t 0))⟩,
   ⟨(some 5), none, (.nilCheck (.t 4))⟩,
   ⟨(some 6), none, (.fieldAddr 1 1 (.t 5))⟩,
   ⟨(some 7), none, (.load1 (.t 6))⟩,
   ⟨(some 8), none, (.mv (.t 1))⟩,
   ⟨(some 9), none, (.call 39 [(.t 7), (.t 8)])⟩])⟩
theorem caf29 : cFunc Try.prog Try.f29 = some af29 := by kernel_rfl
/-- (*limelight/limelightref9.Bucket).Set -/
def af30 : AFunc := ⟨9, [],
 (.reg [⟨(some 4), none, (.mv (.t 0))⟩,
   ⟨(some 5), none, (.mv (.t 1))⟩,
   ⟨(some 6), none, (.call 40 [(.t 5)])⟩,
   ⟨(some 7), none, (.nilCheck (.t 4))⟩,
   ⟨(some 8), none, (.fieldAddr 0 1 (.t 7))⟩,
   ⟨none, none, (.store 1 (.t 8) (.t 6))⟩])⟩
theorem caf30 : cFunc Try.prog Try.f30 = some af30 := by kernel_rfl
/-- (*limelight/limelightref9.Queue).Put -/
def af31 : AFunc := ⟨44, [(.tmp 4)],
 (.seq
 (.reg [⟨(some 4), none, (.mv (.c (.bool false)))⟩])
 (.seq
 (.seq
 (.reg [⟨(some 5), none, (.mv (.t 0))⟩,
   ⟨(some 6), none, (.nilCheck (.t 5))⟩,
   ⟨(some 7), none, (.fieldAddr 1 1 (.t 6))⟩,
   ⟨(some 8), none, (.load1 (.t 7))⟩,
   ⟨(some 9), none, (.len (.t 8))⟩,
   ⟨(some 10), none, (.bin .geq .num (.t 9) (.c (.int .i64 16)))⟩,
   ⟨(some 11), none, (.mv (.t 10))⟩,
   ⟨(some 12), (some (11, false)), (.mv (.t 1))⟩,
   ⟨(some 13), (some (11, false)), (.len (.t 12))⟩,
   ⟨(some 14), (some (11, false)), (.bin .add .num (.t 13) (.c (.int .i64 28)))⟩,
   ⟨(some 15), (some (11, false)), (.mv (.t 0))⟩,
   ⟨(some 16), (some (11, false)), (.nilCheck (.t 15))⟩,
   ⟨(some 17), (some (11, false)), (.fieldAddr 0 1 (.t 16))⟩,
   ⟨(some 18), (some (11, false)), (.load1 (.t 17))⟩,
   ⟨(some 19), (some (11, false)), (.nilCheck (.t 18))⟩,
   ⟨(some 20), (some (11, false)), (.fieldAddr 1 1 (.t 19))⟩,
   ⟨(some 21), (some (11, false)), (.load1 (.t 20))⟩,
   ⟨(some 22), (some (11, false)), (.bin .gtr .num (.t 14) (.t 21))⟩,
   ⟨(some 23), none, (.pick (.t 11) (.c (.bool true)) (.t 22))⟩])
 (.cond (.t 23)
 (.seq
 (.reg [⟨(some 24), none, (.mv (.t 0))⟩,
   ⟨(some 25), none, (.nilCheck (.t 24))⟩,
   ⟨(some 26), none, (.fieldAddr 2 1 (.t 25))⟩,
   ⟨(some 27), none, (.load1 (.t 26))⟩,
   ⟨(some 28), none, (.bin .add .num (.t 27) (.c (.int .i64 1)))⟩,
   ⟨(some 29), none, (.nilCheck (.t 24))⟩,
   ⟨(some 30), none, (.fieldAddr 2 1 (.t 29))⟩,
   ⟨none, none, (.store 1 (.t 30) (.t 28))⟩])
 (.seq
 (.reg [⟨(some 4), none, (.mv (.c (.bool false)))⟩]) .ret)) .skip))
 (.seq
 (.dreg [⟨(some 31), none, (.mv (.t 0))⟩,
   ⟨(some 32), none, (.buildSlice 1 [(.str [])] 0 [])⟩,
   ⟨(some 33), none, (.mv (.t 0))⟩,
   ⟨(some 34), none, (.nilCheck (.t 33))⟩,
   ⟨(some 35), none, (.fieldAddr 1 1 (.t 34))⟩,
   ⟨(some 36), none, (.load1 (.t 35))⟩,
   ⟨(some 37), none, (.append 1 16 (.t 32) (.t 36))⟩,
   ⟨(some 38), none, (.mv (.t 1))⟩,
   ⟨(some 39), none, (.conv .bytesStr (.t 38))⟩,
   ⟨(some 40), none, (.buildSlice 1 [(.str [])] 1 [(0, (1, (.t 39)))])⟩,
   ⟨(some 41), none, (.append 1 16 (.t 37) (.t 40))⟩,
   ⟨(some 42), none, (.nilCheck (.t 31))⟩,
   ⟨(some 43), none, (.fieldAddr 1 1 (.t 42))⟩,
   ⟨none, none, (.store 1 (.t 43) (.t 41))⟩] [(9, 9), (5, 1), (5, 10), (8, 1), (8, 6)])
 (.seq
 (.reg [⟨(some 4), none, (.mv (.c (.bool true)))⟩]) .ret))))⟩
theorem caf31 : cFunc Try.prog Try.f31 = some af31 := by kernel_rfl
/-- limelight/bucket.held -/
def af32 : AFunc := ⟨6, [(.tmp 2)],
 (.seq
 (.reg [⟨(some 2), none, (.mv (.c (.int .i64 0)))⟩])
 (.seq
 (.reg [⟨(some 3), none, (.mv (.t 0))⟩,
   ⟨(some 4), none, (.mn [(.t 3), (.c (.int .i64 1099511627776))])⟩,
   ⟨(some 5), none, (.mx [(.c (.int .i64 0)), (.t 4)])⟩,
   ⟨(some 2), none, (.mv (.t 5))⟩]) .ret))⟩
theorem caf32 : cFunc Try.prog Try.f32 = some af32 := by kernel_rfl
/-- limelight/clock.Mul -/
def af33 : AFunc := ⟨20, [(.tmp 4)],
 (.seq
 (.reg [⟨(some 4), none, (.mv (.c (.int .i64 0)))⟩])
 (.seq
 (.reg [⟨(some 8), none, (.mv (.t 0))⟩,
   ⟨(some 9), none, (.call 42 [(.t 8)])⟩,
   ⟨(some 10), none, (.mv (.t 1))⟩,
   ⟨(some 11), none, (.call 42 [(.t 10)])⟩,
   ⟨(some 12), none, (.call 41 [(.t 9), (.t 11)])⟩,
   ⟨(some 7), none, (.mv (.t 12))⟩,
   ⟨(some 13), none, (.extract 0 (.t 7))⟩,
   ⟨(some 14), none, (.extract 1 (.t 7))⟩,
   ⟨(some 5), none, (.mv (.t 13))⟩,
   ⟨(some 6), none, (.mv (.t 14))⟩])
 (.seq
 (.seq
 (.reg [⟨(some 15), none, (.mv (.t 5))⟩,
   ⟨(some 16), none, (.bin .gtr .num (.t 15) (.c (.int .u64 0)))⟩])
 (.cond (.t 16)
 (.seq
 (.reg [⟨(some 4), none, (.mv (.c (.int .i64 9223372036854775807)))⟩]) .ret) .skip))
 (.seq
 (.reg [⟨(some 17), none, (.mv (.t 6))⟩,
   ⟨(some 18), none, (.mn [(.t 17), (.c (.int .u64 9223372036854775807))])⟩,
   ⟨(some 19), none, (.conv (.int .i64) (.t 18))⟩,
   ⟨(some 4), none, (.mv (.t 19))⟩]) .ret))))⟩
theorem caf33 : cFunc Try.prog Try.f33 = some af33 := by kernel_rfl
/-- limelight/clock.Add -/
def af34 : AFunc := ⟨12, [(.tmp 4)],
 (.seq
 (.reg [⟨(some 4), none, (.mv (.c (.int .i64 0)))⟩])
 (.seq
 (.reg [⟨(some 5), none, (.mv (.t 0))⟩,
   ⟨(some 6), none, (.call 42 [(.t 5)])⟩,
   ⟨(some 7), none, (.mv (.t 1))⟩,
   ⟨(some 8), none, (.call 42 [(.t 7)])⟩,
   ⟨(some 9), none, (.bin .add .num (.t 6) (.t 8))⟩,
   ⟨(some 10), none, (.mn [(.t 9), (.c (.int .u64 9223372036854775807))])⟩,
   ⟨(some 11), none, (.conv (.int .i64) (.t 10))⟩,
   ⟨(some 4), none, (.mv (.t 11))⟩]) .ret))⟩
theorem caf34 : cFunc Try.prog Try.f34 = some af34 := by kernel_rfl
/-- limelight/limelightref9.New -/
def af35 : AFunc := ⟨21, [(.tmp 4)],
 (.seq
 (.reg [⟨(some 4), none, (.mv (.c (.ptr none)))⟩])
 (.seq
 (.reg [⟨(some 6), none, (.mv (.t 0))⟩,
   ⟨(some 7), none, (.call 40 [(.t 6)])⟩,
   ⟨(some 8), none, (.mv (.t 1))⟩,
   ⟨(some 9), none, (.call 40 [(.t 8)])⟩,
   ⟨(some 10), none, (.build [(.int .i64 0), (.int .i64 0), (.int .i64 0)] [(0, (1, (.t 7))), (1, (1, (.t 9)))])⟩,
   ⟨(some 11), none, (.box (.t 10))⟩,
   ⟨(some 5), none, (.mv (.t 11))⟩])
 (.seq
 (.reg [⟨(some 12), none, (.mv (.t 5))⟩,
   ⟨(some 13), none, (.mv (.t 5))⟩,
   ⟨(some 14), none, (.nilCheck (.t 13))⟩,
   ⟨(some 15), none, (.fieldAddr 1 1 (.t 14))⟩,
   ⟨(some 16), none, (.load1 (.t 15))⟩,
   ⟨(some 17), none, (.bin .mul .num (.t 16) (.c (.int .i64 1000000)))⟩,
   ⟨(some 18), none, (.nilCheck (.t 12))⟩,
   ⟨(some 19), none, (.fieldAddr 2 1 (.t 18))⟩,
   ⟨none, none, (.store 1 (.t 19) (.t 17))⟩])
 (.seq
 (.reg [⟨(some 20), none, (.mv (.t 5))⟩,
   ⟨(some 4), none, (.mv (.t 20))⟩]) .ret))))⟩
theorem caf35 : cFunc Try.prog Try.f35 = some af35 := by kernel_rfl
/-- (*limelight/limelightref9.Bucket).Take -/
def af36 : AFunc := ⟨26, [(.tmp 4)],
 (.seq
 (.reg [⟨(some 4), none, (.mv (.c (.bool false)))⟩])
 (.seq
 (.seq
 (.reg [⟨(some 5), none, (.mv (.t 1))⟩,
   ⟨(some 6), none, (.bin .lss .num (.t 5) (.c (.int .i64 0)))⟩,
   ⟨(some 7), none, (.mv (.t 6))⟩,
   ⟨(some 8), (some (7, false)), (.mv (.t 1))⟩,
   ⟨(some 9), (some (7, false)), (.mv (.t 0))⟩,
   ⟨(some 10), (some (7, false)), (.nilCheck (.t 9))⟩,
   ⟨(some 11), (some (7, false)), (.fieldAddr 2 1 (.t 10))⟩,
   ⟨(some 12), (some (7, false)), (.load1 (.t 11))⟩,
   ⟨(some 13), (some (7, false)), (.bin .quo .num (.t 12) (.c (.int .i64 1000000)))⟩,
   ⟨(some 14), (some (7, false)), (.bin .gtr .num (.t 8) (.t 13))⟩,
   ⟨(some 15), none, (.pick (.t 7) (.c (.bool true)) (.t 14))⟩])
 (.cond (.t 15)
 (.seq
 (.reg [⟨(some 4), none, (.mv (.c (.bool false)))⟩]) .ret) .skip))
 (.seq
 (.reg [⟨(some 16), none, (.mv (.t 0))⟩,
   ⟨(some 17), none, (.mv (.t 0))⟩,
   ⟨(some 18), none, (.nilCheck (.t 17))⟩,
   ⟨(some 19), none, (.fieldAddr 2 1 (.t 18))⟩,
   ⟨(some 20), none, (.load1 (.t 19))⟩,
   ⟨(some 21), none, (.mv (.t 1))⟩,
   ⟨(some 22), none, (.bin .mul .num (.t 21) (.c (.int .i64 1000000)))⟩,
   ⟨(some 23), none, (.bin .sub .num (.t 20) (.t 22))⟩,
   ⟨(some 24), none, (.nilCheck (.t 16))⟩,
   ⟨(some 25), none, (.fieldAddr 2 1 (.t 24))⟩,
   ⟨none, none, (.store 1 (.t 25) (.t 23))⟩])
 (.seq
 (.reg [⟨(some 4), none, (.mv (.c (.bool true)))⟩]) .ret))))⟩
theorem caf36 : cFunc Try.prog Try.f36 = some af36 := by kernel_rfl
/-- limelight/limelightref9.Add -/
def af37 : AFunc := ⟨16, [(.tmp 4)],
 (.seq
 (.reg [⟨(some 4), none, (.mv (.c (.int .i64 0)))⟩])
 (.seq
 (.reg [⟨(some 5), none, (.mv (.t 0))⟩,
   ⟨(some 6), none, (.mx [(.t 5), (.c (.int .i64 0))])⟩,
   ⟨(some 7), none, (.mv (.t 1))⟩,
   ⟨(some 8), none, (.mx [(.t 7), (.c (.int .i64 0))])⟩,
   ⟨(some 0), none, (.mv (.t 6))⟩,
   ⟨(some 1), none, (.mv (.t 8))⟩])
 (.seq
 (.seq
 (.reg [⟨(some 9), none, (.mv (.t 0))⟩,
   ⟨(some 10), none, (.mv (.t 1))⟩,
   ⟨(some 11), none, (.bin .sub .num (.c (.int .i64 9223372036854775807)) (.t 10))⟩,
   ⟨(some 12), none, (.bin .gtr .num (.t 9) (.t 11))⟩])
 (.cond (.t 12)
 (.seq
 (.reg [⟨(some 4), none, (.mv (.c (.int .i64 9223372036854775807)))⟩]) .ret) .skip))
 (.seq
 (.reg [⟨(some 13), none, (.mv (.t 0))⟩,
   ⟨(some 14), none, (.mv (.t 1))⟩,
   ⟨(some 15), none, (.bin .add .num (.t 13) (.t 14))⟩,
   ⟨(some 4), none, (.mv (.t 15))⟩]) .ret))))⟩
theorem caf37 : cFunc Try.prog Try.f37 = some af37 := by kernel_rfl
/-- limelight/limelightref9.Mul -/
def af38 : AFunc := ⟨20, [(.tmp 4)],
 (.seq
 (.reg [⟨(some 4), none, (.mv (.c (.int .i64 0)))⟩])
 (.seq
 (.reg [⟨(some 5), none, (.mv (.t 0))⟩,
   ⟨(some 6), none, (.mx [(.t 5), (.c (.int .i64 0))])⟩,
   ⟨(some 7), none, (.mv (.t 1))⟩,
   ⟨(some 8), none, (.mx [(.t 7), (.c (.int .i64 0))])⟩,
   ⟨(some 0), none, (.mv (.t 6))⟩,
   ⟨(some 1), none, (.mv (.t 8))⟩])
 (.seq
 (.seq
 (.reg [⟨(some 9), none, (.mv (.t 0))⟩,
   ⟨(some 10), none, (.bin .gtr .num (.t 9) (.c (.int .i64 0)))⟩,
   ⟨(some 11), none, (.mv (.t 10))⟩,
   ⟨(some 12), (some (11, true)), (.mv (.t 1))⟩,
   ⟨(some 13), (some (11, true)), (.mv (.t 0))⟩,
   ⟨(some 14), (some (11, true)), (.bin .quo .num (.c (.int .i64 9223372036854775807)) (.t 13))⟩,
   ⟨(some 15), (some (11, true)), (.bin .gtr .num (.t 12) (.t 14))⟩,
   ⟨(some 16), none, (.pick (.t 11) (.t 15) (.c (.bool false)))⟩])
 (.cond (.t 16)
 (.seq
 (.reg [⟨(some 4), none, (.mv (.c (.int .i64 9223372036854775807)))⟩]) .ret) .skip))
 (.seq
 (.reg [⟨(some 17), none, (.mv (.t 0))⟩,
   ⟨(some 18), none, (.mv (.t 1))⟩,
   ⟨(some 19), none, (.bin .mul .num (.t 17) (.t 18))⟩,
   ⟨(some 4), none, (.mv (.t 19))⟩]) .ret))))⟩
theorem caf38 : cFunc Try.prog Try.f38 = some af38 := by kernel_rfl
/-- (*limelight/bucket.Bucket).Rate -/
def af39 : AFunc := ⟨9, [],
 (.reg [⟨(some 4), none, (.mv (.t 0))⟩,
   ⟨(some 5), none, (.mv (.t 1))⟩,
   ⟨(some 6), none, (.call 32 [(.t 5)])⟩,
   ⟨(some 7), none, (.nilCheck (.t 4))⟩,
   ⟨(some 8), none, (.fieldAddr 0 1 (.t 7))⟩,
   ⟨none, none, (.store 1 (.t 8) (.t 6))⟩])⟩
theorem caf39 : cFunc Try.prog Try.f39 = some af39 := by kernel_rfl
/-- limelight/limelightref9.held -/
def af40 : AFunc := ⟨6, [(.tmp 2)],
 (.seq
 (.reg [⟨(some 2), none, (.mv (.c (.int .i64 0)))⟩])
 (.seq
 (.reg [⟨(some 3), none, (.mv (.t 0))⟩,
   ⟨(some 4), none, (.mn [(.t 3), (.c (.int .i64 1099511627776))])⟩,
   ⟨(some 5), none, (.mx [(.t 4), (.c (.int .i64 0))])⟩,
   ⟨(some 2), none, (.mv (.t 5))⟩]) .ret))⟩
theorem caf40 : cFunc Try.prog Try.f40 = some af40 := by kernel_rfl
/-- math/bits.Mul64 -/
def af41 : AFunc := ⟨51, [(.tmp 4), (.tmp 5)],
 (.seq
 (.reg [⟨(some 4), none, (.mv (.c (.int .u64 0)))⟩,
   ⟨(some 5), none, (.mv (.c (.int .u64 0)))⟩])
 (.seq
 (.reg [⟨(some 14), none, (.mv (.t 0))⟩,
   ⟨(some 15), none, (.bin .and .num (.t 14) (.c (.int .u64 4294967295)))⟩,
   ⟨(some 6), none, (.mv (.t 15))⟩])
 (.seq
 (.reg [⟨(some 16), none, (.mv (.t 0))⟩,
   ⟨(some 17), none, (.bin .shr .num (.t 16) (.c (.int .u64 32)))⟩,
   ⟨(some 7), none, (.mv (.t 17))⟩])
 (.seq
 (.reg [⟨(some 18), none, (.mv (.t 1))⟩,
   ⟨(some 19), none, (.bin .and .num (.t 18) (.c (.int .u64 4294967295)))⟩,
   ⟨(some 8), none, (.mv (.t 19))⟩])
 (.seq
 (.reg [⟨(some 20), none, (.mv (.t 1))⟩,
   ⟨(some 21), none, (.bin .shr .num (.t 20) (.c (.int .u64 32)))⟩,
   ⟨(some 9), none, (.mv (.t 21))⟩])
 (.seq
 (.reg [⟨(some 22), none, (.mv (.t 6))⟩,
   ⟨(some 23), none, (.mv (.t 8))⟩,
   ⟨(some 24), none, (.bin .mul .num (.t 22) (.t 23))⟩,
   ⟨(some 10), none, (.mv (.t 24))⟩])
 (.seq
 (.reg [⟨(some 25), none, (.mv (.t 7))⟩,
   ⟨(some 26), none, (.mv (.t 8))⟩,
   ⟨(some 27), none, (.bin .mul .num (.t 25) (.t 26))⟩,
   ⟨(some 28), none, (.mv (.t 10))⟩,
   ⟨(some 29), none, (.bin .shr .num (.t 28) (.c (.int .u64 32)))⟩,
   ⟨(some 30), none, (.bin .add .num (.t 27) (.t 29))⟩,
   ⟨(some 11), none, (.mv (.t 30))⟩])
 (.seq
 (.reg [⟨(some 31), none, (.mv (.t 11))⟩,
   ⟨(some 32), none, (.bin .and .num (.t 31) (.c (.int .u64 4294967295)))⟩,
   ⟨(some 12), none, (.mv (.t 32))⟩])
 (.seq
 (.reg [⟨(some 33), none, (.mv (.t 11))⟩,
   ⟨(some 34), none, (.bin .shr .num (.t 33) (.c (.int .u64 32)))⟩,
   ⟨(some 13), none, (.mv (.t 34))⟩])
 (.seq
 (.reg [⟨(some 35), none, (.mv (.t 12))⟩,
   ⟨(some 36), none, (.mv (.t 6))⟩,
   ⟨(some 37), none, (.mv (.t 9))⟩,
   ⟨(some 38), none, (.bin .mul .num (.t 36) (.t 37))⟩,
   ⟨(some 39), none, (.bin .add .num (.t 35) (.t 38))⟩,
   ⟨(some 12), none, (.mv (.t 39))⟩])
 (.seq
 (.reg [⟨(some 40), none, (.mv (.t 7))⟩,
   ⟨(some 41), none, (.mv (.t 9))⟩,
   ⟨(some 42), none, (.bin .mul .num (.t 40) (.t 41))⟩,
   ⟨(some 43), none, (.mv (.t 13))⟩,
   ⟨(some 44), none, (.bin .add .num (.t 42) (.t 43))⟩,
   ⟨(some 45), none, (.mv (.t 12))⟩,
   ⟨(some 46), none, (.bin .shr .num (.t 45) (.c (.int .u64 32)))⟩,
   ⟨(some 47), none, (.bin .add .num (.t 44) (.t 46))⟩,
   ⟨(some 4), none, (.mv (.t 47))⟩])
 (.seq
 (.reg [⟨(some 48), none, (.mv (.t 0))⟩,
   ⟨(some 49), none, (.mv (.t 1))⟩,
   ⟨(some 50), none, (.bin .mul .num (.t 48) (.t 49))⟩,
   ⟨(some 5), none, (.mv (.t 50))⟩]) .ret))))))))))))⟩
theorem caf41 : cFunc Try.prog Try.f41 = some af41 := by kernel_rfl
/-- limelight/clock.up -/
def af42 : AFunc := ⟨6, [(.tmp 2)],
 (.seq
 (.reg [⟨(some 2), none, (.mv (.c (.int .u64 0)))⟩])
 (.seq
 (.reg [⟨(some 3), none, (.mv (.t 0))⟩,
   ⟨(some 4), none, (.mx [(.c (.int .i64 0)), (.t 3)])⟩,
   ⟨(some 5), none, (.conv (.int .u64) (.t 4))⟩,
   ⟨(some 2), none, (.mv (.t 5))⟩]) .ret))⟩
theorem caf42 : cFunc Try.prog Try.f42 = some af42 := by kernel_rfl
def AP : Nat → Option AFunc
  | 3 => some af3
  | 4 => some af4
  | 5 => some af5
  | 6 => some af6
  | 7 => some af7
  | 8 => some af8
  | 9 => some af9
  | 10 => some af10
  | 11 => some af11
  | 12 => some af12
  | 13 => some af13
  | 14 => some af14
  | 15 => some af15
  | 16 => some af16
  | 17 => some af17
  | 18 => some af18
  | 19 => some af19
  | 20 => some af20
  | 21 => some af21
  | 22 => some af22
  | 23 => some af23
  | 24 => some af24
  | 25 => some af25
  | 26 => some af26
  | 27 => some af27
  | 28 => some af28
  | 29 => some af29
  | 30 => some af30
  | 31 => some af31
  | 32 => some af32
  | 33 => some af33
  | 34 => some af34
  | 35 => some af35
  | 36 => some af36
  | 37 => some af37
  | 38 => some af38
  | 39 => some af39
  | 40 => some af40
  | 41 => some af41
  | 42 => some af42
  | _ => none
theorem apOk : APOk Try.prog AP := by
  intro f af h
  unfold AP at h
  split at h
  · cases h; exact ⟨_, Try.func3, caf3⟩
  · cases h; exact ⟨_, Try.func4, caf4⟩
  · cases h; exact ⟨_, Try.func5, caf5⟩
  · cases h; exact ⟨_, Try.func6, caf6⟩
  · cases h; exact ⟨_, Try.func7, caf7⟩
  · cases h; exact ⟨_, Try.func8, caf8⟩
  · cases h; exact ⟨_, Try.func9, caf9⟩
  · cases h; exact ⟨_, Try.func10, caf10⟩
  · cases h; exact ⟨_, Try.func11, caf11⟩
  · cases h; exact ⟨_, Try.func12, caf12⟩
  · cases h; exact ⟨_, Try.func13, caf13⟩
  · cases h; exact ⟨_, Try.func14, caf14⟩
  · cases h; exact ⟨_, Try.func15, caf15⟩
  · cases h; exact ⟨_, Try.func16, caf16⟩
  · cases h; exact ⟨_, Try.func17, caf17⟩
  · cases h; exact ⟨_, Try.func18, caf18⟩
  · cases h; exact ⟨_, Try.func19, caf19⟩
  · cases h; exact ⟨_, Try.func20, caf20⟩
  · cases h; exact ⟨_, Try.func21, caf21⟩
  · cases h; exact ⟨_, Try.func22, caf22⟩
  · cases h; exact ⟨_, Try.func23, caf23⟩
  · cases h; exact ⟨_, Try.func24, caf24⟩
  · cases h; exact ⟨_, Try.func25, caf25⟩
  · cases h; exact ⟨_, Try.func26, caf26⟩
  · cases h; exact ⟨_, Try.func27, caf27⟩
  · cases h; exact ⟨_, Try.func28, caf28⟩
  · cases h; exact ⟨_, Try.func29, caf29⟩
  · cases h; exact ⟨_, Try.func30, caf30⟩
  · cases h; exact ⟨_, Try.func31, caf31⟩
  · cases h; exact ⟨_, Try.func32, caf32⟩
  · cases h; exact ⟨_, Try.func33, caf33⟩
  · cases h; exact ⟨_, Try.func34, caf34⟩
  · cases h; exact ⟨_, Try.func35, caf35⟩
  · cases h; exact ⟨_, Try.func36, caf36⟩
  · cases h; exact ⟨_, Try.func37, caf37⟩
  · cases h; exact ⟨_, Try.func38, caf38⟩
  · cases h; exact ⟨_, Try.func39, caf39⟩
  · cases h; exact ⟨_, Try.func40, caf40⟩
  · cases h; exact ⟨_, Try.func41, caf41⟩
  · cases h; exact ⟨_, Try.func42, caf42⟩
  · cases h
theorem mixed : Try.prog.follows .mixedOrders = true := by kernel_rfl
end Go.Proofs.YtkjmhhoioanolaaA
