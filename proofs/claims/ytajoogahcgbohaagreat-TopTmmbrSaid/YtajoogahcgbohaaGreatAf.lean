/- The loaded functions of this seat, their types resolved: printed by a program of this claim; each is held against the loaded one. -/
import Derived.Test.YtajoogahcgbohaaGreatAfA
set_option maxRecDepth 100000
namespace Go.Proofs.YtajoogahcgbohaaGreatA
open Go.RowKit
/-- limelight/pace.cost -/
def af111 : AFunc := ⟨6, [(.tmp 2)],
 (.seq
 (.reg [⟨(some 2), none, (.mv (.c (.int .i64 0)))⟩])
 (.seq
 (.reg [⟨(some 3), none, (.mv (.t 0))⟩,
   ⟨(some 4), none, (.len (.t 3))⟩,
   ⟨(some 5), none, (.bin .add .num (.t 4) (.c (.int .i64 28)))⟩,
   ⟨(some 2), none, (.mv (.t 5))⟩]) .ret))⟩
theorem caf111 : cFunc Tryz.prog Tryz.f111 = some af111 := by kernel_rfl
/-- slices.Clip[[][]byte,[]byte] -/
def af112 : AFunc := ⟨9, [(.tmp 2)],
 (.seq
 (.reg [⟨(some 2), none, (.mv (.c (.slice none 0 0 none)))⟩])
 (.seq
 (.reg [⟨(some 3), none, (.mv (.t 0))⟩,
   ⟨(some 4), none, (.mv (.t 0))⟩,
   ⟨(some 5), none, (.len (.t 4))⟩,
   ⟨(some 6), none, (.mv (.t 0))⟩,
   ⟨(some 7), none, (.len (.t 6))⟩,
   ⟨(some 8), none, (.cut 1 (.t 3) none (some (.t 5)) (some (.t 7)))⟩,
   ⟨(some 2), none, (.mv (.t 8))⟩]) .ret))⟩
theorem caf112 : cFunc Tryz.prog Tryz.f112 = some af112 := by kernel_rfl
/-- limelight/rtcp.values -/
def af113 : AFunc := ⟨100, [(.tmp 2)],
 (.seq
 (.reg [⟨(some 1), none, (.box (.t 0))⟩,
   ⟨(some 2), none, (.mv (.c (.bool false)))⟩])
 (.seq
 (.seq
 (.reg [⟨(some 3), none, (.fieldAddr 0 1 (.t 1))⟩,
   ⟨(some 4), none, (.load1 (.t 3))⟩])
 (.block 0
 (.seq
 (.seq
 (.reg [⟨(some 6), none, (.bin .eql .num (.t 4) (.c (.int .i64 1)))⟩,
   ⟨(some 5), none, (.mv (.t 6))⟩])
 (.cond (.t 5) .skip
 (.reg [⟨(some 7), none, (.bin .eql .num (.t 4) (.c (.int .i64 2)))⟩,
   ⟨(some 5), none, (.mv (.t 7))⟩])))
 (.cond (.t 5)
 (.seq
 (.reg [⟨(some 8), none, (.fieldAddr 3 1 (.t 1))⟩,
   ⟨(some 9), none, (.load1 (.t 8))⟩,
   ⟨(some 10), none, (.len (.t 9))⟩,
   ⟨(some 11), none, (.bin .leq .num (.t 10) (.c (.int .i64 6)))⟩,
   ⟨(some 12), none, (.mv (.t 11))⟩,
   ⟨(some 13), (some (12, true)), (.fieldAddr 3 1 (.t 1))⟩,
   ⟨(some 14), (some (12, true)), (.load1 (.t 13))⟩,
   ⟨(some 15), (some (12, true)), (.call 178 [(.t 14), (.c (.func 179 []))])⟩,
   ⟨(some 16), (some (12, true)), (.un .not (.t 15))⟩,
   ⟨(some 17), none, (.pick (.t 12) (.t 16) (.c (.bool false)))⟩,
   ⟨(some 2), none, (.mv (.t 17))⟩]) .ret)
 (.seq
 (.reg [⟨(some 19), none, (.bin .eql .num (.t 4) (.c (.int .i64 4)))⟩,
   ⟨(some 18), none, (.mv (.t 19))⟩])
 (.cond (.t 18)
 (.seq
 (.reg [⟨(some 20), none, (.fieldAddr 5 1 (.t 1))⟩,
   ⟨(some 21), none, (.load1 (.t 20))⟩,
   ⟨(some 22), none, (.len (.t 21))⟩,
   ⟨(some 23), none, (.fieldAddr 4 1 (.t 1))⟩,
   ⟨(some 24), none, (.load1 (.t 23))⟩,
   ⟨(some 25), none, (.len (.t 24))⟩,
   ⟨(some 26), none, (.bin .eql .num (.t 22) (.t 25))⟩,
   ⟨(some 27), none, (.mv (.t 26))⟩,
   ⟨(some 28), (some (27, true)), (.fieldAddr 4 1 (.t 1))⟩,
   ⟨(some 29), (some (27, true)), (.load1 (.t 28))⟩,
   ⟨(some 30), (some (27, true)), (.len (.t 29))⟩,
   ⟨(some 31), (some (27, true)), (.bin .geq .num (.t 30) (.c (.int .i64 1)))⟩,
   ⟨(some 32), none, (.pick (.t 27) (.t 31) (.c (.bool false)))⟩,
   ⟨(some 33), none, (.mv (.t 32))⟩,
   ⟨(some 34), (some (33, true)), (.fieldAddr 4 1 (.t 1))⟩,
   ⟨(some 35), (some (33, true)), (.load1 (.t 34))⟩,
   ⟨(some 36), (some (33, true)), (.len (.t 35))⟩,
   ⟨(some 37), (some (33, true)), (.bin .leq .num (.t 36) (.c (.int .i64 16)))⟩,
   ⟨(some 38), none, (.pick (.t 33) (.t 37) (.c (.bool false)))⟩,
   ⟨(some 39), none, (.mv (.t 38))⟩,
   ⟨(some 40), (some (39, true)), (.fieldAddr 5 1 (.t 1))⟩,
   ⟨(some 41), (some (39, true)), (.load1 (.t 40))⟩,
   ⟨(some 42), (some (39, true)), (.call 180 [(.t 41), (.c (.func 181 []))])⟩,
   ⟨(some 43), (some (39, true)), (.un .not (.t 42))⟩,
   ⟨(some 44), none, (.pick (.t 39) (.t 43) (.c (.bool false)))⟩,
   ⟨(some 2), none, (.mv (.t 44))⟩]) .ret)
 (.seq
 (.reg [⟨(some 46), none, (.bin .eql .num (.t 4) (.c (.int .i64 5)))⟩,
   ⟨(some 45), none, (.mv (.t 46))⟩])
 (.cond (.t 45)
 (.seq
 (.dreg [⟨(some 47), none, (.fieldAddr 4 1 (.t 1))⟩,
   ⟨(some 48), none, (.load1 (.t 47))⟩,
   ⟨(some 49), none, (.len (.t 48))⟩,
   ⟨(some 50), none, (.bin .leq .num (.t 49) (.c (.int .i64 16)))⟩,
   ⟨(some 51), none, (.mv (.t 50))⟩,
   ⟨(some 52), (some (51, true)), (.fieldAddr 6 1 (.t 1))⟩,
   ⟨(some 53), (some (51, true)), (.load1 (.t 52))⟩,
   ⟨(some 54), (some (51, true)), (.call 5 [(.t 53), (.c (.int .i64 18))])⟩,
   ⟨(some 55), (some (51, true)), (.fieldAddr 6 1 (.t 1))⟩,
   ⟨(some 56), (some (51, true)), (.load1 (.t 55))⟩,
   ⟨(some 57), (some (51, true)), (.bin .eql .num (.t 54) (.t 56))⟩,
   ⟨(some 58), none, (.pick (.t 51) (.t 57) (.c (.bool false)))⟩,
   ⟨(some 2), none, (.mv (.t 58))⟩] [(9, 7)]) .ret)
 (.seq
 (.reg [⟨(some 60), none, (.bin .eql .num (.t 4) (.c (.int .i64 6)))⟩,
   ⟨(some 59), none, (.mv (.t 60))⟩])
 (.cond (.t 59)
 (.seq
 (.reg [⟨(some 61), none, (.fieldAddr 7 1 (.t 1))⟩,
   ⟨(some 62), none, (.load1 (.t 61))⟩,
   ⟨(some 63), none, (.bin .geq .num (.t 62) (.c (.int .i64 192)))⟩,
   ⟨(some 64), none, (.mv (.t 63))⟩,
   ⟨(some 65), (some (64, true)), (.fieldAddr 7 1 (.t 1))⟩,
   ⟨(some 66), (some (64, true)), (.load1 (.t 65))⟩,
   ⟨(some 67), (some (64, true)), (.bin .leq .num (.t 66) (.c (.int .i64 223)))⟩,
   ⟨(some 68), none, (.pick (.t 64) (.t 67) (.c (.bool false)))⟩,
   ⟨(some 69), none, (.mv (.t 68))⟩,
   ⟨(some 70), (some (69, true)), (.fieldAddr 8 1 (.t 1))⟩,
   ⟨(some 71), (some (69, true)), (.load1 (.t 70))⟩,
   ⟨(some 72), (some (69, true)), (.bin .geq .num (.t 71) (.c (.int .i64 0)))⟩,
   ⟨(some 73), none, (.pick (.t 69) (.t 72) (.c (.bool false)))⟩,
   ⟨(some 74), none, (.mv (.t 73))⟩,
   ⟨(some 75), (some (74, true)), (.fieldAddr 8 1 (.t 1))⟩,
   ⟨(some 76), (some (74, true)), (.load1 (.t 75))⟩,
   ⟨(some 77), (some (74, true)), (.bin .leq .num (.t 76) (.c (.int .i64 31)))⟩,
   ⟨(some 78), none, (.pick (.t 74) (.t 77) (.c (.bool false)))⟩,
   ⟨(some 79), none, (.mv (.t 78))⟩,
   ⟨(some 80), (some (79, true)), (.fieldAddr 9 1 (.t 1))⟩,
   ⟨(some 81), (some (79, true)), (.load1 (.t 80))⟩,
   ⟨(some 82), (some (79, true)), (.len (.t 81))⟩,
   ⟨(some 83), (some (79, true)), (.bin .rem .num (.t 82) (.c (.int .i64 4)))⟩,
   ⟨(some 84), (some (79, true)), (.bin .eql .num (.t 83) (.c (.int .i64 0)))⟩,
   ⟨(some 85), none, (.pick (.t 79) (.t 84) (.c (.bool false)))⟩,
   ⟨(some 86), none, (.mv (.t 85))⟩,
   ⟨(some 87), (some (86, true)), (.fieldAddr 9 1 (.t 1))⟩,
   ⟨(some 88), (some (86, true)), (.load1 (.t 87))⟩,
   ⟨(some 89), (some (86, true)), (.len (.t 88))⟩,
   ⟨(some 90), (some (86, true)), (.bin .leq .num (.t 89) (.c (.int .i64 262140)))⟩,
   ⟨(some 91), none, (.pick (.t 86) (.t 90) (.c (.bool false)))⟩,
   ⟨(some 92), none, (.mv (.t 91))⟩,
   ⟨(some 93), (some (92, true)), (.fieldAddr 7 1 (.t 1))⟩,
   ⟨(some 94), (some (92, true)), (.load1 (.t 93))⟩,
   ⟨(some 95), (some (92, true)), (.fieldAddr 8 1 (.t 1))⟩,
   ⟨(some 96), (some (92, true)), (.load1 (.t 95))⟩,
   ⟨(some 97), (some (92, true)), (.call 118 [(.t 94), (.t 96)])⟩,
   ⟨(some 98), (some (92, true)), (.bin .eql .num (.t 97) (.c (.int .i64 6)))⟩,
   ⟨(some 99), none, (.pick (.t 92) (.t 98) (.c (.bool false)))⟩,
   ⟨(some 2), none, (.mv (.t 99))⟩]) .ret) .skip))))))))))
 (.seq
 (.reg [⟨(some 2), none, (.mv (.c (.bool true)))⟩]) .ret)))⟩
theorem caf113 : cFunc Tryz.prog Tryz.f113 = some af113 := by kernel_rfl
/-- limelight/rtcp.fields -/
def af114 : AFunc := ⟨98, [(.tmp 2)],
 (.seq
 (.reg [⟨(some 1), none, (.box (.t 0))⟩,
   ⟨(some 2), none, (.mv (.c (.bool false)))⟩])
 (.seq
 (.reg [⟨(some 5), none, (.fieldAddr 0 1 (.t 1))⟩,
   ⟨(some 6), none, (.load1 (.t 5))⟩,
   ⟨(some 7), none, (.bin .eql .num (.t 6) (.c (.int .i64 1)))⟩,
   ⟨(some 8), none, (.mv (.t 7))⟩,
   ⟨(some 9), (some (8, false)), (.fieldAddr 0 1 (.t 1))⟩,
   ⟨(some 10), (some (8, false)), (.load1 (.t 9))⟩,
   ⟨(some 11), (some (8, false)), (.bin .eql .num (.t 10) (.c (.int .i64 2)))⟩,
   ⟨(some 12), none, (.pick (.t 8) (.c (.bool true)) (.t 11))⟩,
   ⟨(some 3), none, (.mv (.t 12))⟩])
 (.seq
 (.reg [⟨(some 13), none, (.fieldAddr 0 1 (.t 1))⟩,
   ⟨(some 14), none, (.load1 (.t 13))⟩,
   ⟨(some 15), none, (.bin .eql .num (.t 14) (.c (.int .i64 6)))⟩,
   ⟨(some 4), none, (.mv (.t 15))⟩])
 (.seq
 (.reg [⟨(some 16), none, (.mv (.t 3))⟩,
   ⟨(some 17), none, (.mv (.t 16))⟩,
   ⟨(some 18), (some (17, false)), (.fieldAddr 3 1 (.t 1))⟩,
   ⟨(some 19), (some (17, false)), (.load1 (.t 18))⟩,
   ⟨(some 20), (some (17, false)), (.len (.t 19))⟩,
   ⟨(some 21), (some (17, false)), (.bin .eql .num (.t 20) (.c (.int .i64 0)))⟩,
   ⟨(some 22), none, (.pick (.t 17) (.c (.bool true)) (.t 21))⟩,
   ⟨(some 23), none, (.mv (.t 22))⟩,
   ⟨(some 24), (some (23, true)), (.fieldAddr 0 1 (.t 1))⟩,
   ⟨(some 25), (some (23, true)), (.load1 (.t 24))⟩,
   ⟨(some 26), (some (23, true)), (.bin .eql .num (.t 25) (.c (.int .i64 3)))⟩,
   ⟨(some 27), (some (23, true)), (.mv (.t 26))⟩,
   ⟨(some 28), (some (27, false)), (.fieldAddr 2 1 (.t 1))⟩,
   ⟨(some 29), (some (27, false)), (.load1 (.t 28))⟩,
   ⟨(some 30), (some (27, false)), (.bin .eql .num (.t 29) (.c (.int .u32 0)))⟩,
   ⟨(some 31), (some (23, true)), (.pick (.t 27) (.c (.bool true)) (.t 30))⟩,
   ⟨(some 32), none, (.pick (.t 23) (.t 31) (.c (.bool false)))⟩,
   ⟨(some 33), none, (.mv (.t 32))⟩,
   ⟨(some 34), (some (33, true)), (.fieldAddr 0 1 (.t 1))⟩,
   ⟨(some 35), (some (33, true)), (.load1 (.t 34))⟩,
   ⟨(some 36), (some (33, true)), (.bin .eql .num (.t 35) (.c (.int .i64 4)))⟩,
   ⟨(some 37), (some (33, true)), (.mv (.t 36))⟩,
   ⟨(some 38), (some (37, false)), (.fieldAddr 5 1 (.t 1))⟩,
   ⟨(some 39), (some (37, false)), (.load1 (.t 38))⟩,
   ⟨(some 40), (some (37, false)), (.len (.t 39))⟩,
   ⟨(some 41), (some (37, false)), (.bin .eql .num (.t 40) (.c (.int .i64 0)))⟩,
   ⟨(some 42), (some (33, true)), (.pick (.t 37) (.c (.bool true)) (.t 41))⟩,
   ⟨(some 43), none, (.pick (.t 33) (.t 42) (.c (.bool false)))⟩,
   ⟨(some 44), none, (.mv (.t 43))⟩,
   ⟨(some 45), (some (44, true)), (.fieldAddr 0 1 (.t 1))⟩,
   ⟨(some 46), (some (44, true)), (.load1 (.t 45))⟩,
   ⟨(some 47), (some (44, true)), (.bin .eql .num (.t 46) (.c (.int .i64 4)))⟩,
   ⟨(some 48), (some (44, true)), (.mv (.t 47))⟩,
   ⟨(some 49), (some (48, false)), (.fieldAddr 0 1 (.t 1))⟩,
   ⟨(some 50), (some (48, false)), (.load1 (.t 49))⟩,
   ⟨(some 51), (some (48, false)), (.bin .eql .num (.t 50) (.c (.int .i64 5)))⟩,
   ⟨(some 52), (some (44, true)), (.pick (.t 48) (.c (.bool true)) (.t 51))⟩,
   ⟨(some 53), (some (44, true)), (.mv (.t 52))⟩,
   ⟨(some 54), (some (53, false)), (.fieldAddr 4 1 (.t 1))⟩,
   ⟨(some 55), (some (53, false)), (.load1 (.t 54))⟩,
   ⟨(some 56), (some (53, false)), (.len (.t 55))⟩,
   ⟨(some 57), (some (53, false)), (.bin .eql .num (.t 56) (.c (.int .i64 0)))⟩,
   ⟨(some 58), (some (44, true)), (.pick (.t 53) (.c (.bool true)) (.t 57))⟩,
   ⟨(some 59), none, (.pick (.t 44) (.t 58) (.c (.bool false)))⟩,
   ⟨(some 60), none, (.mv (.t 59))⟩,
   ⟨(some 61), (some (60, true)), (.fieldAddr 0 1 (.t 1))⟩,
   ⟨(some 62), (some (60, true)), (.load1 (.t 61))⟩,
   ⟨(some 63), (some (60, true)), (.bin .eql .num (.t 62) (.c (.int .i64 5)))⟩,
   ⟨(some 64), (some (60, true)), (.mv (.t 63))⟩,
   ⟨(some 65), (some (64, false)), (.fieldAddr 6 1 (.t 1))⟩,
   ⟨(some 66), (some (64, false)), (.load1 (.t 65))⟩,
   ⟨(some 67), (some (64, false)), (.bin .eql .num (.t 66) (.c (.int .u64 0)))⟩,
   ⟨(some 68), (some (60, true)), (.pick (.t 64) (.c (.bool true)) (.t 67))⟩,
   ⟨(some 69), none, (.pick (.t 60) (.t 68) (.c (.bool false)))⟩,
   ⟨(some 70), none, (.mv (.t 69))⟩,
   ⟨(some 71), (some (70, true)), (.mv (.t 4))⟩,
   ⟨(some 72), (some (70, true)), (.mv (.t 71))⟩,
   ⟨(some 73), (some (72, false)), (.fieldAddr 7 1 (.t 1))⟩,
   ⟨(some 74), (some (72, false)), (.load1 (.t 73))⟩,
   ⟨(some 75), (some (72, false)), (.bin .eql .num (.t 74) (.c (.int .i64 0)))⟩,
   ⟨(some 76), (some (72, false)), (.mv (.t 75))⟩,
   ⟨(some 77), (some (76, true)), (.fieldAddr 8 1 (.t 1))⟩,
   ⟨(some 78), (some (76, true)), (.load1 (.t 77))⟩,
   ⟨(some 79), (some (76, true)), (.bin .eql .num (.t 78) (.c (.int .i64 0)))⟩,
   ⟨(some 80), (some (72, false)), (.pick (.t 76) (.t 79) (.c (.bool false)))⟩,
   ⟨(some 81), (some (72, false)), (.mv (.t 80))⟩,
   ⟨(some 82), (some (81, true)), (.fieldAddr 9 1 (.t 1))⟩,
   ⟨(some 83), (some (81, true)), (.load1 (.t 82))⟩,
   ⟨(some 84), (some (81, true)), (.len (.t 83))⟩,
   ⟨(some 85), (some (81, true)), (.bin .eql .num (.t 84) (.c (.int .i64 0)))⟩,
   ⟨(some 86), (some (72, false)), (.pick (.t 81) (.t 85) (.c (.bool false)))⟩,
   ⟨(some 87), (some (70, true)), (.pick (.t 72) (.c (.bool true)) (.t 86))⟩,
   ⟨(some 88), none, (.pick (.t 70) (.t 87) (.c (.bool false)))⟩,
   ⟨(some 89), none, (.mv (.t 88))⟩,
   ⟨(some 90), (some (89, true)), (.mv (.t 4))⟩,
   ⟨(some 91), (some (89, true)), (.un .not (.t 90))⟩,
   ⟨(some 92), (some (89, true)), (.mv (.t 91))⟩,
   ⟨(some 93), (some (92, false)), (.fieldAddr 1 1 (.t 1))⟩,
   ⟨(some 94), (some (92, false)), (.load1 (.t 93))⟩,
   ⟨(some 95), (some (92, false)), (.bin .eql .num (.t 94) (.c (.int .u32 0)))⟩,
   ⟨(some 96), (some (89, true)), (.pick (.t 92) (.c (.bool true)) (.t 95))⟩,
   ⟨(some 97), none, (.pick (.t 89) (.t 96) (.c (.bool false)))⟩,
   ⟨(some 2), none, (.mv (.t 97))⟩]) .ret))))⟩
theorem caf114 : cFunc Tryz.prog Tryz.f114 = some af114 := by kernel_rfl
/-- limelight/rtcp.packed -/
def af115 : AFunc := ⟨30, [(.tmp 8)],
 (.seq
 (.reg [⟨(some 8), none, (.mv (.c (.int .u64 0)))⟩])
 (.seq
 (.reg [⟨(some 12), none, (.mv (.t 0))⟩,
   ⟨(some 13), none, (.mv (.t 1))⟩,
   ⟨(some 14), none, (.call 19 [(.t 12), (.t 13)])⟩,
   ⟨(some 11), none, (.mv (.t 14))⟩,
   ⟨(some 15), none, (.extract 0 (.t 11))⟩,
   ⟨(some 16), none, (.extract 1 (.t 11))⟩,
   ⟨(some 9), none, (.mv (.t 15))⟩,
   ⟨(some 10), none, (.mv (.t 16))⟩])
 (.seq
 (.dreg [⟨(some 17), none, (.mv (.t 9))⟩,
   ⟨(some 18), none, (.conv (.int .u64) (.t 17))⟩,
   ⟨(some 19), none, (.mv (.t 1))⟩,
   ⟨(some 20), none, (.mv (.t 2))⟩,
   ⟨(some 21), none, (.bin .add .num (.t 19) (.t 20))⟩,
   ⟨(some 22), none, (.bin .shl .num (.t 18) (.t 21))⟩,
   ⟨(some 23), none, (.mv (.t 10))⟩,
   ⟨(some 24), none, (.conv (.int .u64) (.t 23))⟩,
   ⟨(some 25), none, (.mv (.t 2))⟩,
   ⟨(some 26), none, (.bin .shl .num (.t 24) (.t 25))⟩,
   ⟨(some 27), none, (.bin .or .num (.t 22) (.t 26))⟩,
   ⟨(some 28), none, (.mv (.t 3))⟩,
   ⟨(some 29), none, (.bin .or .num (.t 27) (.t 28))⟩,
   ⟨(some 8), none, (.mv (.t 29))⟩] []) .ret)))⟩
theorem caf115 : cFunc Tryz.prog Tryz.f115 = some af115 := by kernel_rfl
/-- slices.Clone[[]byte,byte] -/
def af116 : AFunc := ⟨8, [(.tmp 2)],
 (.seq
 (.reg [⟨(some 2), none, (.mv (.c (.slice none 0 0 none)))⟩])
 (.seq
 (.seq
 (.reg [⟨(some 3), none, (.mv (.t 0))⟩,
   ⟨(some 4), none, (.bin .eql .slc (.t 3) (.c (.slice none 0 0 none)))⟩])
 (.cond (.t 4)
 (.seq
 (.reg [⟨(some 2), none, (.mv (.c (.slice none 0 0 none)))⟩]) .ret) .skip))
 (.seq
 (.reg [⟨(some 5), none, (.buildSlice 1 [(.int .u8 0)] 0 [])⟩,
   ⟨(some 6), none, (.mv (.t 0))⟩,
   ⟨(some 7), none, (.append 1 1 (.t 5) (.t 6))⟩,
   ⟨(some 2), none, (.mv (.t 7))⟩]) .ret)))⟩
theorem caf116 : cFunc Tryz.prog Tryz.f116 = some af116 := by kernel_rfl
/-- limelight/octet.Cut -/
def af117 : AFunc := ⟨35, [(.tmp 6), (.tmp 7)],
 (.seq
 (.reg [⟨(some 6), none, (.mv (.c (.slice none 0 0 none)))⟩,
   ⟨(some 7), none, (.mv (.c (.bool false)))⟩])
 (.seq
 (.seq
 (.reg [⟨(some 8), none, (.mv (.t 1))⟩,
   ⟨(some 9), none, (.bin .lss .num (.t 8) (.c (.int .i64 0)))⟩,
   ⟨(some 10), none, (.mv (.t 9))⟩,
   ⟨(some 11), (some (10, false)), (.mv (.t 2))⟩,
   ⟨(some 12), (some (10, false)), (.bin .lss .num (.t 11) (.c (.int .i64 0)))⟩,
   ⟨(some 13), none, (.pick (.t 10) (.c (.bool true)) (.t 12))⟩,
   ⟨(some 14), none, (.mv (.t 13))⟩,
   ⟨(some 15), (some (14, false)), (.mv (.t 1))⟩,
   ⟨(some 16), (some (14, false)), (.mv (.t 0))⟩,
   ⟨(some 17), (some (14, false)), (.len (.t 16))⟩,
   ⟨(some 18), (some (14, false)), (.bin .gtr .num (.t 15) (.t 17))⟩,
   ⟨(some 19), none, (.pick (.t 14) (.c (.bool true)) (.t 18))⟩,
   ⟨(some 20), none, (.mv (.t 19))⟩,
   ⟨(some 21), (some (20, false)), (.mv (.t 2))⟩,
   ⟨(some 22), (some (20, false)), (.mv (.t 0))⟩,
   ⟨(some 23), (some (20, false)), (.len (.t 22))⟩,
   ⟨(some 24), (some (20, false)), (.mv (.t 1))⟩,
   ⟨(some 25), (some (20, false)), (.bin .sub .num (.t 23) (.t 24))⟩,
   ⟨(some 26), (some (20, false)), (.bin .gtr .num (.t 21) (.t 25))⟩,
   ⟨(some 27), none, (.pick (.t 20) (.c (.bool true)) (.t 26))⟩])
 (.cond (.t 27)
 (.seq
 (.reg [⟨(some 6), none, (.mv (.c (.slice none 0 0 none)))⟩,
   ⟨(some 7), none, (.mv (.c (.bool false)))⟩]) .ret) .skip))
 (.seq
 (.reg [⟨(some 28), none, (.mv (.t 0))⟩,
   ⟨(some 29), none, (.mv (.t 1))⟩,
   ⟨(some 30), none, (.mv (.t 1))⟩,
   ⟨(some 31), none, (.mv (.t 2))⟩,
   ⟨(some 32), none, (.bin .add .num (.t 30) (.t 31))⟩,
   ⟨(some 33), none, (.cut 1 (.t 28) (some (.t 29)) (some (.t 32)) none)⟩,
   ⟨(some 34), none, (.call 116 [(.t 33)])⟩,
   ⟨(some 6), none, (.mv (.t 34))⟩,
   ⟨(some 7), none, (.mv (.c (.bool true)))⟩]) .ret)))⟩
theorem caf117 : cFunc Tryz.prog Tryz.f117 = some af117 := by kernel_rfl
/-- limelight/rtcp.kind -/
def af118 : AFunc := ⟨40, [(.tmp 4)],
 (.seq
 (.reg [⟨(some 4), none, (.mv (.c (.int .i64 0)))⟩])
 (.seq
 (.block 0
 (.seq
 (.reg [⟨(some 6), none, (.mv (.t 0))⟩,
   ⟨(some 7), none, (.bin .eql .num (.t 6) (.c (.int .i64 205)))⟩,
   ⟨(some 8), none, (.mv (.t 7))⟩,
   ⟨(some 9), (some (8, true)), (.mv (.t 1))⟩,
   ⟨(some 10), (some (8, true)), (.bin .eql .num (.t 9) (.c (.int .i64 3)))⟩,
   ⟨(some 11), none, (.pick (.t 8) (.t 10) (.c (.bool false)))⟩,
   ⟨(some 5), none, (.mv (.t 11))⟩])
 (.cond (.t 5)
 (.seq
 (.reg [⟨(some 4), none, (.mv (.c (.int .i64 1)))⟩]) .ret)
 (.seq
 (.reg [⟨(some 13), none, (.mv (.t 0))⟩,
   ⟨(some 14), none, (.bin .eql .num (.t 13) (.c (.int .i64 205)))⟩,
   ⟨(some 15), none, (.mv (.t 14))⟩,
   ⟨(some 16), (some (15, true)), (.mv (.t 1))⟩,
   ⟨(some 17), (some (15, true)), (.bin .eql .num (.t 16) (.c (.int .i64 4)))⟩,
   ⟨(some 18), none, (.pick (.t 15) (.t 17) (.c (.bool false)))⟩,
   ⟨(some 12), none, (.mv (.t 18))⟩])
 (.cond (.t 12)
 (.seq
 (.reg [⟨(some 4), none, (.mv (.c (.int .i64 2)))⟩]) .ret)
 (.seq
 (.reg [⟨(some 20), none, (.mv (.t 0))⟩,
   ⟨(some 21), none, (.bin .eql .num (.t 20) (.c (.int .i64 206)))⟩,
   ⟨(some 22), none, (.mv (.t 21))⟩,
   ⟨(some 23), (some (22, true)), (.mv (.t 1))⟩,
   ⟨(some 24), (some (22, true)), (.bin .eql .num (.t 23) (.c (.int .i64 1)))⟩,
   ⟨(some 25), none, (.pick (.t 22) (.t 24) (.c (.bool false)))⟩,
   ⟨(some 19), none, (.mv (.t 25))⟩])
 (.cond (.t 19)
 (.seq
 (.reg [⟨(some 4), none, (.mv (.c (.int .i64 3)))⟩]) .ret)
 (.seq
 (.reg [⟨(some 27), none, (.mv (.t 0))⟩,
   ⟨(some 28), none, (.bin .eql .num (.t 27) (.c (.int .i64 206)))⟩,
   ⟨(some 29), none, (.mv (.t 28))⟩,
   ⟨(some 30), (some (29, true)), (.mv (.t 1))⟩,
   ⟨(some 31), (some (29, true)), (.bin .eql .num (.t 30) (.c (.int .i64 4)))⟩,
   ⟨(some 32), none, (.pick (.t 29) (.t 31) (.c (.bool false)))⟩,
   ⟨(some 26), none, (.mv (.t 32))⟩])
 (.cond (.t 26)
 (.seq
 (.reg [⟨(some 4), none, (.mv (.c (.int .i64 4)))⟩]) .ret)
 (.seq
 (.reg [⟨(some 34), none, (.mv (.t 0))⟩,
   ⟨(some 35), none, (.bin .eql .num (.t 34) (.c (.int .i64 206)))⟩,
   ⟨(some 36), none, (.mv (.t 35))⟩,
   ⟨(some 37), (some (36, true)), (.mv (.t 1))⟩,
   ⟨(some 38), (some (36, true)), (.bin .eql .num (.t 37) (.c (.int .i64 15)))⟩,
   ⟨(some 39), none, (.pick (.t 36) (.t 38) (.c (.bool false)))⟩,
   ⟨(some 33), none, (.mv (.t 39))⟩])
 (.cond (.t 33)
 (.seq
 (.reg [⟨(some 4), none, (.mv (.c (.int .i64 5)))⟩]) .ret) .skip)))))))))))
 (.seq
 (.reg [⟨(some 4), none, (.mv (.c (.int .i64 6)))⟩]) .ret)))⟩
theorem caf118 : cFunc Tryz.prog Tryz.f118 = some af118 := by kernel_rfl
/-- (*limelight/rtcp.reader).num -/
def af119 : AFunc := ⟨40, [(.tmp 4)],
 (.seq
 (.reg [⟨(some 4), none, (.mv (.c (.int .u64 0)))⟩])
 (.seq
 (.dreg [⟨(some 8), none, (.mv (.t 0))⟩,
   ⟨(some 9), none, (.nilCheck (.t 8))⟩,
   ⟨(some 10), none, (.fieldAddr 0 1 (.t 9))⟩,
   ⟨(some 11), none, (.load1 (.t 10))⟩,
   ⟨(some 12), none, (.mv (.t 0))⟩,
   ⟨(some 13), none, (.nilCheck (.t 12))⟩,
   ⟨(some 14), none, (.fieldAddr 1 1 (.t 13))⟩,
   ⟨(some 15), none, (.load1 (.t 14))⟩,
   ⟨(some 16), none, (.mv (.t 1))⟩,
   ⟨(some 17), none, (.call 56 [(.t 11), (.t 15), (.t 16)])⟩,
   ⟨(some 7), none, (.mv (.t 17))⟩,
   ⟨(some 18), none, (.extract 0 (.t 7))⟩,
   ⟨(some 19), none, (.extract 1 (.t 7))⟩,
   ⟨(some 5), none, (.mv (.t 18))⟩,
   ⟨(some 6), none, (.mv (.t 19))⟩] [])
 (.seq
 (.reg [⟨(some 20), none, (.mv (.t 0))⟩,
   ⟨(some 21), none, (.mv (.t 0))⟩,
   ⟨(some 22), none, (.nilCheck (.t 21))⟩,
   ⟨(some 23), none, (.fieldAddr 2 1 (.t 22))⟩,
   ⟨(some 24), none, (.load1 (.t 23))⟩,
   ⟨(some 25), none, (.mv (.t 24))⟩,
   ⟨(some 26), (some (25, false)), (.mv (.t 6))⟩,
   ⟨(some 27), (some (25, false)), (.un .not (.t 26))⟩,
   ⟨(some 28), none, (.pick (.t 25) (.c (.bool true)) (.t 27))⟩,
   ⟨(some 29), none, (.nilCheck (.t 20))⟩,
   ⟨(some 30), none, (.fieldAddr 2 1 (.t 29))⟩,
   ⟨none, none, (.store 1 (.t 30) (.t 28))⟩])
 (.seq
 (.reg [⟨(some 31), none, (.mv (.t 0))⟩,
   ⟨(some 32), none, (.nilCheck (.t 31))⟩,
   ⟨(some 33), none, (.fieldAddr 1 1 (.t 32))⟩,
   ⟨(some 34), none, (.load1 (.t 33))⟩,
   ⟨(some 35), none, (.mv (.t 1))⟩,
   ⟨(some 36), none, (.bin .add .num (.t 34) (.t 35))⟩,
   ⟨(some 37), none, (.nilCheck (.t 31))⟩,
   ⟨(some 38), none, (.fieldAddr 1 1 (.t 37))⟩,
   ⟨none, none, (.store 1 (.t 38) (.t 36))⟩])
 (.seq
 (.reg [⟨(some 39), none, (.mv (.t 5))⟩,
   ⟨(some 4), none, (.mv (.t 39))⟩]) .ret)))))⟩
theorem caf119 : cFunc Tryz.prog Tryz.f119 = some af119 := by kernel_rfl
/-- (*limelight/rtcp.reader).nought -/
def af120 : AFunc := ⟨17, [],
 (.reg [⟨(some 4), none, (.mv (.t 0))⟩,
   ⟨(some 5), none, (.mv (.t 0))⟩,
   ⟨(some 6), none, (.mv (.t 1))⟩,
   ⟨(some 7), none, (.call 119 [(.t 5), (.t 6)])⟩,
   ⟨(some 8), none, (.bin .neq .num (.t 7) (.c (.int .u64 0)))⟩,
   ⟨(some 9), none, (.mv (.t 8))⟩,
   ⟨(some 10), (some (9, false)), (.mv (.t 0))⟩,
   ⟨(some 11), (some (9, false)), (.nilCheck (.t 10))⟩,
   ⟨(some 12), (some (9, false)), (.fieldAddr 2 1 (.t 11))⟩,
   ⟨(some 13), (some (9, false)), (.load1 (.t 12))⟩,
   ⟨(some 14), none, (.pick (.t 9) (.c (.bool true)) (.t 13))⟩,
   ⟨(some 15), none, (.nilCheck (.t 4))⟩,
   ⟨(some 16), none, (.fieldAddr 2 1 (.t 15))⟩,
   ⟨none, none, (.store 1 (.t 16) (.t 14))⟩])⟩
theorem caf120 : cFunc Tryz.prog Tryz.f120 = some af120 := by kernel_rfl
/-- (*limelight/rtcp.reader).left -/
def af121 : AFunc := ⟨20, [(.tmp 2)],
 (.seq
 (.reg [⟨(some 2), none, (.mv (.c (.bool false)))⟩])
 (.seq
 (.dreg [⟨(some 3), none, (.mv (.t 0))⟩,
   ⟨(some 4), none, (.nilCheck (.t 3))⟩,
   ⟨(some 5), none, (.fieldAddr 2 1 (.t 4))⟩,
   ⟨(some 6), none, (.load1 (.t 5))⟩,
   ⟨(some 7), none, (.un .not (.t 6))⟩,
   ⟨(some 8), none, (.mv (.t 7))⟩,
   ⟨(some 9), (some (8, true)), (.mv (.t 0))⟩,
   ⟨(some 10), (some (8, true)), (.nilCheck (.t 9))⟩,
   ⟨(some 11), (some (8, true)), (.fieldAddr 1 1 (.t 10))⟩,
   ⟨(some 12), (some (8, true)), (.load1 (.t 11))⟩,
   ⟨(some 13), (some (8, true)), (.mv (.t 0))⟩,
   ⟨(some 14), (some (8, true)), (.nilCheck (.t 13))⟩,
   ⟨(some 15), (some (8, true)), (.fieldAddr 0 1 (.t 14))⟩,
   ⟨(some 16), (some (8, true)), (.load1 (.t 15))⟩,
   ⟨(some 17), (some (8, true)), (.len (.t 16))⟩,
   ⟨(some 18), (some (8, true)), (.bin .lss .num (.t 12) (.t 17))⟩,
   ⟨(some 19), none, (.pick (.t 8) (.t 18) (.c (.bool false)))⟩,
   ⟨(some 2), none, (.mv (.t 19))⟩] []) .ret))⟩
theorem caf121 : cFunc Tryz.prog Tryz.f121 = some af121 := by kernel_rfl
/-- (*limelight/rtcp.reader).tuple -/
def af122 : AFunc := ⟨21, [(.cellN 2 3)],
 (.seq
 (.reg [⟨(some 2), none, (.alloc [(.int .u32 0), (.int .u64 0), (.int .i64 0)])⟩])
 (.seq
 (.reg [⟨(some 5), none, (.mv (.t 0))⟩,
   ⟨(some 6), none, (.call 119 [(.t 5), (.c (.int .i64 4))])⟩,
   ⟨(some 7), none, (.conv (.int .u32) (.t 6))⟩,
   ⟨(some 8), none, (.build [(.int .u32 0), (.int .u64 0), (.int .i64 0)] [(0, (1, (.t 7)))])⟩,
   ⟨(some 3), none, (.alloc [(.int .u32 0), (.int .u64 0), (.int .i64 0)])⟩,
   ⟨none, none, (.store 3 (.t 3) (.t 8))⟩])
 (.seq
 (.reg [⟨(some 9), none, (.mv (.t 0))⟩,
   ⟨(some 10), none, (.call 119 [(.t 9), (.c (.int .i64 4))])⟩,
   ⟨(some 4), none, (.mv (.t 10))⟩])
 (.seq
 (.reg [⟨(some 11), none, (.mv (.t 4))⟩,
   ⟨(some 12), none, (.bin .and .num (.t 11) (.c (.int .u64 511)))⟩,
   ⟨(some 13), none, (.conv (.int .i64) (.t 12))⟩,
   ⟨(some 14), none, (.fieldAddr 2 1 (.t 3))⟩,
   ⟨none, none, (.store 1 (.t 14) (.t 13))⟩])
 (.seq
 (.reg [⟨(some 15), none, (.mv (.t 0))⟩,
   ⟨(some 16), none, (.mv (.t 4))⟩,
   ⟨(some 17), none, (.bin .shr .num (.t 16) (.c (.int .u64 9)))⟩,
   ⟨(some 18), none, (.call 182 [(.t 15), (.t 17), (.c (.int .i64 17))])⟩,
   ⟨(some 19), none, (.fieldAddr 1 1 (.t 3))⟩,
   ⟨none, none, (.store 1 (.t 19) (.t 18))⟩])
 (.seq
 (.reg [⟨(some 20), none, (.loadN 3 (.t 3))⟩,
   ⟨none, none, (.store 3 (.t 2) (.t 20))⟩]) .ret))))))⟩
theorem caf122 : cFunc Tryz.prog Tryz.f122 = some af122 := by kernel_rfl
/-- limelight/clock.Add -/
def af124 : AFunc := ⟨12, [(.tmp 4)],
 (.seq
 (.reg [⟨(some 4), none, (.mv (.c (.int .i64 0)))⟩])
 (.seq
 (.reg [⟨(some 5), none, (.mv (.t 0))⟩,
   ⟨(some 6), none, (.call 183 [(.t 5)])⟩,
   ⟨(some 7), none, (.mv (.t 1))⟩,
   ⟨(some 8), none, (.call 183 [(.t 7)])⟩,
   ⟨(some 9), none, (.bin .add .num (.t 6) (.t 8))⟩,
   ⟨(some 10), none, (.mn [(.t 9), (.c (.int .u64 9223372036854775807))])⟩,
   ⟨(some 11), none, (.conv (.int .i64) (.t 10))⟩,
   ⟨(some 4), none, (.mv (.t 11))⟩]) .ret))⟩
theorem caf124 : cFunc Tryz.prog Tryz.f124 = some af124 := by kernel_rfl
/-- limelight/clock.Mul -/
def af125 : AFunc := ⟨20, [(.tmp 4)],
 (.seq
 (.reg [⟨(some 4), none, (.mv (.c (.int .i64 0)))⟩])
 (.seq
 (.reg [⟨(some 8), none, (.mv (.t 0))⟩,
   ⟨(some 9), none, (.call 183 [(.t 8)])⟩,
   ⟨(some 10), none, (.mv (.t 1))⟩,
   ⟨(some 11), none, (.call 183 [(.t 10)])⟩,
   ⟨(some 12), none, (.call 184 [(.t 9), (.t 11)])⟩,
   ⟨(some 7), none, (.mv (.t 12))⟩,
   ⟨(some 13), none, (.extract 0 (.t 7))⟩,
   ⟨(some 14), none, (.extract 1 (.t 7))⟩,
   ⟨(some 5), none, (.mv (.t 13))⟩,
   ⟨(some 6), none, (.mv (.t 14))⟩])
 (.seq
 (.seq
 (.reg [⟨(some 15), none, (.mv (.t 5))⟩,
   ⟨(some 16), none, (.bin .gtr .num (.t 15) (.c (.int .u64 0)))⟩])
 (.cond (.t 16)
 (.seq
 (.reg [⟨(some 4), none, (.mv (.c (.int .i64 9223372036854775807)))⟩]) .ret) .skip))
 (.seq
 (.reg [⟨(some 17), none, (.mv (.t 6))⟩,
   ⟨(some 18), none, (.mn [(.t 17), (.c (.int .u64 9223372036854775807))])⟩,
   ⟨(some 19), none, (.conv (.int .i64) (.t 18))⟩,
   ⟨(some 4), none, (.mv (.t 19))⟩]) .ret))))⟩
theorem caf125 : cFunc Tryz.prog Tryz.f125 = some af125 := by kernel_rfl
/-- limelight/room.is -/
def af126 : AFunc := ⟨9, [(.tmp 2)],
 (.seq
 (.reg [⟨(some 2), none, (.mv (.c (.bool false)))⟩])
 (.seq
 (.reg [⟨(some 3), none, (.mv (.t 0))⟩,
   ⟨(some 4), none, (.bin .geq .num (.t 3) (.c (.int .i64 0)))⟩,
   ⟨(some 5), none, (.mv (.t 4))⟩,
   ⟨(some 6), (some (5, true)), (.mv (.t 0))⟩,
   ⟨(some 7), (some (5, true)), (.bin .lss .num (.t 6) (.c (.int .i64 6)))⟩,
   ⟨(some 8), none, (.pick (.t 5) (.t 7) (.c (.bool false)))⟩,
   ⟨(some 2), none, (.mv (.t 8))⟩]) .ret))⟩
theorem caf126 : cFunc Tryz.prog Tryz.f126 = some af126 := by kernel_rfl
/-- slices.Clip[[]limelight/api.Layer,limelight/api.Layer] -/
def af127 : AFunc := ⟨9, [(.tmp 2)],
 (.seq
 (.reg [⟨(some 2), none, (.mv (.c (.slice none 0 0 none)))⟩])
 (.seq
 (.reg [⟨(some 3), none, (.mv (.t 0))⟩,
   ⟨(some 4), none, (.mv (.t 0))⟩,
   ⟨(some 5), none, (.len (.t 4))⟩,
   ⟨(some 6), none, (.mv (.t 0))⟩,
   ⟨(some 7), none, (.len (.t 6))⟩,
   ⟨(some 8), none, (.cut 3 (.t 3) none (some (.t 5)) (some (.t 7)))⟩,
   ⟨(some 2), none, (.mv (.t 8))⟩]) .ret))⟩
theorem caf127 : cFunc Tryz.prog Tryz.f127 = some af127 := by kernel_rfl
/-- slices.Clone[[]limelight/api.Layer,limelight/api.Layer] -/
def af128 : AFunc := ⟨8, [(.tmp 2)],
 (.seq
 (.reg [⟨(some 2), none, (.mv (.c (.slice none 0 0 none)))⟩])
 (.seq
 (.seq
 (.reg [⟨(some 3), none, (.mv (.t 0))⟩,
   ⟨(some 4), none, (.bin .eql .slc (.t 3) (.c (.slice none 0 0 none)))⟩])
 (.cond (.t 4)
 (.seq
 (.reg [⟨(some 2), none, (.mv (.c (.slice none 0 0 none)))⟩]) .ret) .skip))
 (.seq
 (.reg [⟨(some 5), none, (.buildSlice 3 [(.str []), (.int .u32 0), (.int .i64 0)] 0 [])⟩,
   ⟨(some 6), none, (.mv (.t 0))⟩,
   ⟨(some 7), none, (.append 3 32 (.t 5) (.t 6))⟩,
   ⟨(some 2), none, (.mv (.t 7))⟩]) .ret)))⟩
theorem caf128 : cFunc Tryz.prog Tryz.f128 = some af128 := by kernel_rfl
def af129_l0 : AC :=
 (.seq
 (.reg [⟨(some 9), none, (.bin .lss .num (.t 8) (.t 7))⟩])
 (.seq
 (.cond (.t 9) .skip (.exit 0))
 (.seq
 (.block 1
 (.seq
 (.reg [⟨(some 10), none, (.mv (.t 8))⟩,
   ⟨(some 5), none, (.mv (.t 10))⟩])
 (.seq
 (.reg [⟨(some 11), none, (.mv (.t 1))⟩,
   ⟨(some 12), none, (.mv (.t 0))⟩,
   ⟨(some 13), none, (.mv (.t 5))⟩,
   ⟨(some 14), none, (.ixSlice 1 (.t 12) (.t 13))⟩,
   ⟨(some 15), none, (.load1 (.t 14))⟩,
   ⟨(some 16), none, (.bin .eql .num (.t 11) (.t 15))⟩])
 (.cond (.t 16)
 (.seq
 (.reg [⟨(some 17), none, (.mv (.t 5))⟩,
   ⟨(some 4), none, (.mv (.t 17))⟩]) .ret) .skip))))
 (.reg [⟨(some 18), none, (.bin .add .num (.t 8) (.c (.int .i64 1)))⟩,
   ⟨(some 8), none, (.mv (.t 18))⟩]))))
/-- slices.Index[[]int,int] -/
def af129 : AFunc := ⟨19, [(.tmp 4)],
 (.seq
 (.reg [⟨(some 4), none, (.mv (.c (.int .i64 0)))⟩])
 (.seq
 (.seq
 (.reg [⟨(some 6), none, (.mv (.t 0))⟩,
   ⟨(some 7), none, (.len (.t 6))⟩,
   ⟨(some 8), none, (.mv (.c (.int .i64 0)))⟩])
 (.block 0
 (.loop af129_l0)))
 (.seq
 (.reg [⟨(some 4), none, (.mv (.c (.int .i64 (-1))))⟩]) .ret)))⟩
theorem caf129 : cFunc Tryz.prog Tryz.f129 = some af129 := by kernel_rfl
def af130_l0 : AC :=
 (.seq
 (.reg [⟨(some 23), none, (.bin .lss .num (.t 22) (.t 21))⟩])
 (.seq
 (.cond (.t 23) .skip (.exit 1))
 (.seq
 (.block 2
 (.seq
 (.reg [⟨(some 24), none, (.ixSlice 2 (.t 20) (.t 22))⟩,
   ⟨(some 25), none, (.loadN 2 (.t 24))⟩,
   ⟨(some 8), none, (.alloc [(.int .i64 0), (.slice none 0 0 none)])⟩,
   ⟨none, none, (.store 2 (.t 8) (.t 25))⟩])
 (.seq
 (.seq
 (.reg [⟨(some 26), none, (.mv (.t 0))⟩,
   ⟨(some 27), none, (.loadN 2 (.t 8))⟩,
   ⟨(some 28), none, (.call 185 [(.t 26), (.t 27)])⟩,
   ⟨(some 29), none, (.un .not (.t 28))⟩])
 (.cond (.t 29)
 (.seq
 (.reg [⟨(some 4), none, (.mv (.c (.slice none 0 0 none)))⟩,
   ⟨(some 5), none, (.mv (.c (.int .i64 1)))⟩]) .ret) .skip))
 (.seq
 (.seq
 (.reg [⟨(some 30), none, (.mv (.t 0))⟩,
   ⟨(some 31), none, (.bin .eql .num (.t 30) (.c (.int .u16 48862)))⟩])
 (.cond (.t 31)
 (.reg [⟨(some 32), none, (.mv (.t 6))⟩,
   ⟨(some 33), none, (.fieldAddr 0 1 (.t 8))⟩,
   ⟨(some 34), none, (.load1 (.t 33))⟩,
   ⟨(some 35), none, (.bin .shl .num (.t 34) (.c (.int .u64 4)))⟩,
   ⟨(some 36), none, (.fieldAddr 1 1 (.t 8))⟩,
   ⟨(some 37), none, (.load1 (.t 36))⟩,
   ⟨(some 38), none, (.len (.t 37))⟩,
   ⟨(some 39), none, (.bin .sub .num (.t 38) (.c (.int .i64 1)))⟩,
   ⟨(some 40), none, (.bin .or .num (.t 35) (.t 39))⟩,
   ⟨(some 41), none, (.conv (.int .u8) (.t 40))⟩,
   ⟨(some 42), none, (.buildSlice 1 [(.int .u8 0)] 1 [(0, (1, (.t 41)))])⟩,
   ⟨(some 43), none, (.append 1 1 (.t 32) (.t 42))⟩,
   ⟨(some 6), none, (.mv (.t 43))⟩])
 (.reg [⟨(some 44), none, (.mv (.t 6))⟩,
   ⟨(some 45), none, (.fieldAddr 0 1 (.t 8))⟩,
   ⟨(some 46), none, (.load1 (.t 45))⟩,
   ⟨(some 47), none, (.conv (.int .u8) (.t 46))⟩,
   ⟨(some 48), none, (.fieldAddr 1 1 (.t 8))⟩,
   ⟨(some 49), none, (.load1 (.t 48))⟩,
   ⟨(some 50), none, (.len (.t 49))⟩,
   ⟨(some 51), none, (.conv (.int .u8) (.t 50))⟩,
   ⟨(some 52), none, (.buildSlice 1 [(.int .u8 0)] 2 [(0, (1, (.t 47))), (1, (1, (.t 51)))])⟩,
   ⟨(some 53), none, (.append 1 1 (.t 44) (.t 52))⟩,
   ⟨(some 6), none, (.mv (.t 53))⟩])))
 (.reg [⟨(some 54), none, (.mv (.t 6))⟩,
   ⟨(some 55), none, (.fieldAddr 1 1 (.t 8))⟩,
   ⟨(some 56), none, (.load1 (.t 55))⟩,
   ⟨(some 57), none, (.append 1 1 (.t 54) (.t 56))⟩,
   ⟨(some 6), none, (.mv (.t 57))⟩])))))
 (.reg [⟨(some 58), none, (.bin .add .num (.t 22) (.c (.int .i64 1)))⟩,
   ⟨(some 22), none, (.mv (.t 58))⟩]))))
/-- limelight/ext.Bytes -/
def af130 : AFunc := ⟨61, [(.tmp 4), (.tmp 5)],
 (.seq
 (.reg [⟨(some 4), none, (.mv (.c (.slice none 0 0 none)))⟩,
   ⟨(some 5), none, (.mv (.c (.int .i64 0)))⟩])
 (.seq
 (.block 0
 (.seq
 (.reg [⟨(some 10), none, (.mv (.t 0))⟩,
   ⟨(some 11), none, (.bin .neq .num (.t 10) (.c (.int .u16 48862)))⟩,
   ⟨(some 12), none, (.mv (.t 11))⟩,
   ⟨(some 13), (some (12, true)), (.mv (.t 0))⟩,
   ⟨(some 14), (some (12, true)), (.bin .neq .num (.t 13) (.c (.int .u16 4096)))⟩,
   ⟨(some 15), none, (.pick (.t 12) (.t 14) (.c (.bool false)))⟩,
   ⟨(some 9), none, (.mv (.t 15))⟩])
 (.cond (.t 9)
 (.seq
 (.reg [⟨(some 4), none, (.mv (.c (.slice none 0 0 none)))⟩,
   ⟨(some 5), none, (.mv (.c (.int .i64 1)))⟩]) .ret)
 (.seq
 (.reg [⟨(some 17), none, (.mv (.t 1))⟩,
   ⟨(some 18), none, (.len (.t 17))⟩,
   ⟨(some 19), none, (.bin .gtr .num (.t 18) (.c (.int .i64 8)))⟩,
   ⟨(some 16), none, (.mv (.t 19))⟩])
 (.cond (.t 16)
 (.seq
 (.reg [⟨(some 4), none, (.mv (.c (.slice none 0 0 none)))⟩,
   ⟨(some 5), none, (.mv (.c (.int .i64 3)))⟩]) .ret) .skip)))))
 (.seq
 (.reg [⟨(some 6), none, (.mv (.c (.slice none 0 0 none)))⟩])
 (.seq
 (.seq
 (.reg [⟨(some 20), none, (.mv (.t 1))⟩,
   ⟨(some 21), none, (.len (.t 20))⟩,
   ⟨(some 22), none, (.mv (.c (.int .i64 0)))⟩])
 (.block 1
 (.loop af130_l0)))
 (.seq
 (.reg [⟨(some 59), none, (.mv (.t 6))⟩,
   ⟨(some 60), none, (.call 186 [(.t 59), (.c (.int .i64 4))])⟩,
   ⟨(some 4), none, (.mv (.t 60))⟩,
   ⟨(some 5), none, (.mv (.c (.int .i64 0)))⟩]) .ret)))))⟩
theorem caf130 : cFunc Tryz.prog Tryz.f130 = some af130 := by kernel_rfl
/-- limelight/ctl.Right -/
def af131 : AFunc := ⟨28, [(.tmp 2)],
 (.seq
 (.reg [⟨(some 1), none, (.box (.t 0))⟩,
   ⟨(some 2), none, (.mv (.c (.int .i64 0)))⟩])
 (.seq
 (.block 0
 (.seq
 (.reg [⟨(some 4), none, (.fieldAddr 0 1 (.t 1))⟩,
   ⟨(some 5), none, (.load1 (.t 4))⟩,
   ⟨(some 6), none, (.bin .lss .num (.t 5) (.c (.int .i64 1)))⟩,
   ⟨(some 7), none, (.mv (.t 6))⟩,
   ⟨(some 8), (some (7, false)), (.fieldAddr 0 1 (.t 1))⟩,
   ⟨(some 9), (some (7, false)), (.load1 (.t 8))⟩,
   ⟨(some 10), (some (7, false)), (.bin .gtr .num (.t 9) (.c (.int .i64 10)))⟩,
   ⟨(some 11), none, (.pick (.t 7) (.c (.bool true)) (.t 10))⟩,
   ⟨(some 12), none, (.mv (.t 11))⟩,
   ⟨(some 13), (some (12, false)), (.loadN 8 (.t 1))⟩,
   ⟨(some 14), (some (12, false)), (.call 187 [(.t 13)])⟩,
   ⟨(some 15), (some (12, false)), (.un .not (.t 14))⟩,
   ⟨(some 16), none, (.pick (.t 12) (.c (.bool true)) (.t 15))⟩,
   ⟨(some 3), none, (.mv (.t 16))⟩])
 (.cond (.t 3)
 (.seq
 (.reg [⟨(some 2), none, (.mv (.c (.int .i64 12)))⟩]) .ret)
 (.seq
 (.reg [⟨(some 18), none, (.loadN 8 (.t 1))⟩,
   ⟨(some 19), none, (.call 188 [(.t 18)])⟩,
   ⟨(some 20), none, (.un .not (.t 19))⟩,
   ⟨(some 17), none, (.mv (.t 20))⟩])
 (.cond (.t 17)
 (.seq
 (.reg [⟨(some 2), none, (.mv (.c (.int .i64 1)))⟩]) .ret)
 (.seq
 (.reg [⟨(some 22), none, (.fieldAddr 0 1 (.t 1))⟩,
   ⟨(some 23), none, (.load1 (.t 22))⟩,
   ⟨(some 24), none, (.bin .eql .num (.t 23) (.c (.int .i64 3)))⟩,
   ⟨(some 21), none, (.mv (.t 24))⟩])
 (.cond (.t 21)
 (.seq
 (.reg [⟨(some 25), none, (.fieldAddr 2 1 (.t 1))⟩,
   ⟨(some 26), none, (.load1 (.t 25))⟩,
   ⟨(some 27), none, (.call 189 [(.t 26)])⟩,
   ⟨(some 2), none, (.mv (.t 27))⟩]) .ret) .skip)))))))
 (.seq
 (.reg [⟨(some 2), none, (.mv (.c (.int .i64 0)))⟩]) .ret)))⟩
theorem caf131 : cFunc Tryz.prog Tryz.f131 = some af131 := by kernel_rfl
/-- limelight/ctl.field -/
def af132 : AFunc := ⟨17, [(.tmp 6)],
 (.seq
 (.reg [⟨(some 6), none, (.mv (.c (.slice none 0 0 none)))⟩])
 (.seq
 (.reg [⟨(some 7), none, (.mv (.t 0))⟩,
   ⟨(some 8), none, (.mv (.t 1))⟩,
   ⟨(some 9), none, (.conv (.int .u8) (.t 8))⟩,
   ⟨(some 10), none, (.mv (.t 2))⟩,
   ⟨(some 11), none, (.len (.t 10))⟩,
   ⟨(some 12), none, (.conv (.int .u8) (.t 11))⟩,
   ⟨(some 13), none, (.buildSlice 1 [(.int .u8 0)] 2 [(0, (1, (.t 9))), (1, (1, (.t 12)))])⟩,
   ⟨(some 14), none, (.append 1 1 (.t 7) (.t 13))⟩,
   ⟨(some 15), none, (.mv (.t 2))⟩,
   ⟨(some 16), none, (.append 1 1 (.t 14) (.t 15))⟩,
   ⟨(some 6), none, (.mv (.t 16))⟩]) .ret))⟩
theorem caf132 : cFunc Tryz.prog Tryz.f132 = some af132 := by kernel_rfl
/-- limelight/ctl.has -/
def af133 : AFunc := ⟨56, [(.tmp 4)],
 (.seq
 (.reg [⟨(some 4), none, (.mv (.c (.bool false)))⟩])
 (.seq
 (.seq
 (.reg [⟨(some 5), none, (.mv (.t 1))⟩])
 (.block 0
 (.seq
 (.reg [⟨(some 7), none, (.bin .eql .num (.t 5) (.c (.int .i64 1)))⟩,
   ⟨(some 6), none, (.mv (.t 7))⟩])
 (.cond (.t 6)
 (.seq
 (.reg [⟨(some 8), none, (.mv (.t 0))⟩,
   ⟨(some 9), none, (.bin .eql .num (.t 8) (.c (.int .i64 1)))⟩,
   ⟨(some 4), none, (.mv (.t 9))⟩]) .ret)
 (.seq
 (.reg [⟨(some 11), none, (.bin .eql .num (.t 5) (.c (.int .i64 2)))⟩,
   ⟨(some 10), none, (.mv (.t 11))⟩])
 (.cond (.t 10)
 (.seq
 (.reg [⟨(some 12), none, (.mv (.t 0))⟩,
   ⟨(some 13), none, (.bin .eql .num (.t 12) (.c (.int .i64 3)))⟩,
   ⟨(some 4), none, (.mv (.t 13))⟩]) .ret)
 (.seq
 (.reg [⟨(some 15), none, (.bin .eql .num (.t 5) (.c (.int .i64 3)))⟩,
   ⟨(some 14), none, (.mv (.t 15))⟩])
 (.cond (.t 14)
 (.seq
 (.reg [⟨(some 16), none, (.mv (.t 0))⟩,
   ⟨(some 17), none, (.bin .eql .num (.t 16) (.c (.int .i64 4)))⟩,
   ⟨(some 18), none, (.mv (.t 17))⟩,
   ⟨(some 19), (some (18, false)), (.mv (.t 0))⟩,
   ⟨(some 20), (some (18, false)), (.bin .eql .num (.t 19) (.c (.int .i64 5)))⟩,
   ⟨(some 21), none, (.pick (.t 18) (.c (.bool true)) (.t 20))⟩,
   ⟨(some 22), none, (.mv (.t 21))⟩,
   ⟨(some 23), (some (22, false)), (.mv (.t 0))⟩,
   ⟨(some 24), (some (22, false)), (.bin .eql .num (.t 23) (.c (.int .i64 6)))⟩,
   ⟨(some 25), none, (.pick (.t 22) (.c (.bool true)) (.t 24))⟩,
   ⟨(some 26), none, (.mv (.t 25))⟩,
   ⟨(some 27), (some (26, false)), (.mv (.t 0))⟩,
   ⟨(some 28), (some (26, false)), (.bin .eql .num (.t 27) (.c (.int .i64 7)))⟩,
   ⟨(some 29), none, (.pick (.t 26) (.c (.bool true)) (.t 28))⟩,
   ⟨(some 4), none, (.mv (.t 29))⟩]) .ret)
 (.seq
 (.reg [⟨(some 31), none, (.bin .eql .num (.t 5) (.c (.int .i64 4)))⟩,
   ⟨(some 30), none, (.mv (.t 31))⟩])
 (.cond (.t 30)
 (.seq
 (.reg [⟨(some 32), none, (.mv (.t 0))⟩,
   ⟨(some 33), none, (.bin .eql .num (.t 32) (.c (.int .i64 4)))⟩,
   ⟨(some 34), none, (.mv (.t 33))⟩,
   ⟨(some 35), (some (34, false)), (.mv (.t 0))⟩,
   ⟨(some 36), (some (34, false)), (.bin .eql .num (.t 35) (.c (.int .i64 6)))⟩,
   ⟨(some 37), none, (.pick (.t 34) (.c (.bool true)) (.t 36))⟩,
   ⟨(some 4), none, (.mv (.t 37))⟩]) .ret)
 (.seq
 (.reg [⟨(some 39), none, (.bin .eql .num (.t 5) (.c (.int .i64 5)))⟩,
   ⟨(some 38), none, (.mv (.t 39))⟩])
 (.cond (.t 38)
 (.seq
 (.reg [⟨(some 40), none, (.mv (.t 0))⟩,
   ⟨(some 41), none, (.bin .eql .num (.t 40) (.c (.int .i64 4)))⟩,
   ⟨(some 42), none, (.mv (.t 41))⟩,
   ⟨(some 43), (some (42, false)), (.mv (.t 0))⟩,
   ⟨(some 44), (some (42, false)), (.bin .eql .num (.t 43) (.c (.int .i64 7)))⟩,
   ⟨(some 45), none, (.pick (.t 42) (.c (.bool true)) (.t 44))⟩,
   ⟨(some 4), none, (.mv (.t 45))⟩]) .ret)
 (.seq
 (.reg [⟨(some 47), none, (.bin .eql .num (.t 5) (.c (.int .i64 6)))⟩,
   ⟨(some 46), none, (.mv (.t 47))⟩])
 (.cond (.t 46)
 (.seq
 (.reg [⟨(some 48), none, (.mv (.t 0))⟩,
   ⟨(some 49), none, (.bin .eql .num (.t 48) (.c (.int .i64 8)))⟩,
   ⟨(some 50), none, (.mv (.t 49))⟩,
   ⟨(some 51), (some (50, false)), (.mv (.t 0))⟩,
   ⟨(some 52), (some (50, false)), (.bin .eql .num (.t 51) (.c (.int .i64 9)))⟩,
   ⟨(some 53), none, (.pick (.t 50) (.c (.bool true)) (.t 52))⟩,
   ⟨(some 4), none, (.mv (.t 53))⟩]) .ret) .skip))))))))))))))
 (.seq
 (.reg [⟨(some 54), none, (.mv (.t 0))⟩,
   ⟨(some 55), none, (.bin .eql .num (.t 54) (.c (.int .i64 10)))⟩,
   ⟨(some 4), none, (.mv (.t 55))⟩]) .ret)))⟩
theorem caf133 : cFunc Tryz.prog Tryz.f133 = some af133 := by kernel_rfl
def af134_l0 : AC :=
 (.seq
 (.reg [⟨(some 28), none, (.bin .lss .num (.t 27) (.t 26))⟩])
 (.seq
 (.cond (.t 28) .skip (.exit 2))
 (.seq
 (.block 3
 (.seq
 (.reg [⟨(some 29), none, (.ixSlice 1 (.t 25) (.t 27))⟩,
   ⟨(some 30), none, (.load1 (.t 29))⟩,
   ⟨(some 8), none, (.mv (.t 30))⟩])
 (.reg [⟨(some 31), none, (.mv (.t 6))⟩,
   ⟨(some 32), none, (.mv (.t 8))⟩,
   ⟨(some 33), none, (.append 1 1 (.t 31) (.t 32))⟩,
   ⟨(some 6), none, (.mv (.t 33))⟩])))
 (.reg [⟨(some 34), none, (.bin .add .num (.t 27) (.c (.int .i64 1)))⟩,
   ⟨(some 27), none, (.mv (.t 34))⟩]))))
def af134_l1 : AC :=
 (.seq
 (.reg [⟨(some 12), none, (.bin .lss .num (.t 11) (.t 10))⟩])
 (.seq
 (.cond (.t 12) .skip (.exit 0))
 (.seq
 (.block 1
 (.seq
 (.reg [⟨(some 13), none, (.ixSlice 1 (.t 9) (.t 11))⟩,
   ⟨(some 14), none, (.load1 (.t 13))⟩,
   ⟨(some 5), none, (.mv (.t 14))⟩])
 (.seq
 (.reg [⟨(some 15), none, (.mv (.t 3))⟩,
   ⟨(some 16), none, (.mv (.t 5))⟩,
   ⟨(some 17), none, (.len (.t 16))⟩,
   ⟨(some 18), none, (.bin .add .num (.t 15) (.t 17))⟩,
   ⟨(some 3), none, (.mv (.t 18))⟩])
 (.seq
 (.reg [⟨(some 19), none, (.mv (.t 3))⟩,
   ⟨(some 20), none, (.bin .lss .num (.t 19) (.c (.int .i64 0)))⟩])
 (.cond (.t 20)
 (.reg [⟨(some 21), none, (.mkIface 9 (.c (.str [108, 101, 110, 32, 111, 117, 116, 32, 111, 102, 32, 114, 97, 110, 103, 101])))⟩,
   ⟨none, none, .stop⟩]) .skip)))))
 (.reg [⟨(some 22), none, (.bin .add .num (.t 11) (.c (.int .i64 1)))⟩,
   ⟨(some 11), none, (.mv (.t 22))⟩]))))
/-- slices.Concat[[]byte,byte] -/
def af134 : AFunc := ⟨36, [(.tmp 2)],
 (.seq
 (.reg [⟨(some 2), none, (.mv (.c (.slice none 0 0 none)))⟩])
 (.seq
 (.reg [⟨(some 3), none, (.mv (.c (.int .i64 0)))⟩])
 (.seq
 (.seq
 (.reg [⟨(some 9), none, (.mv (.t 0))⟩,
   ⟨(some 10), none, (.len (.t 9))⟩,
   ⟨(some 11), none, (.mv (.c (.int .i64 0)))⟩])
 (.block 0
 (.loop af134_l1)))
 (.seq
 (.reg [⟨(some 23), none, (.mv (.t 3))⟩,
   ⟨(some 24), none, (.call 190 [(.c (.slice none 0 0 none)), (.t 23)])⟩,
   ⟨(some 6), none, (.mv (.t 24))⟩])
 (.seq
 (.seq
 (.reg [⟨(some 25), none, (.mv (.t 0))⟩,
   ⟨(some 26), none, (.len (.t 25))⟩,
   ⟨(some 27), none, (.mv (.c (.int .i64 0)))⟩])
 (.block 2
 (.loop af134_l0)))
 (.seq
 (.reg [⟨(some 35), none, (.mv (.t 6))⟩,
   ⟨(some 2), none, (.mv (.t 35))⟩]) .ret))))))⟩
theorem caf134 : cFunc Tryz.prog Tryz.f134 = some af134 := by kernel_rfl
def af135_l0 : AC :=
 (.seq
 (.reg [⟨(some 9), none, (.bin .lss .num (.t 8) (.t 7))⟩])
 (.seq
 (.cond (.t 9) .skip (.exit 0))
 (.seq
 (.block 1
 (.seq
 (.reg [⟨(some 10), none, (.mv (.t 8))⟩,
   ⟨(some 5), none, (.mv (.t 10))⟩])
 (.seq
 (.reg [⟨(some 11), none, (.mv (.t 1))⟩,
   ⟨(some 12), none, (.mv (.t 0))⟩,
   ⟨(some 13), none, (.mv (.t 5))⟩,
   ⟨(some 14), none, (.ixSlice 3 (.t 12) (.t 13))⟩,
   ⟨(some 15), none, (.loadN 3 (.t 14))⟩,
   ⟨(some 16), none, (.callV (.t 11) [(.t 15)])⟩])
 (.cond (.t 16)
 (.seq
 (.reg [⟨(some 17), none, (.mv (.t 5))⟩,
   ⟨(some 4), none, (.mv (.t 17))⟩]) .ret) .skip))))
 (.reg [⟨(some 18), none, (.bin .add .num (.t 8) (.c (.int .i64 1)))⟩,
   ⟨(some 8), none, (.mv (.t 18))⟩]))))
/-- slices.IndexFunc[[]limelight/api.Sent,limelight/api.Sent] -/
def af135 : AFunc := ⟨19, [(.tmp 4)],
 (.seq
 (.reg [⟨(some 4), none, (.mv (.c (.int .i64 0)))⟩])
 (.seq
 (.seq
 (.reg [⟨(some 6), none, (.mv (.t 0))⟩,
   ⟨(some 7), none, (.len (.t 6))⟩,
   ⟨(some 8), none, (.mv (.c (.int .i64 0)))⟩])
 (.block 0
 (.loop af135_l0)))
 (.seq
 (.reg [⟨(some 4), none, (.mv (.c (.int .i64 (-1))))⟩]) .ret)))⟩
theorem caf135 : cFunc Tryz.prog Tryz.f135 = some af135 := by kernel_rfl
/-- (*limelight/room.Room).Do -/
def af136 : AFunc := ⟨70, [(.tmp 6)],
 (.seq
 (.reg [⟨(some 5), none, (.box (.t 2))⟩,
   ⟨(some 6), none, (.mv (.c (.int .i64 0)))⟩])
 (.seq
 (.seq
 (.reg [⟨(some 9), none, (.mv (.t 1))⟩,
   ⟨(some 10), none, (.call 126 [(.t 9)])⟩,
   ⟨(some 11), none, (.un .not (.t 10))⟩])
 (.cond (.t 11)
 (.seq
 (.reg [⟨(some 6), none, (.mv (.c (.int .i64 25)))⟩]) .ret) .skip))
 (.seq
 (.seq
 (.reg [⟨(some 12), none, (.loadN 8 (.t 5))⟩,
   ⟨(some 13), none, (.call 131 [(.t 12)])⟩,
   ⟨(some 7), none, (.mv (.t 13))⟩])
 (.seq
 (.reg [⟨(some 14), none, (.mv (.t 7))⟩,
   ⟨(some 15), none, (.bin .neq .num (.t 14) (.c (.int .i64 0)))⟩])
 (.cond (.t 15)
 (.seq
 (.reg [⟨(some 16), none, (.mv (.t 7))⟩,
   ⟨(some 6), none, (.mv (.t 16))⟩]) .ret) .skip)))
 (.seq
 (.reg [⟨(some 17), none, (.mv (.t 0))⟩,
   ⟨(some 18), none, (.mv (.t 1))⟩,
   ⟨(some 19), none, (.nilCheck (.t 17))⟩,
   ⟨(some 20), none, (.fieldAddr 0 24 (.t 19))⟩,
   ⟨(some 21), none, (.ixArr 6 4 (.t 20) (.t 18))⟩,
   ⟨(some 8), none, (.mv (.t 21))⟩])
 (.seq
 (.block 0
 (.seq
 (.reg [⟨(some 23), none, (.fieldAddr 0 1 (.t 5))⟩,
   ⟨(some 24), none, (.load1 (.t 23))⟩,
   ⟨(some 25), none, (.bin .gtr .num (.t 24) (.c (.int .i64 7)))⟩,
   ⟨(some 22), none, (.mv (.t 25))⟩])
 (.cond (.t 22)
 (.seq
 (.reg [⟨(some 6), none, (.mv (.c (.int .i64 12)))⟩]) .ret)
 (.seq
 (.reg [⟨(some 27), none, (.fieldAddr 0 1 (.t 5))⟩,
   ⟨(some 28), none, (.load1 (.t 27))⟩,
   ⟨(some 29), none, (.bin .eql .num (.t 28) (.c (.int .i64 1)))⟩,
   ⟨(some 30), none, (.mv (.t 29))⟩,
   ⟨(some 31), (some (30, true)), (.mv (.t 8))⟩,
   ⟨(some 32), (some (30, true)), (.nilCheck (.t 31))⟩,
   ⟨(some 33), (some (30, true)), (.fieldAddr 0 1 (.t 32))⟩,
   ⟨(some 34), (some (30, true)), (.load1 (.t 33))⟩,
   ⟨(some 35), none, (.pick (.t 30) (.t 34) (.c (.bool false)))⟩,
   ⟨(some 26), none, (.mv (.t 35))⟩])
 (.cond (.t 26)
 (.seq
 (.reg [⟨(some 6), none, (.mv (.c (.int .i64 23)))⟩]) .ret)
 (.seq
 (.reg [⟨(some 37), none, (.fieldAddr 0 1 (.t 5))⟩,
   ⟨(some 38), none, (.load1 (.t 37))⟩,
   ⟨(some 39), none, (.bin .eql .num (.t 38) (.c (.int .i64 1)))⟩,
   ⟨(some 36), none, (.mv (.t 39))⟩])
 (.cond (.t 36)
 (.seq
 (.reg [⟨(some 40), none, (.mv (.t 8))⟩,
   ⟨(some 41), none, (.fieldAddr 1 1 (.t 5))⟩,
   ⟨(some 42), none, (.load1 (.t 41))⟩,
   ⟨(some 43), none, (.build [(.bool false), (.int .i64 0), (.slice none 0 0 none), (.slice none 0 0 none)] [(0, (1, (.c (.bool true)))), (1, (1, (.t 42)))])⟩,
   ⟨(some 44), none, (.nilCheck (.t 40))⟩,
   ⟨none, none, (.store 4 (.t 44) (.t 43))⟩])
 (.seq
 (.reg [⟨(some 6), none, (.mv (.c (.int .i64 0)))⟩]) .ret))
 (.seq
 (.reg [⟨(some 46), none, (.mv (.t 8))⟩,
   ⟨(some 47), none, (.nilCheck (.t 46))⟩,
   ⟨(some 48), none, (.fieldAddr 0 1 (.t 47))⟩,
   ⟨(some 49), none, (.load1 (.t 48))⟩,
   ⟨(some 50), none, (.un .not (.t 49))⟩,
   ⟨(some 45), none, (.mv (.t 50))⟩])
 (.cond (.t 45)
 (.seq
 (.reg [⟨(some 6), none, (.mv (.c (.int .i64 22)))⟩]) .ret)
 (.seq
 (.reg [⟨(some 52), none, (.fieldAddr 0 1 (.t 5))⟩,
   ⟨(some 53), none, (.load1 (.t 52))⟩,
   ⟨(some 54), none, (.bin .eql .num (.t 53) (.c (.int .i64 2)))⟩,
   ⟨(some 51), none, (.mv (.t 54))⟩])
 (.cond (.t 51)
 (.seq
 (.reg [⟨(some 55), none, (.mv (.t 0))⟩,
   ⟨(some 56), none, (.mv (.t 1))⟩,
   ⟨(some 57), none, (.call 191 [(.t 55), (.t 56)])⟩])
 (.seq
 (.reg [⟨(some 6), none, (.mv (.c (.int .i64 0)))⟩]) .ret))
 (.seq
 (.reg [⟨(some 59), none, (.fieldAddr 0 1 (.t 5))⟩,
   ⟨(some 60), none, (.load1 (.t 59))⟩,
   ⟨(some 61), none, (.bin .eql .num (.t 60) (.c (.int .i64 3)))⟩,
   ⟨(some 58), none, (.mv (.t 61))⟩])
 (.cond (.t 58)
 (.seq
 (.reg [⟨(some 62), none, (.mv (.t 8))⟩,
   ⟨(some 63), none, (.fieldAddr 2 1 (.t 5))⟩,
   ⟨(some 64), none, (.load1 (.t 63))⟩,
   ⟨(some 65), none, (.call 192 [(.t 62), (.t 64)])⟩,
   ⟨(some 6), none, (.mv (.t 65))⟩]) .ret) .skip)))))))))))))
 (.seq
 (.reg [⟨(some 66), none, (.mv (.t 0))⟩,
   ⟨(some 67), none, (.mv (.t 1))⟩,
   ⟨(some 68), none, (.loadN 8 (.t 5))⟩,
   ⟨(some 69), none, (.call 193 [(.t 66), (.t 67), (.t 68)])⟩,
   ⟨(some 6), none, (.mv (.t 69))⟩]) .ret))))))⟩
theorem caf136 : cFunc Tryz.prog Tryz.f136 = some af136 := by kernel_rfl
/-- limelight/limit.New -/
def af137 : AFunc := ⟨9, [(.tmp 2)],
 (.seq
 (.reg [⟨(some 2), none, (.mv (.c (.ptr none)))⟩])
 (.seq
 (.reg [⟨(some 3), none, (.mv (.t 0))⟩,
   ⟨(some 4), none, (.mn [(.t 3), (.c (.int .i64 1099511627776))])⟩,
   ⟨(some 5), none, (.mx [(.c (.int .i64 1)), (.t 4)])⟩,
   ⟨(some 6), none, (.call 194 [])⟩,
   ⟨(some 7), none, (.build [(.int .i64 0), (.int .u64 0), (.bool false), (.slice none 0 0 none), (.ptr none)] [(0, (1, (.t 5))), (4, (1, (.t 6)))])⟩,
   ⟨(some 8), none, (.box (.t 7))⟩,
   ⟨(some 2), none, (.mv (.t 8))⟩]) .ret))⟩
theorem caf137 : cFunc Tryz.prog Tryz.f137 = some af137 := by kernel_rfl
/-- limelight/pace.New -/
def af138 : AFunc := ⟨10, [(.tmp 4)],
 (.seq
 (.reg [⟨(some 4), none, (.mv (.c (.ptr none)))⟩])
 (.seq
 (.reg [⟨(some 5), none, (.mv (.t 0))⟩,
   ⟨(some 6), none, (.mv (.t 1))⟩,
   ⟨(some 7), none, (.call 195 [(.t 5), (.t 6)])⟩,
   ⟨(some 8), none, (.build [(.slice none 0 0 none), (.ptr none), (.int .i64 0)] [(1, (1, (.t 7)))])⟩,
   ⟨(some 9), none, (.box (.t 8))⟩,
   ⟨(some 4), none, (.mv (.t 9))⟩]) .ret))⟩
theorem caf138 : cFunc Tryz.prog Tryz.f138 = some af138 := by kernel_rfl
def af140_l0 : AC :=
 (.seq
 (.reg [⟨(some 28), none, (.bin .lss .num (.t 27) (.t 26))⟩])
 (.seq
 (.cond (.t 28) .skip (.exit 0))
 (.seq
 (.block 1
 (.seq
 (.reg [⟨(some 29), none, (.mv (.t 27))⟩,
   ⟨(some 7), none, (.mv (.t 29))⟩])
 (.dreg [⟨(some 30), none, (.mv (.t 6))⟩,
   ⟨(some 31), none, (.nilCheck (.t 30))⟩,
   ⟨(some 32), none, (.fieldAddr 3 1 (.t 31))⟩,
   ⟨(some 33), none, (.load1 (.t 32))⟩,
   ⟨(some 34), none, (.mv (.t 7))⟩,
   ⟨(some 35), none, (.mv (.t 0))⟩,
   ⟨(some 36), none, (.nilCheck (.t 35))⟩,
   ⟨(some 37), none, (.fieldAddr 7 1 (.t 36))⟩,
   ⟨(some 38), none, (.load1 (.t 37))⟩,
   ⟨(some 39), none, (.call 104 [(.t 33), (.t 34), (.t 38)])⟩] [])))
 (.reg [⟨(some 40), none, (.bin .add .num (.t 27) (.c (.int .i64 1)))⟩,
   ⟨(some 27), none, (.mv (.t 40))⟩]))))
/-- (*limelight/sfu.House).publish -/
def af140 : AFunc := ⟨41, [],
 (.seq
 (.reg [⟨(some 8), none, (.mv (.t 0))⟩,
   ⟨(some 9), none, (.mv (.t 1))⟩,
   ⟨(some 10), none, (.nilCheck (.t 8))⟩,
   ⟨(some 11), none, (.fieldAddr 1 6 (.t 10))⟩,
   ⟨(some 12), none, (.ixArr 6 1 (.t 11) (.t 9))⟩,
   ⟨(some 13), none, (.load1 (.t 12))⟩,
   ⟨(some 6), none, (.mv (.t 13))⟩])
 (.seq
 (.reg [⟨(some 14), none, (.mv (.t 6))⟩,
   ⟨(some 15), none, (.mv (.t 6))⟩,
   ⟨(some 16), none, (.mv (.t 2))⟩,
   ⟨(some 17), none, (.call 197 [(.t 16)])⟩,
   ⟨(some 18), none, (.mv (.t 2))⟩,
   ⟨(some 19), none, (.len (.t 18))⟩,
   ⟨(some 20), none, (.call 198 [(.t 19)])⟩,
   ⟨(some 21), none, (.nilCheck (.t 14))⟩,
   ⟨(some 22), none, (.fieldAddr 2 1 (.t 21))⟩,
   ⟨none, none, (.store 1 (.t 22) (.t 17))⟩,
   ⟨(some 23), none, (.nilCheck (.t 15))⟩,
   ⟨(some 24), none, (.fieldAddr 3 1 (.t 23))⟩,
   ⟨none, none, (.store 1 (.t 24) (.t 20))⟩])
 (.seq
 (.reg [⟨(some 25), none, (.mv (.t 2))⟩,
   ⟨(some 26), none, (.len (.t 25))⟩,
   ⟨(some 27), none, (.mv (.c (.int .i64 0)))⟩])
 (.block 0
 (.loop af140_l0)))))⟩
theorem caf140 : cFunc Tryz.prog Tryz.f140 = some af140 := by kernel_rfl
/-- (*limelight/sfu.House).subscribe -/
def af141 : AFunc := ⟨50, [],
 (.seq
 (.reg [⟨(some 5), none, (.box (.t 2))⟩])
 (.seq
 (.reg [⟨(some 8), none, (.mv (.t 0))⟩,
   ⟨(some 9), none, (.mv (.t 1))⟩,
   ⟨(some 10), none, (.nilCheck (.t 8))⟩,
   ⟨(some 11), none, (.fieldAddr 1 6 (.t 10))⟩,
   ⟨(some 12), none, (.ixArr 6 1 (.t 11) (.t 9))⟩,
   ⟨(some 13), none, (.load1 (.t 12))⟩,
   ⟨(some 6), none, (.mv (.t 13))⟩])
 (.seq
 (.reg [⟨(some 14), none, (.fieldAddr 3 1 (.t 5))⟩,
   ⟨(some 15), none, (.load1 (.t 14))⟩,
   ⟨(some 16), none, (.conv (.int .u32) (.t 15))⟩,
   ⟨(some 17), none, (.bin .shl .num (.t 16) (.c (.int .u64 16)))⟩,
   ⟨(some 18), none, (.mv (.t 1))⟩,
   ⟨(some 19), none, (.conv (.int .u32) (.t 18))⟩,
   ⟨(some 20), none, (.bin .add .num (.t 17) (.t 19))⟩,
   ⟨(some 21), none, (.bin .add .num (.t 20) (.c (.int .u32 1)))⟩,
   ⟨(some 7), none, (.mv (.t 21))⟩])
 (.seq
 (.dreg [⟨(some 22), none, (.mv (.t 6))⟩,
   ⟨(some 23), none, (.mv (.t 6))⟩,
   ⟨(some 24), none, (.nilCheck (.t 23))⟩,
   ⟨(some 25), none, (.fieldAddr 4 1 (.t 24))⟩,
   ⟨(some 26), none, (.load1 (.t 25))⟩,
   ⟨(some 27), none, (.fieldAddr 3 1 (.t 5))⟩,
   ⟨(some 28), none, (.load1 (.t 27))⟩,
   ⟨(some 29), none, (.mv (.t 7))⟩,
   ⟨(some 30), none, (.mv (.t 7))⟩,
   ⟨(some 31), none, (.call 199 [(.t 30)])⟩,
   ⟨(some 32), none, (.fieldAddr 4 1 (.t 5))⟩,
   ⟨(some 33), none, (.load1 (.t 32))⟩,
   ⟨(some 34), none, (.fieldAddr 5 1 (.t 5))⟩,
   ⟨(some 35), none, (.load1 (.t 34))⟩,
   ⟨(some 36), none, (.build [(.int .i64 0), (.int .u32 0), (.ptr none), (.int .i64 0), (.int .i64 0), (.int .i64 0)] [(0, (1, (.t 28))), (1, (1, (.t 29))), (2, (1, (.t 31))), (3, (1, (.t 33))), (4, (1, (.t 35))), (5, (1, (.c (.int .i64 (-1)))))])⟩,
   ⟨(some 37), none, (.box (.t 36))⟩,
   ⟨(some 38), none, (.buildSlice 1 [(.ptr none)] 1 [(0, (1, (.t 37)))])⟩,
   ⟨(some 39), none, (.append 1 8 (.t 26) (.t 38))⟩,
   ⟨(some 40), none, (.nilCheck (.t 22))⟩,
   ⟨(some 41), none, (.fieldAddr 4 1 (.t 40))⟩,
   ⟨none, none, (.store 1 (.t 41) (.t 39))⟩] [(4, 10), (4, 16), (4, 17), (6, 10), (11, 9), (13, 9)])
 (.seq
 (.reg [⟨(some 42), none, (.mv (.t 6))⟩,
   ⟨(some 43), none, (.nilCheck (.t 42))⟩,
   ⟨(some 44), none, (.fieldAddr 4 1 (.t 43))⟩,
   ⟨(some 45), none, (.load1 (.t 44))⟩,
   ⟨(some 46), none, (.call 200 [(.t 45), (.c (.func 201 []))])⟩])
 (.reg [⟨(some 47), none, (.mv (.t 6))⟩,
   ⟨(some 48), none, (.nilCheck (.t 47))⟩,
   ⟨(some 49), none, (.fieldAddr 5 1 (.t 48))⟩,
   ⟨none, none, (.store 1 (.t 49) (.c (.bool true)))⟩]))))))⟩
theorem caf141 : cFunc Tryz.prog Tryz.f141 = some af141 := by kernel_rfl
/-- limelight/ctl.take -/
def af144 : AFunc := ⟨105, [],
 (.seq
 (.reg [⟨(some 15), none, (.mv (.t 2))⟩,
   ⟨(some 16), none, (.mv (.t 2))⟩,
   ⟨(some 17), none, (.len (.t 16))⟩,
   ⟨(some 18), none, (.call 56 [(.t 15), (.c (.int .i64 0)), (.t 17)])⟩,
   ⟨(some 14), none, (.mv (.t 18))⟩,
   ⟨(some 19), none, (.extract 0 (.t 14))⟩,
   ⟨(some 20), none, (.extract 1 (.t 14))⟩,
   ⟨(some 6), none, (.mv (.t 19))⟩,
   ⟨(some 7), none, (.mv (.t 20))⟩])
 (.seq
 (.reg [⟨(some 21), none, (.mv (.t 1))⟩])
 (.block 0
 (.seq
 (.reg [⟨(some 23), none, (.bin .eql .num (.t 21) (.c (.int .i64 1)))⟩,
   ⟨(some 22), none, (.mv (.t 23))⟩])
 (.cond (.t 22)
 (.reg [⟨(some 24), none, (.mv (.t 0))⟩,
   ⟨(some 25), none, (.mv (.t 6))⟩,
   ⟨(some 26), none, (.conv (.int .i64) (.t 25))⟩,
   ⟨(some 27), none, (.nilCheck (.t 24))⟩,
   ⟨(some 28), none, (.fieldAddr 1 1 (.t 27))⟩,
   ⟨none, none, (.store 1 (.t 28) (.t 26))⟩])
 (.seq
 (.reg [⟨(some 30), none, (.bin .eql .num (.t 21) (.c (.int .i64 2)))⟩,
   ⟨(some 29), none, (.mv (.t 30))⟩])
 (.cond (.t 29)
 (.seq
 (.reg [⟨(some 32), none, (.mv (.t 2))⟩,
   ⟨(some 33), none, (.call 56 [(.t 32), (.c (.int .i64 0)), (.c (.int .i64 4))])⟩,
   ⟨(some 31), none, (.mv (.t 33))⟩,
   ⟨(some 34), none, (.extract 0 (.t 31))⟩,
   ⟨(some 35), none, (.extract 1 (.t 31))⟩,
   ⟨(some 8), none, (.mv (.t 34))⟩,
   ⟨(some 9), none, (.mv (.t 35))⟩])
 (.seq
 (.reg [⟨(some 37), none, (.mv (.t 2))⟩,
   ⟨(some 38), none, (.call 56 [(.t 37), (.c (.int .i64 4)), (.c (.int .i64 2))])⟩,
   ⟨(some 36), none, (.mv (.t 38))⟩,
   ⟨(some 39), none, (.extract 0 (.t 36))⟩,
   ⟨(some 40), none, (.extract 1 (.t 36))⟩,
   ⟨(some 10), none, (.mv (.t 39))⟩,
   ⟨(some 11), none, (.mv (.t 40))⟩])
 (.seq
 (.reg [⟨(some 42), none, (.mv (.t 2))⟩,
   ⟨(some 43), none, (.mv (.t 2))⟩,
   ⟨(some 44), none, (.len (.t 43))⟩,
   ⟨(some 45), none, (.mn [(.c (.int .i64 6)), (.t 44)])⟩,
   ⟨(some 46), none, (.mv (.t 2))⟩,
   ⟨(some 47), none, (.len (.t 46))⟩,
   ⟨(some 48), none, (.bin .sub .num (.t 47) (.c (.int .i64 4)))⟩,
   ⟨(some 49), none, (.bin .sub .num (.t 48) (.c (.int .i64 2)))⟩,
   ⟨(some 50), none, (.mx [(.c (.int .i64 0)), (.t 49)])⟩,
   ⟨(some 51), none, (.call 117 [(.t 42), (.t 45), (.t 50)])⟩,
   ⟨(some 41), none, (.mv (.t 51))⟩,
   ⟨(some 52), none, (.extract 0 (.t 41))⟩,
   ⟨(some 53), none, (.extract 1 (.t 41))⟩,
   ⟨(some 12), none, (.mv (.t 52))⟩,
   ⟨(some 13), none, (.mv (.t 53))⟩])
 (.dreg [⟨(some 54), none, (.mv (.t 0))⟩,
   ⟨(some 55), none, (.mv (.t 0))⟩,
   ⟨(some 56), none, (.nilCheck (.t 55))⟩,
   ⟨(some 57), none, (.fieldAddr 2 1 (.t 56))⟩,
   ⟨(some 58), none, (.load1 (.t 57))⟩,
   ⟨(some 59), none, (.mv (.t 12))⟩,
   ⟨(some 60), none, (.conv .bytesStr (.t 59))⟩,
   ⟨(some 61), none, (.mv (.t 8))⟩,
   ⟨(some 62), none, (.conv (.int .u32) (.t 61))⟩,
   ⟨(some 63), none, (.mv (.t 10))⟩,
   ⟨(some 64), none, (.conv (.int .i64) (.t 63))⟩,
   ⟨(some 65), none, (.build [(.str []), (.int .u32 0), (.int .i64 0)] [(0, (1, (.t 60))), (1, (1, (.t 62))), (2, (1, (.t 64)))])⟩,
   ⟨(some 66), none, (.buildSlice 3 [(.str []), (.int .u32 0), (.int .i64 0)] 1 [(0, (3, (.t 65)))])⟩,
   ⟨(some 67), none, (.append 3 32 (.t 58) (.t 66))⟩,
   ⟨(some 68), none, (.nilCheck (.t 54))⟩,
   ⟨(some 69), none, (.fieldAddr 2 1 (.t 68))⟩,
   ⟨none, none, (.store 1 (.t 69) (.t 67))⟩] [(4, 13)]))))
 (.seq
 (.reg [⟨(some 71), none, (.bin .eql .num (.t 21) (.c (.int .i64 3)))⟩,
   ⟨(some 70), none, (.mv (.t 71))⟩])
 (.cond (.t 70)
 (.reg [⟨(some 72), none, (.mv (.t 0))⟩,
   ⟨(some 73), none, (.mv (.t 6))⟩,
   ⟨(some 74), none, (.conv (.int .i64) (.t 73))⟩,
   ⟨(some 75), none, (.nilCheck (.t 72))⟩,
   ⟨(some 76), none, (.fieldAddr 3 1 (.t 75))⟩,
   ⟨none, none, (.store 1 (.t 76) (.t 74))⟩])
 (.seq
 (.reg [⟨(some 78), none, (.bin .eql .num (.t 21) (.c (.int .i64 4)))⟩,
   ⟨(some 77), none, (.mv (.t 78))⟩])
 (.cond (.t 77)
 (.reg [⟨(some 79), none, (.mv (.t 0))⟩,
   ⟨(some 80), none, (.mv (.t 6))⟩,
   ⟨(some 81), none, (.conv (.int .i64) (.t 80))⟩,
   ⟨(some 82), none, (.nilCheck (.t 79))⟩,
   ⟨(some 83), none, (.fieldAddr 4 1 (.t 82))⟩,
   ⟨none, none, (.store 1 (.t 83) (.t 81))⟩])
 (.seq
 (.reg [⟨(some 85), none, (.bin .eql .num (.t 21) (.c (.int .i64 5)))⟩,
   ⟨(some 84), none, (.mv (.t 85))⟩])
 (.cond (.t 84)
 (.reg [⟨(some 86), none, (.mv (.t 0))⟩,
   ⟨(some 87), none, (.mv (.t 6))⟩,
   ⟨(some 88), none, (.conv (.int .i64) (.t 87))⟩,
   ⟨(some 89), none, (.nilCheck (.t 86))⟩,
   ⟨(some 90), none, (.fieldAddr 5 1 (.t 89))⟩,
   ⟨none, none, (.store 1 (.t 90) (.t 88))⟩])
 (.seq
 (.reg [⟨(some 92), none, (.bin .eql .num (.t 21) (.c (.int .i64 6)))⟩,
   ⟨(some 91), none, (.mv (.t 92))⟩])
 (.cond (.t 91)
 (.reg [⟨(some 93), none, (.mv (.t 0))⟩,
   ⟨(some 94), none, (.mv (.t 6))⟩,
   ⟨(some 95), none, (.conv (.int .i64) (.t 94))⟩,
   ⟨(some 96), none, (.nilCheck (.t 93))⟩,
   ⟨(some 97), none, (.fieldAddr 6 1 (.t 96))⟩,
   ⟨none, none, (.store 1 (.t 97) (.t 95))⟩])
 (.seq
 (.reg [⟨(some 99), none, (.bin .eql .num (.t 21) (.c (.int .i64 7)))⟩,
   ⟨(some 98), none, (.mv (.t 99))⟩])
 (.cond (.t 98)
 (.reg [⟨(some 100), none, (.mv (.t 0))⟩,
   ⟨(some 101), none, (.mv (.t 6))⟩,
   ⟨(some 102), none, (.conv (.int .i64) (.t 101))⟩,
   ⟨(some 103), none, (.nilCheck (.t 100))⟩,
   ⟨(some 104), none, (.fieldAddr 7 1 (.t 103))⟩,
   ⟨none, none, (.store 1 (.t 104) (.t 102))⟩]) .skip)))))))))))))))))⟩
theorem caf144 : cFunc Tryz.prog Tryz.f144 = some af144 := by kernel_rfl
def af145_l0 : AC :=
 (.seq
 (.reg [⟨(some 14), none, (.bin .lss .num (.t 13) (.t 12))⟩])
 (.seq
 (.cond (.t 14) .skip (.exit 0))
 (.seq
 (.block 1
 (.seq
 (.reg [⟨(some 15), none, (.mv (.t 13))⟩,
   ⟨(some 5), none, (.mv (.t 15))⟩])
 (.seq
 (.dreg [⟨(some 16), none, (.mv (.t 0))⟩,
   ⟨(some 17), none, (.mv (.t 5))⟩,
   ⟨(some 18), none, (.ixSlice 1 (.t 16) (.t 17))⟩,
   ⟨(some 19), none, (.load1 (.t 18))⟩,
   ⟨(some 20), none, (.mv (.t 1))⟩,
   ⟨(some 21), none, (.mv (.t 5))⟩,
   ⟨(some 22), none, (.ixSlice 1 (.t 20) (.t 21))⟩,
   ⟨(some 23), none, (.load1 (.t 22))⟩,
   ⟨(some 24), none, (.bin .neq .num (.t 19) (.t 23))⟩] [])
 (.cond (.t 24)
 (.seq
 (.reg [⟨(some 4), none, (.mv (.c (.bool false)))⟩]) .ret) .skip))))
 (.reg [⟨(some 25), none, (.bin .add .num (.t 13) (.c (.int .i64 1)))⟩,
   ⟨(some 13), none, (.mv (.t 25))⟩]))))
/-- slices.Equal[[]byte,byte] -/
def af145 : AFunc := ⟨26, [(.tmp 4)],
 (.seq
 (.reg [⟨(some 4), none, (.mv (.c (.bool false)))⟩])
 (.seq
 (.seq
 (.reg [⟨(some 6), none, (.mv (.t 0))⟩,
   ⟨(some 7), none, (.len (.t 6))⟩,
   ⟨(some 8), none, (.mv (.t 1))⟩,
   ⟨(some 9), none, (.len (.t 8))⟩,
   ⟨(some 10), none, (.bin .neq .num (.t 7) (.t 9))⟩])
 (.cond (.t 10)
 (.seq
 (.reg [⟨(some 4), none, (.mv (.c (.bool false)))⟩]) .ret) .skip))
 (.seq
 (.seq
 (.reg [⟨(some 11), none, (.mv (.t 0))⟩,
   ⟨(some 12), none, (.len (.t 11))⟩,
   ⟨(some 13), none, (.mv (.c (.int .i64 0)))⟩])
 (.block 0
 (.loop af145_l0)))
 (.seq
 (.reg [⟨(some 4), none, (.mv (.c (.bool true)))⟩]) .ret))))⟩
theorem caf145 : cFunc Tryz.prog Tryz.f145 = some af145 := by kernel_rfl
def af146_l0 : AC :=
 (.seq
 (.seq
 (.reg [⟨(some 15), none, (.mv (.t 9))⟩,
   ⟨(some 16), none, (.mv (.t 10))⟩,
   ⟨(some 17), none, (.bin .lss .num (.t 15) (.t 16))⟩])
 (.cond (.t 17) .skip (.exit 0)))
 (.block 1
 (.seq
 (.reg [⟨(some 18), none, (.mv (.t 9))⟩,
   ⟨(some 19), none, (.mv (.t 10))⟩,
   ⟨(some 20), none, (.bin .add .num (.t 18) (.t 19))⟩,
   ⟨(some 21), none, (.conv (.int .u64) (.t 20))⟩,
   ⟨(some 22), none, (.bin .shr .num (.t 21) (.c (.int .u64 1)))⟩,
   ⟨(some 23), none, (.conv (.int .i64) (.t 22))⟩,
   ⟨(some 11), none, (.mv (.t 23))⟩])
 (.seq
 (.dreg [⟨(some 24), none, (.mv (.t 2))⟩,
   ⟨(some 25), none, (.mv (.t 0))⟩,
   ⟨(some 26), none, (.mv (.t 11))⟩,
   ⟨(some 27), none, (.ixSlice 3 (.t 25) (.t 26))⟩,
   ⟨(some 28), none, (.loadN 3 (.t 27))⟩,
   ⟨(some 29), none, (.loadN 3 (.t 4))⟩,
   ⟨(some 30), none, (.callV (.t 24) [(.t 28), (.t 29)])⟩,
   ⟨(some 31), none, (.bin .lss .num (.t 30) (.c (.int .i64 0)))⟩] [])
 (.cond (.t 31)
 (.reg [⟨(some 32), none, (.mv (.t 11))⟩,
   ⟨(some 33), none, (.bin .add .num (.t 32) (.c (.int .i64 1)))⟩,
   ⟨(some 9), none, (.mv (.t 33))⟩])
 (.reg [⟨(some 34), none, (.mv (.t 11))⟩,
   ⟨(some 10), none, (.mv (.t 34))⟩]))))))
/-- slices.BinarySearchFunc[[]limelight/api.Tuple,limelight/api.Tuple,limelight/api.Tuple] -/
def af146 : AFunc := ⟨49, [(.tmp 6), (.tmp 7)],
 (.seq
 (.reg [⟨(some 4), none, (.box (.t 1))⟩,
   ⟨(some 6), none, (.mv (.c (.int .i64 0)))⟩,
   ⟨(some 7), none, (.mv (.c (.bool false)))⟩])
 (.seq
 (.reg [⟨(some 12), none, (.mv (.t 0))⟩,
   ⟨(some 13), none, (.len (.t 12))⟩,
   ⟨(some 8), none, (.mv (.t 13))⟩])
 (.seq
 (.reg [⟨(some 14), none, (.mv (.t 8))⟩,
   ⟨(some 9), none, (.mv (.c (.int .i64 0)))⟩,
   ⟨(some 10), none, (.mv (.t 14))⟩])
 (.seq
 (.block 0
 (.loop af146_l0))
 (.seq
 (.dreg [⟨(some 35), none, (.mv (.t 9))⟩,
   ⟨(some 36), none, (.mv (.t 9))⟩,
   ⟨(some 37), none, (.mv (.t 8))⟩,
   ⟨(some 38), none, (.bin .lss .num (.t 36) (.t 37))⟩,
   ⟨(some 39), none, (.mv (.t 38))⟩,
   ⟨(some 40), (some (39, true)), (.mv (.t 2))⟩,
   ⟨(some 41), (some (39, true)), (.mv (.t 0))⟩,
   ⟨(some 42), (some (39, true)), (.mv (.t 9))⟩,
   ⟨(some 43), (some (39, true)), (.ixSlice 3 (.t 41) (.t 42))⟩,
   ⟨(some 44), (some (39, true)), (.loadN 3 (.t 43))⟩,
   ⟨(some 45), (some (39, true)), (.loadN 3 (.t 4))⟩,
   ⟨(some 46), (some (39, true)), (.callV (.t 40) [(.t 44), (.t 45)])⟩,
   ⟨(some 47), (some (39, true)), (.bin .eql .num (.t 46) (.c (.int .i64 0)))⟩,
   ⟨(some 48), none, (.pick (.t 39) (.t 47) (.c (.bool false)))⟩,
   ⟨(some 6), none, (.mv (.t 35))⟩,
   ⟨(some 7), none, (.mv (.t 48))⟩] []) .ret)))))⟩
theorem caf146 : cFunc Tryz.prog Tryz.f146 = some af146 := by kernel_rfl
/-- slices.Insert[[]limelight/api.Tuple,limelight/api.Tuple] -/
def af149 : AFunc := ⟨95, [(.tmp 6)],
 (.seq
 (.reg [⟨(some 6), none, (.mv (.c (.slice none 0 0 none)))⟩])
 (.seq
 (.reg [⟨(some 10), none, (.mv (.t 0))⟩,
   ⟨(some 11), none, (.mv (.t 1))⟩,
   ⟨(some 12), none, (.cut 3 (.t 10) (some (.t 11)) none none)⟩])
 (.seq
 (.reg [⟨(some 13), none, (.mv (.t 2))⟩,
   ⟨(some 14), none, (.len (.t 13))⟩,
   ⟨(some 7), none, (.mv (.t 14))⟩])
 (.seq
 (.seq
 (.reg [⟨(some 15), none, (.mv (.t 7))⟩,
   ⟨(some 16), none, (.bin .eql .num (.t 15) (.c (.int .i64 0)))⟩])
 (.cond (.t 16)
 (.seq
 (.reg [⟨(some 17), none, (.mv (.t 0))⟩,
   ⟨(some 6), none, (.mv (.t 17))⟩]) .ret) .skip))
 (.seq
 (.reg [⟨(some 18), none, (.mv (.t 0))⟩,
   ⟨(some 19), none, (.len (.t 18))⟩,
   ⟨(some 8), none, (.mv (.t 19))⟩])
 (.seq
 (.seq
 (.reg [⟨(some 20), none, (.mv (.t 1))⟩,
   ⟨(some 21), none, (.mv (.t 8))⟩,
   ⟨(some 22), none, (.bin .eql .num (.t 20) (.t 21))⟩])
 (.cond (.t 22)
 (.seq
 (.reg [⟨(some 23), none, (.mv (.t 0))⟩,
   ⟨(some 24), none, (.mv (.t 2))⟩,
   ⟨(some 25), none, (.append 3 24 (.t 23) (.t 24))⟩,
   ⟨(some 6), none, (.mv (.t 25))⟩]) .ret) .skip))
 (.seq
 (.seq
 (.reg [⟨(some 26), none, (.mv (.t 8))⟩,
   ⟨(some 27), none, (.mv (.t 7))⟩,
   ⟨(some 28), none, (.bin .add .num (.t 26) (.t 27))⟩,
   ⟨(some 29), none, (.mv (.t 0))⟩,
   ⟨(some 30), none, (.cap (.t 29))⟩,
   ⟨(some 31), none, (.bin .gtr .num (.t 28) (.t 30))⟩])
 (.cond (.t 31)
 (.seq
 (.reg [⟨(some 32), none, (.mv (.t 0))⟩,
   ⟨(some 33), none, (.mv (.t 1))⟩,
   ⟨(some 34), none, (.cut 3 (.t 32) none (some (.t 33)) none)⟩,
   ⟨(some 35), none, (.mv (.t 8))⟩,
   ⟨(some 36), none, (.mv (.t 7))⟩,
   ⟨(some 37), none, (.bin .add .num (.t 35) (.t 36))⟩,
   ⟨(some 38), none, (.mv (.t 1))⟩,
   ⟨(some 39), none, (.bin .sub .num (.t 37) (.t 38))⟩,
   ⟨(some 40), none, (.appendZ 3 24 [(.int .u32 0), (.int .u64 0), (.int .i64 0)] (.t 34) (.t 39))⟩,
   ⟨(some 9), none, (.mv (.t 40))⟩])
 (.seq
 (.reg [⟨(some 41), none, (.mv (.t 9))⟩,
   ⟨(some 42), none, (.mv (.t 1))⟩,
   ⟨(some 43), none, (.cut 3 (.t 41) (some (.t 42)) none none)⟩,
   ⟨(some 44), none, (.mv (.t 2))⟩,
   ⟨(some 45), none, (.copy 3 (.t 43) (.t 44))⟩])
 (.seq
 (.dreg [⟨(some 46), none, (.mv (.t 9))⟩,
   ⟨(some 47), none, (.mv (.t 1))⟩,
   ⟨(some 48), none, (.mv (.t 7))⟩,
   ⟨(some 49), none, (.bin .add .num (.t 47) (.t 48))⟩,
   ⟨(some 50), none, (.cut 3 (.t 46) (some (.t 49)) none none)⟩,
   ⟨(some 51), none, (.mv (.t 0))⟩,
   ⟨(some 52), none, (.mv (.t 1))⟩,
   ⟨(some 53), none, (.cut 3 (.t 51) (some (.t 52)) none none)⟩,
   ⟨(some 54), none, (.copy 3 (.t 50) (.t 53))⟩] [])
 (.seq
 (.reg [⟨(some 55), none, (.mv (.t 9))⟩,
   ⟨(some 6), none, (.mv (.t 55))⟩]) .ret)))) .skip))
 (.seq
 (.reg [⟨(some 56), none, (.mv (.t 0))⟩,
   ⟨(some 57), none, (.mv (.t 8))⟩,
   ⟨(some 58), none, (.mv (.t 7))⟩,
   ⟨(some 59), none, (.bin .add .num (.t 57) (.t 58))⟩,
   ⟨(some 60), none, (.cut 3 (.t 56) none (some (.t 59)) none)⟩,
   ⟨(some 0), none, (.mv (.t 60))⟩])
 (.seq
 (.seq
 (.reg [⟨(some 61), none, (.mv (.t 2))⟩,
   ⟨(some 62), none, (.mv (.t 0))⟩,
   ⟨(some 63), none, (.mv (.t 1))⟩,
   ⟨(some 64), none, (.mv (.t 7))⟩,
   ⟨(some 65), none, (.bin .add .num (.t 63) (.t 64))⟩,
   ⟨(some 66), none, (.cut 3 (.t 62) (some (.t 65)) none none)⟩,
   ⟨(some 67), none, (.call 205 [(.t 61), (.t 66)])⟩,
   ⟨(some 68), none, (.un .not (.t 67))⟩])
 (.cond (.t 68)
 (.seq
 (.dreg [⟨(some 69), none, (.mv (.t 0))⟩,
   ⟨(some 70), none, (.mv (.t 1))⟩,
   ⟨(some 71), none, (.mv (.t 7))⟩,
   ⟨(some 72), none, (.bin .add .num (.t 70) (.t 71))⟩,
   ⟨(some 73), none, (.cut 3 (.t 69) (some (.t 72)) none none)⟩,
   ⟨(some 74), none, (.mv (.t 0))⟩,
   ⟨(some 75), none, (.mv (.t 1))⟩,
   ⟨(some 76), none, (.cut 3 (.t 74) (some (.t 75)) none none)⟩,
   ⟨(some 77), none, (.copy 3 (.t 73) (.t 76))⟩] [])
 (.seq
 (.reg [⟨(some 78), none, (.mv (.t 0))⟩,
   ⟨(some 79), none, (.mv (.t 1))⟩,
   ⟨(some 80), none, (.cut 3 (.t 78) (some (.t 79)) none none)⟩,
   ⟨(some 81), none, (.mv (.t 2))⟩,
   ⟨(some 82), none, (.copy 3 (.t 80) (.t 81))⟩])
 (.seq
 (.reg [⟨(some 83), none, (.mv (.t 0))⟩,
   ⟨(some 6), none, (.mv (.t 83))⟩]) .ret))) .skip))
 (.seq
 (.reg [⟨(some 84), none, (.mv (.t 0))⟩,
   ⟨(some 85), none, (.mv (.t 8))⟩,
   ⟨(some 86), none, (.cut 3 (.t 84) (some (.t 85)) none none)⟩,
   ⟨(some 87), none, (.mv (.t 2))⟩,
   ⟨(some 88), none, (.copy 3 (.t 86) (.t 87))⟩])
 (.seq
 (.reg [⟨(some 89), none, (.mv (.t 0))⟩,
   ⟨(some 90), none, (.mv (.t 1))⟩,
   ⟨(some 91), none, (.cut 3 (.t 89) (some (.t 90)) none none)⟩,
   ⟨(some 92), none, (.mv (.t 7))⟩,
   ⟨(some 93), none, (.call 206 [(.t 91), (.t 92)])⟩])
 (.seq
 (.reg [⟨(some 94), none, (.mv (.t 0))⟩,
   ⟨(some 6), none, (.mv (.t 94))⟩]) .ret))))))))))))⟩
theorem caf149 : cFunc Tryz.prog Tryz.f149 = some af149 := by kernel_rfl
/-- (*limelight/alarm.Table).Set -/
def af150 : AFunc := ⟨26, [],
 (.seq
 (.reg [⟨(some 6), none, (.mv (.t 0))⟩,
   ⟨(some 7), none, (.mv (.t 1))⟩,
   ⟨(some 8), none, (.call 207 [(.t 6), (.t 7)])⟩])
 (.seq
 (.reg [⟨(some 9), none, (.mv (.t 0))⟩,
   ⟨(some 10), none, (.mv (.t 0))⟩,
   ⟨(some 11), none, (.nilCheck (.t 10))⟩,
   ⟨(some 12), none, (.fieldAddr 0 1 (.t 11))⟩,
   ⟨(some 13), none, (.load1 (.t 12))⟩,
   ⟨(some 14), none, (.mv (.t 2))⟩,
   ⟨(some 15), none, (.mv (.t 1))⟩,
   ⟨(some 16), none, (.build [(.int .i64 0), (.int .u64 0)] [(0, (1, (.t 14))), (1, (1, (.t 15)))])⟩,
   ⟨(some 17), none, (.buildSlice 2 [(.int .i64 0), (.int .u64 0)] 1 [(0, (2, (.t 16)))])⟩,
   ⟨(some 18), none, (.append 2 16 (.t 13) (.t 17))⟩,
   ⟨(some 19), none, (.nilCheck (.t 9))⟩,
   ⟨(some 20), none, (.fieldAddr 0 1 (.t 19))⟩,
   ⟨none, none, (.store 1 (.t 20) (.t 18))⟩])
 (.reg [⟨(some 21), none, (.mv (.t 0))⟩,
   ⟨(some 22), none, (.nilCheck (.t 21))⟩,
   ⟨(some 23), none, (.fieldAddr 0 1 (.t 22))⟩,
   ⟨(some 24), none, (.load1 (.t 23))⟩,
   ⟨(some 25), none, (.call 208 [(.t 24), (.c (.func 209 []))])⟩])))⟩
theorem caf150 : cFunc Tryz.prog Tryz.f150 = some af150 := by kernel_rfl
/-- limelight/limit.until -/
def af151 : AFunc := ⟨9, [(.tmp 2)],
 (.seq
 (.reg [⟨(some 2), none, (.mv (.c (.int .i64 0)))⟩])
 (.seq
 (.seq
 (.reg [⟨(some 3), none, (.mv (.t 0))⟩,
   ⟨(some 4), none, (.bin .lss .num (.t 3) (.c (.int .i64 0)))⟩])
 (.cond (.t 4)
 (.seq
 (.reg [⟨(some 5), none, (.mv (.t 0))⟩,
   ⟨(some 6), none, (.bin .add .num (.t 5) (.c (.int .i64 1000000)))⟩,
   ⟨(some 2), none, (.mv (.t 6))⟩]) .ret) .skip))
 (.seq
 (.reg [⟨(some 7), none, (.mv (.t 0))⟩,
   ⟨(some 8), none, (.call 124 [(.t 7), (.c (.int .i64 1000000))])⟩,
   ⟨(some 2), none, (.mv (.t 8))⟩]) .ret)))⟩
theorem caf151 : cFunc Tryz.prog Tryz.f151 = some af151 := by kernel_rfl
def af152_l0 : AC :=
 (.seq
 (.seq
 (.reg [⟨(some 14), none, (.mv (.t 6))⟩])
 (.cond (.t 14) .skip (.exit 0)))
 (.seq
 (.block 1
 (.reg [⟨(some 21), none, (.mv (.t 5))⟩,
   ⟨(some 22), none, (.loadN 3 (.t 4))⟩,
   ⟨(some 23), none, (.buildSlice 3 [(.int .u32 0), (.int .u64 0), (.int .i64 0)] 1 [(0, (3, (.t 22)))])⟩,
   ⟨(some 24), none, (.append 3 24 (.t 21) (.t 23))⟩,
   ⟨(some 5), none, (.mv (.t 24))⟩]))
 (.reg [⟨(some 16), none, (.mv (.t 3))⟩,
   ⟨(some 17), none, (.loadN 3 (.t 4))⟩,
   ⟨(some 18), none, (.call 217 [(.t 16), (.t 17)])⟩,
   ⟨(some 15), none, (.mv (.t 18))⟩,
   ⟨(some 19), none, (.extract 0 (.t 15))⟩,
   ⟨(some 20), none, (.extract 1 (.t 15))⟩,
   ⟨none, none, (.store 3 (.t 4) (.t 19))⟩,
   ⟨(some 6), none, (.mv (.t 20))⟩])))
/-- limelight/bound.Set -/
def af152 : AFunc := ⟨27, [(.tmp 2)],
 (.seq
 (.reg [⟨(some 2), none, (.mv (.c (.slice none 0 0 none)))⟩])
 (.seq
 (.reg [⟨(some 7), none, (.mv (.t 0))⟩,
   ⟨(some 8), none, (.call 213 [(.t 7)])⟩,
   ⟨(some 3), none, (.mv (.t 8))⟩])
 (.seq
 (.seq
 (.reg [⟨(some 9), none, (.mv (.t 3))⟩,
   ⟨(some 10), none, (.len (.t 9))⟩,
   ⟨(some 11), none, (.bin .eql .num (.t 10) (.c (.int .i64 0)))⟩])
 (.cond (.t 11)
 (.seq
 (.reg [⟨(some 2), none, (.mv (.c (.slice none 0 0 none)))⟩]) .ret) .skip))
 (.seq
 (.reg [⟨(some 12), none, (.mv (.t 3))⟩,
   ⟨(some 13), none, (.call 214 [(.t 12), (.c (.func 215 []))])⟩,
   ⟨(some 4), none, (.alloc [(.int .u32 0), (.int .u64 0), (.int .i64 0)])⟩,
   ⟨none, none, (.store 3 (.t 4) (.t 13))⟩])
 (.seq
 (.reg [⟨(some 5), none, (.mv (.c (.slice none 0 0 none)))⟩])
 (.seq
 (.seq
 (.reg [⟨(some 6), none, (.mv (.c (.bool true)))⟩])
 (.block 0
 (.loop af152_l0)))
 (.seq
 (.reg [⟨(some 25), none, (.mv (.t 5))⟩,
   ⟨(some 26), none, (.call 218 [(.t 25)])⟩,
   ⟨(some 2), none, (.mv (.t 26))⟩]) .ret)))))))⟩
theorem caf152 : cFunc Tryz.prog Tryz.f152 = some af152 := by kernel_rfl
def af154_l0 : AC :=
 (.seq
 (.reg [⟨(some 12), none, (.bin .lss .num (.t 11) (.t 10))⟩])
 (.seq
 (.cond (.t 12) .skip (.exit 0))
 (.seq
 (.block 1
 (.seq
 (.reg [⟨(some 13), none, (.ixSlice 10 (.t 9) (.t 11))⟩,
   ⟨(some 14), none, (.loadN 10 (.t 13))⟩,
   ⟨(some 5), none, (.alloc [(.str []), (.int .u32 0), (.int .i64 0), (.ptr none), (.ptr none), (.bool false), (.int .i64 0), (.bool false), (.bool false), (.int .i64 0)])⟩,
   ⟨none, none, (.store 10 (.t 5) (.t 14))⟩])
 (.reg [⟨(some 15), none, (.mv (.t 3))⟩,
   ⟨(some 16), none, (.fieldAddr 0 3 (.t 5))⟩,
   ⟨(some 17), none, (.loadN 3 (.t 16))⟩,
   ⟨(some 18), none, (.buildSlice 3 [(.str []), (.int .u32 0), (.int .i64 0)] 1 [(0, (3, (.t 17)))])⟩,
   ⟨(some 19), none, (.append 3 32 (.t 15) (.t 18))⟩,
   ⟨(some 3), none, (.mv (.t 19))⟩])))
 (.reg [⟨(some 20), none, (.bin .add .num (.t 11) (.c (.int .i64 1)))⟩,
   ⟨(some 11), none, (.mv (.t 20))⟩]))))
/-- (*limelight/layer.Layers).Table -/
def af154 : AFunc := ⟨23, [(.tmp 2)],
 (.seq
 (.reg [⟨(some 2), none, (.mv (.c (.slice none 0 0 none)))⟩])
 (.seq
 (.reg [⟨(some 3), none, (.mv (.c (.slice none 0 0 none)))⟩])
 (.seq
 (.seq
 (.reg [⟨(some 6), none, (.mv (.t 0))⟩,
   ⟨(some 7), none, (.nilCheck (.t 6))⟩,
   ⟨(some 8), none, (.fieldAddr 0 1 (.t 7))⟩,
   ⟨(some 9), none, (.load1 (.t 8))⟩,
   ⟨(some 10), none, (.len (.t 9))⟩,
   ⟨(some 11), none, (.mv (.c (.int .i64 0)))⟩])
 (.block 0
 (.loop af154_l0)))
 (.seq
 (.reg [⟨(some 21), none, (.mv (.t 3))⟩,
   ⟨(some 22), none, (.call 127 [(.t 21)])⟩,
   ⟨(some 2), none, (.mv (.t 22))⟩]) .ret))))⟩
theorem caf154 : cFunc Tryz.prog Tryz.f154 = some af154 := by kernel_rfl
def af155_l0 : AC :=
 (.seq
 (.seq
 (.reg [⟨(some 20), none, (.mv (.t 7))⟩,
   ⟨(some 21), none, (.mv (.t 1))⟩,
   ⟨(some 22), none, (.len (.t 21))⟩,
   ⟨(some 23), none, (.bin .lss .num (.t 20) (.t 22))⟩])
 (.cond (.t 23) .skip (.exit 0)))
 (.block 1
 (.seq
 (.seq
 (.reg [⟨(some 24), none, (.mv (.t 1))⟩,
   ⟨(some 25), none, (.mv (.t 7))⟩,
   ⟨(some 26), none, (.ixSlice 1 (.t 24) (.t 25))⟩,
   ⟨(some 27), none, (.load1 (.t 26))⟩,
   ⟨(some 28), none, (.bin .eql .num (.t 27) (.c (.int .u8 0)))⟩])
 (.cond (.t 28)
 (.seq
 (.reg [⟨(some 29), none, (.mv (.t 7))⟩,
   ⟨(some 30), none, (.bin .add .num (.t 29) (.c (.int .i64 1)))⟩,
   ⟨(some 7), none, (.mv (.t 30))⟩]) (.exit 1)) .skip))
 (.seq
 (.reg [⟨(some 32), none, (.mv (.t 0))⟩,
   ⟨(some 33), none, (.mv (.t 1))⟩,
   ⟨(some 34), none, (.mv (.t 7))⟩,
   ⟨(some 35), none, (.call 219 [(.t 32), (.t 33), (.t 34)])⟩,
   ⟨(some 31), none, (.mv (.t 35))⟩,
   ⟨(some 36), none, (.extract 0 (.t 31))⟩,
   ⟨(some 37), none, (.extract 1 (.t 31))⟩,
   ⟨(some 38), none, (.extract 2 (.t 31))⟩,
   ⟨(some 39), none, (.extract 3 (.t 31))⟩,
   ⟨(some 8), none, (.mv (.t 36))⟩,
   ⟨(some 9), none, (.mv (.t 37))⟩,
   ⟨(some 10), none, (.mv (.t 38))⟩,
   ⟨(some 11), none, (.mv (.t 39))⟩])
 (.seq
 (.seq
 (.reg [⟨(some 40), none, (.mv (.t 11))⟩,
   ⟨(some 41), none, (.un .not (.t 40))⟩])
 (.cond (.t 41) (.exit 0) .skip))
 (.seq
 (.reg [⟨(some 43), none, (.mv (.t 1))⟩,
   ⟨(some 44), none, (.mv (.t 10))⟩,
   ⟨(some 45), none, (.mv (.t 9))⟩,
   ⟨(some 46), none, (.call 117 [(.t 43), (.t 44), (.t 45)])⟩,
   ⟨(some 42), none, (.mv (.t 46))⟩,
   ⟨(some 47), none, (.extract 0 (.t 42))⟩,
   ⟨(some 48), none, (.extract 1 (.t 42))⟩,
   ⟨(some 12), none, (.mv (.t 47))⟩,
   ⟨(some 13), none, (.mv (.t 48))⟩])
 (.seq
 (.seq
 (.reg [⟨(some 49), none, (.mv (.t 13))⟩,
   ⟨(some 50), none, (.un .not (.t 49))⟩])
 (.cond (.t 50)
 (.seq
 (.reg [⟨(some 4), none, (.mv (.c (.slice none 0 0 none)))⟩,
   ⟨(some 5), none, (.mv (.c (.int .i64 13)))⟩]) .ret) .skip))
 (.seq
 (.reg [⟨(some 51), none, (.mv (.t 6))⟩,
   ⟨(some 52), none, (.mv (.t 8))⟩,
   ⟨(some 53), none, (.mv (.t 12))⟩,
   ⟨(some 54), none, (.build [(.int .i64 0), (.slice none 0 0 none)] [(0, (1, (.t 52))), (1, (1, (.t 53)))])⟩,
   ⟨(some 55), none, (.buildSlice 2 [(.int .i64 0), (.slice none 0 0 none)] 1 [(0, (2, (.t 54)))])⟩,
   ⟨(some 56), none, (.append 2 32 (.t 51) (.t 55))⟩,
   ⟨(some 6), none, (.mv (.t 56))⟩])
 (.reg [⟨(some 57), none, (.mv (.t 10))⟩,
   ⟨(some 58), none, (.mv (.t 9))⟩,
   ⟨(some 59), none, (.bin .add .num (.t 57) (.t 58))⟩,
   ⟨(some 7), none, (.mv (.t 59))⟩])))))))))
/-- limelight/ext.Read -/
def af155 : AFunc := ⟨65, [(.tmp 4), (.tmp 5)],
 (.seq
 (.reg [⟨(some 4), none, (.mv (.c (.slice none 0 0 none)))⟩,
   ⟨(some 5), none, (.mv (.c (.int .i64 0)))⟩])
 (.seq
 (.seq
 (.reg [⟨(some 14), none, (.mv (.t 0))⟩,
   ⟨(some 15), none, (.bin .neq .num (.t 14) (.c (.int .u16 48862)))⟩,
   ⟨(some 16), none, (.mv (.t 15))⟩,
   ⟨(some 17), (some (16, true)), (.mv (.t 0))⟩,
   ⟨(some 18), (some (16, true)), (.bin .neq .num (.t 17) (.c (.int .u16 4096)))⟩,
   ⟨(some 19), none, (.pick (.t 16) (.t 18) (.c (.bool false)))⟩])
 (.cond (.t 19)
 (.seq
 (.reg [⟨(some 4), none, (.mv (.c (.slice none 0 0 none)))⟩,
   ⟨(some 5), none, (.mv (.c (.int .i64 1)))⟩]) .ret) .skip))
 (.seq
 (.reg [⟨(some 6), none, (.mv (.c (.slice none 0 0 none)))⟩])
 (.seq
 (.seq
 (.reg [⟨(some 7), none, (.mv (.c (.int .i64 0)))⟩])
 (.block 0
 (.loop af155_l0)))
 (.seq
 (.seq
 (.reg [⟨(some 60), none, (.mv (.t 6))⟩,
   ⟨(some 61), none, (.len (.t 60))⟩,
   ⟨(some 62), none, (.bin .gtr .num (.t 61) (.c (.int .i64 8)))⟩])
 (.cond (.t 62)
 (.seq
 (.reg [⟨(some 4), none, (.mv (.c (.slice none 0 0 none)))⟩,
   ⟨(some 5), none, (.mv (.c (.int .i64 3)))⟩]) .ret) .skip))
 (.seq
 (.reg [⟨(some 63), none, (.mv (.t 6))⟩,
   ⟨(some 64), none, (.call 220 [(.t 63)])⟩,
   ⟨(some 4), none, (.mv (.t 64))⟩,
   ⟨(some 5), none, (.mv (.c (.int .i64 0)))⟩]) .ret))))))⟩
theorem caf155 : cFunc Tryz.prog Tryz.f155 = some af155 := by kernel_rfl
/-- limelight/ext.Find -/
def af156 : AFunc := ⟨18, [(.tmp 4), (.tmp 5)],
 (.seq
 (.reg [⟨(some 3), none, (.box (.t 1))⟩,
   ⟨(some 4), none, (.mv (.c (.slice none 0 0 none)))⟩,
   ⟨(some 5), none, (.mv (.c (.bool false)))⟩])
 (.seq
 (.reg [⟨(some 7), none, (.mv (.t 0))⟩,
   ⟨(some 8), none, (.mkFunc 222 [(.t 3)])⟩,
   ⟨(some 9), none, (.call 221 [(.t 7), (.t 8)])⟩,
   ⟨(some 6), none, (.mv (.t 9))⟩])
 (.seq
 (.seq
 (.reg [⟨(some 10), none, (.mv (.t 6))⟩,
   ⟨(some 11), none, (.bin .lss .num (.t 10) (.c (.int .i64 0)))⟩])
 (.cond (.t 11)
 (.seq
 (.reg [⟨(some 4), none, (.mv (.c (.slice none 0 0 none)))⟩,
   ⟨(some 5), none, (.mv (.c (.bool false)))⟩]) .ret) .skip))
 (.seq
 (.reg [⟨(some 12), none, (.mv (.t 0))⟩,
   ⟨(some 13), none, (.mv (.t 6))⟩,
   ⟨(some 14), none, (.ixSlice 2 (.t 12) (.t 13))⟩,
   ⟨(some 15), none, (.fieldAddr 1 1 (.t 14))⟩,
   ⟨(some 16), none, (.load1 (.t 15))⟩,
   ⟨(some 17), none, (.call 116 [(.t 16)])⟩,
   ⟨(some 4), none, (.mv (.t 17))⟩,
   ⟨(some 5), none, (.mv (.c (.bool true)))⟩]) .ret))))⟩
theorem caf156 : cFunc Tryz.prog Tryz.f156 = some af156 := by kernel_rfl
def af157_l0 : AC :=
 (.seq
 (.reg [⟨(some 8), none, (.next (.t 7))⟩,
   ⟨(some 9), none, (.extract 0 (.t 8))⟩])
 (.seq
 (.cond (.t 9) .skip (.exit 0))
 (.block 1
 (.seq
 (.reg [⟨(some 10), none, (.extract 2 (.t 8))⟩,
   ⟨(some 5), none, (.mv (.t 10))⟩])
 (.seq
 (.reg [⟨(some 11), none, (.mv (.t 3))⟩,
   ⟨(some 12), none, (.bin .add .num (.t 11) (.c (.int .i64 1)))⟩,
   ⟨(some 3), none, (.mv (.t 12))⟩])
 (.seq
 (.reg [⟨(some 13), none, (.mv (.t 5))⟩,
   ⟨(some 14), none, (.call 223 [(.t 13)])⟩,
   ⟨(some 15), none, (.un .not (.t 14))⟩])
 (.cond (.t 15)
 (.seq
 (.reg [⟨(some 2), none, (.mv (.c (.bool false)))⟩]) .ret) .skip)))))))
/-- limelight/rid.Right -/
def af157 : AFunc := ⟨22, [(.tmp 2)],
 (.seq
 (.reg [⟨(some 2), none, (.mv (.c (.bool false)))⟩])
 (.seq
 (.reg [⟨(some 3), none, (.mv (.c (.int .i64 0)))⟩])
 (.seq
 (.seq
 (.reg [⟨(some 6), none, (.mv (.t 0))⟩,
   ⟨(some 7), none, (.range (.t 6))⟩])
 (.block 0
 (.loop af157_l0)))
 (.seq
 (.reg [⟨(some 16), none, (.mv (.t 3))⟩,
   ⟨(some 17), none, (.bin .geq .num (.t 16) (.c (.int .i64 1)))⟩,
   ⟨(some 18), none, (.mv (.t 17))⟩,
   ⟨(some 19), (some (18, true)), (.mv (.t 3))⟩,
   ⟨(some 20), (some (18, true)), (.bin .leq .num (.t 19) (.c (.int .i64 8)))⟩,
   ⟨(some 21), none, (.pick (.t 18) (.t 20) (.c (.bool false)))⟩,
   ⟨(some 2), none, (.mv (.t 21))⟩]) .ret))))⟩
theorem caf157 : cFunc Tryz.prog Tryz.f157 = some af157 := by kernel_rfl
def af158_l0 : AC :=
 (.seq
 (.reg [⟨(some 8), none, (.next (.t 7))⟩,
   ⟨(some 9), none, (.extract 0 (.t 8))⟩])
 (.seq
 (.cond (.t 9) .skip (.exit 0))
 (.block 1
 (.seq
 (.reg [⟨(some 10), none, (.extract 2 (.t 8))⟩,
   ⟨(some 5), none, (.mv (.t 10))⟩])
 (.seq
 (.seq
 (.reg [⟨(some 11), none, (.mv (.t 5))⟩,
   ⟨(some 12), none, (.bin .geq .num (.t 11) (.c (.int .i32 65)))⟩,
   ⟨(some 13), none, (.mv (.t 12))⟩,
   ⟨(some 14), (some (13, true)), (.mv (.t 5))⟩,
   ⟨(some 15), (some (13, true)), (.bin .leq .num (.t 14) (.c (.int .i32 90)))⟩,
   ⟨(some 16), none, (.pick (.t 13) (.t 15) (.c (.bool false)))⟩])
 (.cond (.t 16)
 (.reg [⟨(some 17), none, (.mv (.t 5))⟩,
   ⟨(some 18), none, (.bin .add .num (.t 17) (.c (.int .i32 32)))⟩,
   ⟨(some 5), none, (.mv (.t 18))⟩]) .skip))
 (.reg [⟨(some 19), none, (.mv (.t 3))⟩,
   ⟨(some 20), none, (.mv (.t 5))⟩,
   ⟨(some 21), none, (.buildSlice 1 [(.int .i32 0)] 1 [(0, (1, (.t 20)))])⟩,
   ⟨(some 22), none, (.append 1 4 (.t 19) (.t 21))⟩,
   ⟨(some 3), none, (.mv (.t 22))⟩]))))))
/-- limelight/rid.Fold -/
def af158 : AFunc := ⟨25, [(.tmp 2)],
 (.seq
 (.reg [⟨(some 2), none, (.mv (.c (.str [])))⟩])
 (.seq
 (.reg [⟨(some 3), none, (.mv (.c (.slice none 0 0 none)))⟩])
 (.seq
 (.seq
 (.reg [⟨(some 6), none, (.mv (.t 0))⟩,
   ⟨(some 7), none, (.range (.t 6))⟩])
 (.block 0
 (.loop af158_l0)))
 (.seq
 (.reg [⟨(some 23), none, (.mv (.t 3))⟩,
   ⟨(some 24), none, (.conv .runesStr (.t 23))⟩,
   ⟨(some 2), none, (.mv (.t 24))⟩]) .ret))))⟩
theorem caf158 : cFunc Tryz.prog Tryz.f158 = some af158 := by kernel_rfl
/-- limelight/seq.Extend -/
def af159 : AFunc := ⟨9, [(.tmp 4)],
 (.seq
 (.reg [⟨(some 4), none, (.mv (.c (.int .i64 0)))⟩])
 (.seq
 (.reg [⟨(some 5), none, (.mv (.t 0))⟩,
   ⟨(some 6), none, (.mv (.t 1))⟩,
   ⟨(some 7), none, (.conv (.int .i64) (.t 6))⟩,
   ⟨(some 8), none, (.call 224 [(.t 5), (.t 7), (.c (.int .i64 16))])⟩,
   ⟨(some 4), none, (.mv (.t 8))⟩]) .ret))⟩
theorem caf159 : cFunc Tryz.prog Tryz.f159 = some af159 := by kernel_rfl
/-- limelight/meter.slot -/
def af160 : AFunc := ⟨6, [(.tmp 2)],
 (.seq
 (.reg [⟨(some 2), none, (.mv (.c (.int .i64 0)))⟩])
 (.seq
 (.reg [⟨(some 3), none, (.mv (.t 0))⟩,
   ⟨(some 4), none, (.mx [(.c (.int .i64 0)), (.t 3)])⟩,
   ⟨(some 5), none, (.bin .quo .num (.t 4) (.c (.int .i64 100000)))⟩,
   ⟨(some 2), none, (.mv (.t 5))⟩]) .ret))⟩
theorem caf160 : cFunc Tryz.prog Tryz.f160 = some af160 := by kernel_rfl
/-- limelight/seq.Stamp -/
def af161 : AFunc := ⟨9, [(.tmp 4)],
 (.seq
 (.reg [⟨(some 4), none, (.mv (.c (.int .i64 0)))⟩])
 (.seq
 (.reg [⟨(some 5), none, (.mv (.t 0))⟩,
   ⟨(some 6), none, (.mv (.t 1))⟩,
   ⟨(some 7), none, (.conv (.int .i64) (.t 6))⟩,
   ⟨(some 8), none, (.call 224 [(.t 5), (.t 7), (.c (.int .i64 32))])⟩,
   ⟨(some 4), none, (.mv (.t 8))⟩]) .ret))⟩
theorem caf161 : cFunc Tryz.prog Tryz.f161 = some af161 := by kernel_rfl
/-- (*limelight/write.Writer).begin -/
def af162 : AFunc := ⟨64, [],
 (.seq
 (.reg [⟨(some 7), none, (.box (.t 3))⟩])
 (.seq
 (.reg [⟨(some 9), none, (.fieldAddr 3 1 (.t 7))⟩,
   ⟨(some 10), none, (.load1 (.t 9))⟩,
   ⟨(some 11), none, (.conv (.int .i64) (.t 10))⟩,
   ⟨(some 8), none, (.mv (.t 11))⟩])
 (.seq
 (.seq
 (.reg [⟨(some 12), none, (.mv (.t 0))⟩,
   ⟨(some 13), none, (.nilCheck (.t 12))⟩,
   ⟨(some 14), none, (.fieldAddr 4 1 (.t 13))⟩,
   ⟨(some 15), none, (.load1 (.t 14))⟩,
   ⟨(some 16), none, (.bin .geq .num (.t 15) (.c (.int .i64 0)))⟩])
 (.cond (.t 16)
 (.reg [⟨(some 17), none, (.mv (.t 0))⟩,
   ⟨(some 18), none, (.nilCheck (.t 17))⟩,
   ⟨(some 19), none, (.fieldAddr 5 1 (.t 18))⟩,
   ⟨(some 20), none, (.load1 (.t 19))⟩,
   ⟨(some 21), none, (.call 124 [(.t 20), (.c (.int .i64 1))])⟩,
   ⟨(some 8), none, (.mv (.t 21))⟩]) .skip))
 (.seq
 (.reg [⟨(some 22), none, (.mv (.t 0))⟩,
   ⟨(some 23), none, (.mv (.t 1))⟩,
   ⟨(some 24), none, (.nilCheck (.t 22))⟩,
   ⟨(some 25), none, (.fieldAddr 1 1 (.t 24))⟩,
   ⟨none, none, (.store 1 (.t 25) (.t 23))⟩])
 (.seq
 (.reg [⟨(some 26), none, (.mv (.t 0))⟩,
   ⟨(some 27), none, (.nilCheck (.t 26))⟩,
   ⟨(some 28), none, (.fieldAddr 3 1 (.t 27))⟩,
   ⟨(some 29), none, (.load1 (.t 28))⟩,
   ⟨(some 30), none, (.bin .add .num (.t 29) (.c (.int .i64 1)))⟩,
   ⟨(some 31), none, (.nilCheck (.t 26))⟩,
   ⟨(some 32), none, (.fieldAddr 3 1 (.t 31))⟩,
   ⟨none, none, (.store 1 (.t 32) (.t 30))⟩])
 (.seq
 (.reg [⟨(some 33), none, (.mv (.t 0))⟩,
   ⟨(some 34), none, (.fieldAddr 3 1 (.t 7))⟩,
   ⟨(some 35), none, (.load1 (.t 34))⟩,
   ⟨(some 36), none, (.conv (.int .i64) (.t 35))⟩,
   ⟨(some 37), none, (.nilCheck (.t 33))⟩,
   ⟨(some 38), none, (.fieldAddr 7 1 (.t 37))⟩,
   ⟨none, none, (.store 1 (.t 38) (.t 36))⟩])
 (.seq
 (.reg [⟨(some 39), none, (.mv (.t 0))⟩,
   ⟨(some 40), none, (.mv (.t 8))⟩,
   ⟨(some 41), none, (.mv (.t 0))⟩,
   ⟨(some 42), none, (.nilCheck (.t 41))⟩,
   ⟨(some 43), none, (.fieldAddr 7 1 (.t 42))⟩,
   ⟨(some 44), none, (.load1 (.t 43))⟩,
   ⟨(some 45), none, (.bin .sub .num (.t 40) (.t 44))⟩,
   ⟨(some 46), none, (.nilCheck (.t 39))⟩,
   ⟨(some 47), none, (.fieldAddr 8 1 (.t 46))⟩,
   ⟨none, none, (.store 1 (.t 47) (.t 45))⟩])
 (.reg [⟨(some 48), none, (.mv (.t 0))⟩,
   ⟨(some 49), none, (.mv (.t 0))⟩,
   ⟨(some 50), none, (.mv (.t 0))⟩,
   ⟨(some 51), none, (.mv (.t 0))⟩,
   ⟨(some 52), none, (.nilCheck (.t 51))⟩,
   ⟨(some 53), none, (.fieldAddr 4 1 (.t 52))⟩,
   ⟨(some 54), none, (.load1 (.t 53))⟩,
   ⟨(some 55), none, (.call 225 [(.t 54)])⟩,
   ⟨(some 56), none, (.mv (.t 8))⟩,
   ⟨(some 57), none, (.mv (.t 2))⟩,
   ⟨(some 58), none, (.nilCheck (.t 48))⟩,
   ⟨(some 59), none, (.fieldAddr 4 1 (.t 58))⟩,
   ⟨none, none, (.store 1 (.t 59) (.t 55))⟩,
   ⟨(some 60), none, (.nilCheck (.t 49))⟩,
   ⟨(some 61), none, (.fieldAddr 5 1 (.t 60))⟩,
   ⟨none, none, (.store 1 (.t 61) (.t 56))⟩,
   ⟨(some 62), none, (.nilCheck (.t 50))⟩,
   ⟨(some 63), none, (.fieldAddr 6 1 (.t 62))⟩,
   ⟨none, none, (.store 1 (.t 63) (.t 57))⟩]))))))))⟩
theorem caf162 : cFunc Tryz.prog Tryz.f162 = some af162 := by kernel_rfl
/-- limelight/rtp.Right -/
def af163 : AFunc := ⟨40, [(.tmp 2)],
 (.seq
 (.reg [⟨(some 1), none, (.box (.t 0))⟩,
   ⟨(some 2), none, (.mv (.c (.int .i64 0)))⟩])
 (.seq
 (.block 0
 (.seq
 (.reg [⟨(some 4), none, (.fieldAddr 1 1 (.t 1))⟩,
   ⟨(some 5), none, (.load1 (.t 4))⟩,
   ⟨(some 6), none, (.bin .lss .num (.t 5) (.c (.int .i64 0)))⟩,
   ⟨(some 7), none, (.mv (.t 6))⟩,
   ⟨(some 8), (some (7, false)), (.fieldAddr 1 1 (.t 1))⟩,
   ⟨(some 9), (some (7, false)), (.load1 (.t 8))⟩,
   ⟨(some 10), (some (7, false)), (.bin .gtr .num (.t 9) (.c (.int .i64 127)))⟩,
   ⟨(some 11), none, (.pick (.t 7) (.c (.bool true)) (.t 10))⟩,
   ⟨(some 12), none, (.mv (.t 11))⟩,
   ⟨(some 13), (some (12, false)), (.fieldAddr 5 1 (.t 1))⟩,
   ⟨(some 14), (some (12, false)), (.load1 (.t 13))⟩,
   ⟨(some 15), (some (12, false)), (.len (.t 14))⟩,
   ⟨(some 16), (some (12, false)), (.bin .gtr .num (.t 15) (.c (.int .i64 15)))⟩,
   ⟨(some 17), none, (.pick (.t 12) (.c (.bool true)) (.t 16))⟩,
   ⟨(some 18), none, (.mv (.t 17))⟩,
   ⟨(some 19), (some (18, false)), (.fieldAddr 7 1 (.t 1))⟩,
   ⟨(some 20), (some (18, false)), (.load1 (.t 19))⟩,
   ⟨(some 21), (some (18, false)), (.len (.t 20))⟩,
   ⟨(some 22), (some (18, false)), (.bin .rem .num (.t 21) (.c (.int .i64 4)))⟩,
   ⟨(some 23), (some (18, false)), (.bin .neq .num (.t 22) (.c (.int .i64 0)))⟩,
   ⟨(some 24), none, (.pick (.t 18) (.c (.bool true)) (.t 23))⟩,
   ⟨(some 25), none, (.mv (.t 24))⟩,
   ⟨(some 26), (some (25, false)), (.fieldAddr 6 1 (.t 1))⟩,
   ⟨(some 27), (some (25, false)), (.load1 (.t 26))⟩,
   ⟨(some 28), (some (25, false)), (.bin .eql .num (.t 27) (.c (.int .u16 0)))⟩,
   ⟨(some 29), (some (25, false)), (.mv (.t 28))⟩,
   ⟨(some 30), (some (29, true)), (.fieldAddr 7 1 (.t 1))⟩,
   ⟨(some 31), (some (29, true)), (.load1 (.t 30))⟩,
   ⟨(some 32), (some (29, true)), (.len (.t 31))⟩,
   ⟨(some 33), (some (29, true)), (.bin .gtr .num (.t 32) (.c (.int .i64 0)))⟩,
   ⟨(some 34), (some (25, false)), (.pick (.t 29) (.t 33) (.c (.bool false)))⟩,
   ⟨(some 35), none, (.pick (.t 25) (.c (.bool true)) (.t 34))⟩,
   ⟨(some 3), none, (.mv (.t 35))⟩])
 (.cond (.t 3)
 (.seq
 (.reg [⟨(some 2), none, (.mv (.c (.int .i64 1)))⟩]) .ret)
 (.seq
 (.reg [⟨(some 37), none, (.loadN 9 (.t 1))⟩,
   ⟨(some 38), none, (.call 226 [(.t 37)])⟩,
   ⟨(some 39), none, (.bin .gtr .num (.t 38) (.c (.int .i64 1500)))⟩,
   ⟨(some 36), none, (.mv (.t 39))⟩])
 (.cond (.t 36)
 (.seq
 (.reg [⟨(some 2), none, (.mv (.c (.int .i64 3)))⟩]) .ret) .skip)))))
 (.seq
 (.reg [⟨(some 2), none, (.mv (.c (.int .i64 0)))⟩]) .ret)))⟩
theorem caf163 : cFunc Tryz.prog Tryz.f163 = some af163 := by kernel_rfl
/-- (*limelight/pace.Queue).Put -/
def af164 : AFunc := ⟨39, [(.tmp 4)],
 (.seq
 (.reg [⟨(some 4), none, (.mv (.c (.bool false)))⟩])
 (.seq
 (.seq
 (.dreg [⟨(some 5), none, (.mv (.t 0))⟩,
   ⟨(some 6), none, (.nilCheck (.t 5))⟩,
   ⟨(some 7), none, (.fieldAddr 0 1 (.t 6))⟩,
   ⟨(some 8), none, (.load1 (.t 7))⟩,
   ⟨(some 9), none, (.len (.t 8))⟩,
   ⟨(some 10), none, (.bin .geq .num (.t 9) (.c (.int .i64 16)))⟩,
   ⟨(some 11), none, (.mv (.t 10))⟩,
   ⟨(some 12), (some (11, false)), (.mv (.t 1))⟩,
   ⟨(some 13), (some (11, false)), (.call 111 [(.t 12)])⟩,
   ⟨(some 14), (some (11, false)), (.mv (.t 0))⟩,
   ⟨(some 15), (some (11, false)), (.nilCheck (.t 14))⟩,
   ⟨(some 16), (some (11, false)), (.fieldAddr 1 1 (.t 15))⟩,
   ⟨(some 17), (some (11, false)), (.load1 (.t 16))⟩,
   ⟨(some 18), (some (11, false)), (.call 227 [(.t 17)])⟩,
   ⟨(some 19), (some (11, false)), (.bin .gtr .num (.t 13) (.t 18))⟩,
   ⟨(some 20), none, (.pick (.t 11) (.c (.bool true)) (.t 19))⟩] [(12, 8)])
 (.cond (.t 20)
 (.seq
 (.reg [⟨(some 21), none, (.mv (.t 0))⟩,
   ⟨(some 22), none, (.nilCheck (.t 21))⟩,
   ⟨(some 23), none, (.fieldAddr 2 1 (.t 22))⟩,
   ⟨(some 24), none, (.load1 (.t 23))⟩,
   ⟨(some 25), none, (.bin .add .num (.t 24) (.c (.int .i64 1)))⟩,
   ⟨(some 26), none, (.nilCheck (.t 21))⟩,
   ⟨(some 27), none, (.fieldAddr 2 1 (.t 26))⟩,
   ⟨none, none, (.store 1 (.t 27) (.t 25))⟩])
 (.seq
 (.reg [⟨(some 4), none, (.mv (.c (.bool false)))⟩]) .ret)) .skip))
 (.seq
 (.dreg [⟨(some 28), none, (.mv (.t 0))⟩,
   ⟨(some 29), none, (.mv (.t 0))⟩,
   ⟨(some 30), none, (.nilCheck (.t 29))⟩,
   ⟨(some 31), none, (.fieldAddr 0 1 (.t 30))⟩,
   ⟨(some 32), none, (.load1 (.t 31))⟩,
   ⟨(some 33), none, (.mv (.t 1))⟩,
   ⟨(some 34), none, (.call 116 [(.t 33)])⟩,
   ⟨(some 35), none, (.buildSlice 1 [(.slice none 0 0 none)] 1 [(0, (1, (.t 34)))])⟩,
   ⟨(some 36), none, (.append 1 24 (.t 32) (.t 35))⟩,
   ⟨(some 37), none, (.nilCheck (.t 28))⟩,
   ⟨(some 38), none, (.fieldAddr 0 1 (.t 37))⟩,
   ⟨none, none, (.store 1 (.t 38) (.t 36))⟩] [(4, 7), (4, 8)])
 (.seq
 (.reg [⟨(some 4), none, (.mv (.c (.bool true)))⟩]) .ret))))⟩
theorem caf164 : cFunc Tryz.prog Tryz.f164 = some af164 := by kernel_rfl
/-- slices.Clone[[]limelight/alarm.Due,limelight/alarm.Due] -/
def af165 : AFunc := ⟨8, [(.tmp 2)],
 (.seq
 (.reg [⟨(some 2), none, (.mv (.c (.slice none 0 0 none)))⟩])
 (.seq
 (.seq
 (.reg [⟨(some 3), none, (.mv (.t 0))⟩,
   ⟨(some 4), none, (.bin .eql .slc (.t 3) (.c (.slice none 0 0 none)))⟩])
 (.cond (.t 4)
 (.seq
 (.reg [⟨(some 2), none, (.mv (.c (.slice none 0 0 none)))⟩]) .ret) .skip))
 (.seq
 (.reg [⟨(some 5), none, (.buildSlice 2 [(.int .i64 0), (.int .u64 0)] 0 [])⟩,
   ⟨(some 6), none, (.mv (.t 0))⟩,
   ⟨(some 7), none, (.append 2 16 (.t 5) (.t 6))⟩,
   ⟨(some 2), none, (.mv (.t 7))⟩]) .ret)))⟩
theorem caf165 : cFunc Tryz.prog Tryz.f165 = some af165 := by kernel_rfl
def af166_l0 : AC :=
 (.seq
 (.reg [⟨(some 9), none, (.bin .lss .num (.t 8) (.t 7))⟩])
 (.seq
 (.cond (.t 9) .skip (.exit 0))
 (.seq
 (.block 1
 (.seq
 (.reg [⟨(some 10), none, (.mv (.t 8))⟩,
   ⟨(some 5), none, (.mv (.t 10))⟩])
 (.seq
 (.reg [⟨(some 11), none, (.mv (.t 1))⟩,
   ⟨(some 12), none, (.mv (.t 0))⟩,
   ⟨(some 13), none, (.mv (.t 5))⟩,
   ⟨(some 14), none, (.ixSlice 3 (.t 12) (.t 13))⟩,
   ⟨(some 15), none, (.loadN 3 (.t 14))⟩,
   ⟨(some 16), none, (.callV (.t 11) [(.t 15)])⟩])
 (.cond (.t 16)
 (.seq
 (.reg [⟨(some 17), none, (.mv (.t 5))⟩,
   ⟨(some 4), none, (.mv (.t 17))⟩]) .ret) .skip))))
 (.reg [⟨(some 18), none, (.bin .add .num (.t 8) (.c (.int .i64 1)))⟩,
   ⟨(some 8), none, (.mv (.t 18))⟩]))))
/-- slices.IndexFunc[[]limelight/api.Tuple,limelight/api.Tuple] -/
def af166 : AFunc := ⟨19, [(.tmp 4)],
 (.seq
 (.reg [⟨(some 4), none, (.mv (.c (.int .i64 0)))⟩])
 (.seq
 (.seq
 (.reg [⟨(some 6), none, (.mv (.t 0))⟩,
   ⟨(some 7), none, (.len (.t 6))⟩,
   ⟨(some 8), none, (.mv (.c (.int .i64 0)))⟩])
 (.block 0
 (.loop af166_l0)))
 (.seq
 (.reg [⟨(some 4), none, (.mv (.c (.int .i64 (-1))))⟩]) .ret)))⟩
theorem caf166 : cFunc Tryz.prog Tryz.f166 = some af166 := by kernel_rfl
/-- limelight/bucket.held -/
def af167 : AFunc := ⟨6, [(.tmp 2)],
 (.seq
 (.reg [⟨(some 2), none, (.mv (.c (.int .i64 0)))⟩])
 (.seq
 (.reg [⟨(some 3), none, (.mv (.t 0))⟩,
   ⟨(some 4), none, (.mn [(.t 3), (.c (.int .i64 1099511627776))])⟩,
   ⟨(some 5), none, (.mx [(.c (.int .i64 0)), (.t 4)])⟩,
   ⟨(some 2), none, (.mv (.t 5))⟩]) .ret))⟩
theorem caf167 : cFunc Tryz.prog Tryz.f167 = some af167 := by kernel_rfl
def af168_l0 : AC :=
 (.seq
 (.reg [⟨(some 34), none, (.bin .lss .num (.t 33) (.t 32))⟩])
 (.seq
 (.cond (.t 34) .skip (.exit 0))
 (.seq
 (.block 1
 (.reg [⟨(some 35), none, (.mv (.t 7))⟩,
   ⟨(some 36), none, (.buildSlice 1 [(.int .i64 0)] 1 [(0, (1, (.c (.int .i64 (-1)))))])⟩,
   ⟨(some 37), none, (.append 1 8 (.t 35) (.t 36))⟩,
   ⟨(some 7), none, (.mv (.t 37))⟩]))
 (.reg [⟨(some 38), none, (.bin .add .num (.t 33) (.c (.int .i64 1)))⟩,
   ⟨(some 33), none, (.mv (.t 38))⟩]))))
/-- limelight/knap.Best -/
def af168 : AFunc := ⟨41, [(.tmp 4)],
 (.seq
 (.reg [⟨(some 4), none, (.mv (.c (.slice none 0 0 none)))⟩])
 (.seq
 (.reg [⟨(some 8), none, (.mv (.t 0))⟩,
   ⟨(some 9), none, (.len (.t 8))⟩,
   ⟨(some 10), none, (.mn [(.c (.int .i64 8)), (.t 9)])⟩,
   ⟨(some 5), none, (.mv (.t 10))⟩])
 (.seq
 (.seq
 (.reg [⟨(some 11), none, (.mv (.t 5))⟩,
   ⟨(some 12), none, (.bin .eql .num (.t 11) (.c (.int .i64 0)))⟩])
 (.cond (.t 12)
 (.seq
 (.reg [⟨(some 4), none, (.mv (.c (.slice none 0 0 none)))⟩]) .ret) .skip))
 (.seq
 (.dreg [⟨(some 13), none, (.mv (.t 0))⟩,
   ⟨(some 14), none, (.mv (.t 5))⟩,
   ⟨(some 15), none, (.cut 3 (.t 13) none (some (.t 14)) none)⟩,
   ⟨(some 16), none, (.mv (.t 5))⟩,
   ⟨(some 17), none, (.mkSlice 1 8 [(.int .i64 0)] (.t 16) (.t 16))⟩,
   ⟨(some 18), none, (.build [(.slice none 0 0 none), (.slice none 0 0 none), (.slice none 0 0 none), (.int .i64 0), (.int .i64 0), (.int .i64 0), (.int .i64 0), (.int .i64 0)] [(0, (1, (.t 15))), (1, (1, (.t 17)))])⟩,
   ⟨(some 19), none, (.box (.t 18))⟩,
   ⟨(some 6), none, (.mv (.t 19))⟩] [])
 (.seq
 (.reg [⟨(some 20), none, (.mv (.t 6))⟩,
   ⟨(some 21), none, (.mv (.t 1))⟩,
   ⟨(some 22), none, (.mn [(.t 21), (.c (.int .i64 4096))])⟩,
   ⟨(some 23), none, (.mx [(.c (.int .i64 0)), (.t 22)])⟩,
   ⟨(some 24), none, (.call 228 [(.t 20), (.c (.int .i64 0)), (.t 23)])⟩])
 (.seq
 (.reg [⟨(some 25), none, (.mv (.t 6))⟩,
   ⟨(some 26), none, (.nilCheck (.t 25))⟩,
   ⟨(some 27), none, (.fieldAddr 2 1 (.t 26))⟩,
   ⟨(some 28), none, (.load1 (.t 27))⟩,
   ⟨(some 7), none, (.mv (.t 28))⟩])
 (.seq
 (.seq
 (.reg [⟨(some 29), none, (.mv (.t 0))⟩,
   ⟨(some 30), none, (.len (.t 29))⟩,
   ⟨(some 31), none, (.mv (.t 5))⟩,
   ⟨(some 32), none, (.bin .sub .num (.t 30) (.t 31))⟩,
   ⟨(some 33), none, (.mv (.c (.int .i64 0)))⟩])
 (.block 0
 (.loop af168_l0)))
 (.seq
 (.reg [⟨(some 39), none, (.mv (.t 7))⟩,
   ⟨(some 40), none, (.call 69 [(.t 39)])⟩,
   ⟨(some 4), none, (.mv (.t 40))⟩]) .ret))))))))⟩
theorem caf168 : cFunc Tryz.prog Tryz.f168 = some af168 := by kernel_rfl
def af169_l0 : AC :=
 (.seq
 (.reg [⟨(some 17), none, (.bin .lss .num (.t 16) (.t 15))⟩])
 (.seq
 (.cond (.t 17) .skip (.exit 0))
 (.seq
 (.block 1
 (.seq
 (.reg [⟨(some 18), none, (.mv (.t 16))⟩,
   ⟨(some 19), none, (.ixSlice 1 (.t 14) (.t 16))⟩,
   ⟨(some 20), none, (.load1 (.t 19))⟩,
   ⟨(some 7), none, (.mv (.t 18))⟩,
   ⟨(some 8), none, (.mv (.t 20))⟩])
 (.seq
 (.reg [⟨(some 21), none, (.mv (.t 0))⟩,
   ⟨(some 22), none, (.mv (.t 7))⟩,
   ⟨(some 23), none, (.ixSlice 3 (.t 21) (.t 22))⟩,
   ⟨(some 24), none, (.loadN 3 (.t 23))⟩,
   ⟨(some 25), none, (.mv (.t 8))⟩,
   ⟨(some 26), none, (.call 229 [(.t 24), (.t 25)])⟩,
   ⟨(some 27), none, (.un .not (.t 26))⟩])
 (.cond (.t 27)
 (.seq
 (.reg [⟨(some 6), none, (.mv (.c (.bool false)))⟩]) .ret) .skip))))
 (.reg [⟨(some 28), none, (.bin .add .num (.t 16) (.c (.int .i64 1)))⟩,
   ⟨(some 16), none, (.mv (.t 28))⟩]))))
/-- limelight/knap.Fits -/
def af169 : AFunc := ⟨34, [(.tmp 6)],
 (.seq
 (.reg [⟨(some 6), none, (.mv (.c (.bool false)))⟩])
 (.seq
 (.seq
 (.reg [⟨(some 9), none, (.mv (.t 0))⟩,
   ⟨(some 10), none, (.len (.t 9))⟩,
   ⟨(some 11), none, (.mv (.t 1))⟩,
   ⟨(some 12), none, (.len (.t 11))⟩,
   ⟨(some 13), none, (.bin .neq .num (.t 10) (.t 12))⟩])
 (.cond (.t 13)
 (.seq
 (.reg [⟨(some 6), none, (.mv (.c (.bool false)))⟩]) .ret) .skip))
 (.seq
 (.seq
 (.reg [⟨(some 14), none, (.mv (.t 1))⟩,
   ⟨(some 15), none, (.len (.t 14))⟩,
   ⟨(some 16), none, (.mv (.c (.int .i64 0)))⟩])
 (.block 0
 (.loop af169_l0)))
 (.seq
 (.reg [⟨(some 29), none, (.mv (.t 0))⟩,
   ⟨(some 30), none, (.mv (.t 1))⟩,
   ⟨(some 31), none, (.call 171 [(.t 29), (.t 30)])⟩,
   ⟨(some 32), none, (.mv (.t 2))⟩,
   ⟨(some 33), none, (.bin .leq .num (.t 31) (.t 32))⟩,
   ⟨(some 6), none, (.mv (.t 33))⟩]) .ret))))⟩
theorem caf169 : cFunc Tryz.prog Tryz.f169 = some af169 := by kernel_rfl
def af170_l0 : AC :=
 (.seq
 (.reg [⟨(some 14), none, (.bin .lss .num (.t 13) (.t 12))⟩])
 (.seq
 (.cond (.t 14) .skip (.exit 0))
 (.seq
 (.block 1
 (.seq
 (.reg [⟨(some 15), none, (.mv (.t 13))⟩,
   ⟨(some 5), none, (.mv (.t 15))⟩])
 (.seq
 (.dreg [⟨(some 16), none, (.mv (.t 0))⟩,
   ⟨(some 17), none, (.mv (.t 5))⟩,
   ⟨(some 18), none, (.ixSlice 1 (.t 16) (.t 17))⟩,
   ⟨(some 19), none, (.load1 (.t 18))⟩,
   ⟨(some 20), none, (.mv (.t 1))⟩,
   ⟨(some 21), none, (.mv (.t 5))⟩,
   ⟨(some 22), none, (.ixSlice 1 (.t 20) (.t 21))⟩,
   ⟨(some 23), none, (.load1 (.t 22))⟩,
   ⟨(some 24), none, (.bin .neq .num (.t 19) (.t 23))⟩] [])
 (.cond (.t 24)
 (.seq
 (.reg [⟨(some 4), none, (.mv (.c (.bool false)))⟩]) .ret) .skip))))
 (.reg [⟨(some 25), none, (.bin .add .num (.t 13) (.c (.int .i64 1)))⟩,
   ⟨(some 13), none, (.mv (.t 25))⟩]))))
/-- slices.Equal[[]int,int] -/
def af170 : AFunc := ⟨26, [(.tmp 4)],
 (.seq
 (.reg [⟨(some 4), none, (.mv (.c (.bool false)))⟩])
 (.seq
 (.seq
 (.reg [⟨(some 6), none, (.mv (.t 0))⟩,
   ⟨(some 7), none, (.len (.t 6))⟩,
   ⟨(some 8), none, (.mv (.t 1))⟩,
   ⟨(some 9), none, (.len (.t 8))⟩,
   ⟨(some 10), none, (.bin .neq .num (.t 7) (.t 9))⟩])
 (.cond (.t 10)
 (.seq
 (.reg [⟨(some 4), none, (.mv (.c (.bool false)))⟩]) .ret) .skip))
 (.seq
 (.seq
 (.reg [⟨(some 11), none, (.mv (.t 0))⟩,
   ⟨(some 12), none, (.len (.t 11))⟩,
   ⟨(some 13), none, (.mv (.c (.int .i64 0)))⟩])
 (.block 0
 (.loop af170_l0)))
 (.seq
 (.reg [⟨(some 4), none, (.mv (.c (.bool true)))⟩]) .ret))))⟩
theorem caf170 : cFunc Tryz.prog Tryz.f170 = some af170 := by kernel_rfl
def af171_l0 : AC :=
 (.seq
 (.reg [⟨(some 17), none, (.bin .lss .num (.t 16) (.t 15))⟩])
 (.seq
 (.cond (.t 17) .skip (.exit 0))
 (.seq
 (.block 1
 (.seq
 (.reg [⟨(some 18), none, (.mv (.t 16))⟩,
   ⟨(some 19), none, (.ixSlice 1 (.t 14) (.t 16))⟩,
   ⟨(some 20), none, (.load1 (.t 19))⟩,
   ⟨(some 6), none, (.mv (.t 18))⟩,
   ⟨(some 7), none, (.mv (.t 20))⟩])
 (.seq
 (.reg [⟨(some 21), none, (.mv (.t 0))⟩,
   ⟨(some 22), none, (.mv (.t 6))⟩,
   ⟨(some 23), none, (.ixSlice 3 (.t 21) (.t 22))⟩,
   ⟨(some 24), none, (.loadN 3 (.t 23))⟩,
   ⟨(some 25), none, (.mv (.t 7))⟩,
   ⟨(some 26), none, (.call 230 [(.t 24), (.t 25)])⟩])
 (.cond (.t 26)
 (.reg [⟨(some 27), none, (.mv (.t 5))⟩,
   ⟨(some 28), none, (.mv (.t 0))⟩,
   ⟨(some 29), none, (.mv (.t 6))⟩,
   ⟨(some 30), none, (.ixSlice 3 (.t 28) (.t 29))⟩,
   ⟨(some 31), none, (.fieldAddr 1 1 (.t 30))⟩,
   ⟨(some 32), none, (.load1 (.t 31))⟩,
   ⟨(some 33), none, (.mv (.t 7))⟩,
   ⟨(some 34), none, (.ixSlice 1 (.t 32) (.t 33))⟩,
   ⟨(some 35), none, (.load1 (.t 34))⟩,
   ⟨(some 36), none, (.call 231 [(.t 27), (.t 35)])⟩,
   ⟨(some 5), none, (.mv (.t 36))⟩]) .skip))))
 (.reg [⟨(some 37), none, (.bin .add .num (.t 16) (.c (.int .i64 1)))⟩,
   ⟨(some 16), none, (.mv (.t 37))⟩]))))
/-- limelight/knap.Cost -/
def af171 : AFunc := ⟨39, [(.tmp 4)],
 (.seq
 (.reg [⟨(some 4), none, (.mv (.c (.int .i64 0)))⟩])
 (.seq
 (.reg [⟨(some 5), none, (.mv (.c (.int .i64 0)))⟩])
 (.seq
 (.seq
 (.reg [⟨(some 8), none, (.mv (.t 1))⟩,
   ⟨(some 9), none, (.mv (.t 1))⟩,
   ⟨(some 10), none, (.len (.t 9))⟩,
   ⟨(some 11), none, (.mv (.t 0))⟩,
   ⟨(some 12), none, (.len (.t 11))⟩,
   ⟨(some 13), none, (.mn [(.t 10), (.t 12)])⟩,
   ⟨(some 14), none, (.cut 1 (.t 8) none (some (.t 13)) none)⟩,
   ⟨(some 15), none, (.len (.t 14))⟩,
   ⟨(some 16), none, (.mv (.c (.int .i64 0)))⟩])
 (.block 0
 (.loop af171_l0)))
 (.seq
 (.reg [⟨(some 38), none, (.mv (.t 5))⟩,
   ⟨(some 4), none, (.mv (.t 38))⟩]) .ret))))⟩
theorem caf171 : cFunc Tryz.prog Tryz.f171 = some af171 := by kernel_rfl
/-- limelight/alloc.Margin -/
def af172 : AFunc := ⟨6, [(.tmp 2)],
 (.seq
 (.reg [⟨(some 2), none, (.mv (.c (.int .i64 0)))⟩])
 (.seq
 (.reg [⟨(some 3), none, (.mv (.t 0))⟩,
   ⟨(some 4), none, (.mx [(.c (.int .i64 0)), (.t 3)])⟩,
   ⟨(some 5), none, (.bin .quo .num (.t 4) (.c (.int .i64 8)))⟩,
   ⟨(some 2), none, (.mv (.t 5))⟩]) .ret))⟩
theorem caf172 : cFunc Tryz.prog Tryz.f172 = some af172 := by kernel_rfl
/-- slices.Clone[[]int,int] -/
def af173 : AFunc := ⟨8, [(.tmp 2)],
 (.seq
 (.reg [⟨(some 2), none, (.mv (.c (.slice none 0 0 none)))⟩])
 (.seq
 (.seq
 (.reg [⟨(some 3), none, (.mv (.t 0))⟩,
   ⟨(some 4), none, (.bin .eql .slc (.t 3) (.c (.slice none 0 0 none)))⟩])
 (.cond (.t 4)
 (.seq
 (.reg [⟨(some 2), none, (.mv (.c (.slice none 0 0 none)))⟩]) .ret) .skip))
 (.seq
 (.reg [⟨(some 5), none, (.buildSlice 1 [(.int .i64 0)] 0 [])⟩,
   ⟨(some 6), none, (.mv (.t 0))⟩,
   ⟨(some 7), none, (.append 1 8 (.t 5) (.t 6))⟩,
   ⟨(some 2), none, (.mv (.t 7))⟩]) .ret)))⟩
theorem caf173 : cFunc Tryz.prog Tryz.f173 = some af173 := by kernel_rfl
def af174_l0 : AC :=
 (.seq
 (.reg [⟨(some 22), none, (.bin .lss .num (.t 21) (.t 20))⟩])
 (.seq
 (.cond (.t 22) .skip (.exit 0))
 (.seq
 (.block 1
 (.seq
 (.reg [⟨(some 23), none, (.mv (.t 21))⟩,
   ⟨(some 12), none, (.mv (.t 23))⟩])
 (.seq
 (.reg [⟨(some 13), none, (.mv (.c (.int .i64 (-1))))⟩])
 (.seq
 (.seq
 (.reg [⟨(some 24), none, (.mv (.t 0))⟩,
   ⟨(some 25), none, (.mv (.t 12))⟩,
   ⟨(some 26), none, (.call 232 [(.t 24), (.t 25)])⟩,
   ⟨(some 27), none, (.mv (.t 1))⟩,
   ⟨(some 28), none, (.bin .leq .num (.t 26) (.t 27))⟩,
   ⟨(some 29), none, (.mv (.t 28))⟩,
   ⟨(some 30), (some (29, true)), (.mv (.t 0))⟩,
   ⟨(some 31), (some (29, true)), (.mv (.t 12))⟩,
   ⟨(some 32), (some (29, true)), (.mv (.t 3))⟩,
   ⟨(some 33), (some (29, true)), (.call 233 [(.t 30), (.t 31), (.t 32)])⟩,
   ⟨(some 34), (some (29, true)), (.mv (.t 33))⟩,
   ⟨(some 35), (some (34, false)), (.mv (.t 4))⟩,
   ⟨(some 36), (some (34, false)), (.mv (.t 35))⟩,
   ⟨(some 37), (some (36, true)), (.mv (.t 0))⟩,
   ⟨(some 38), (some (36, true)), (.mv (.t 12))⟩,
   ⟨(some 39), (some (36, true)), (.call 68 [(.t 37), (.t 38)])⟩,
   ⟨(some 40), (some (36, true)), (.mv (.t 39))⟩,
   ⟨(some 41), (some (40, false)), (.mv (.t 0))⟩,
   ⟨(some 42), (some (40, false)), (.mv (.t 12))⟩,
   ⟨(some 43), (some (40, false)), (.call 234 [(.t 41), (.t 42)])⟩,
   ⟨(some 44), (some (36, true)), (.pick (.t 40) (.c (.bool true)) (.t 43))⟩,
   ⟨(some 45), (some (34, false)), (.pick (.t 36) (.t 44) (.c (.bool false)))⟩,
   ⟨(some 46), (some (29, true)), (.pick (.t 34) (.c (.bool true)) (.t 45))⟩,
   ⟨(some 47), none, (.pick (.t 29) (.t 46) (.c (.bool false)))⟩])
 (.cond (.t 47)
 (.reg [⟨(some 48), none, (.mv (.t 0))⟩,
   ⟨(some 49), none, (.mv (.t 12))⟩,
   ⟨(some 50), none, (.mv (.t 3))⟩,
   ⟨(some 51), none, (.call 177 [(.t 48), (.t 49), (.t 50)])⟩,
   ⟨(some 13), none, (.mv (.t 51))⟩]) .skip))
 (.seq
 (.reg [⟨(some 52), none, (.fieldAddr 1 1 (.t 11))⟩,
   ⟨(some 53), none, (.load1 (.t 52))⟩,
   ⟨(some 54), none, (.mv (.t 13))⟩,
   ⟨(some 55), none, (.buildSlice 1 [(.int .i64 0)] 1 [(0, (1, (.t 54)))])⟩,
   ⟨(some 56), none, (.append 1 8 (.t 53) (.t 55))⟩,
   ⟨(some 57), none, (.fieldAddr 1 1 (.t 11))⟩,
   ⟨none, none, (.store 1 (.t 57) (.t 56))⟩])
 (.dreg [⟨(some 58), none, (.fieldAddr 2 1 (.t 11))⟩,
   ⟨(some 59), none, (.load1 (.t 58))⟩,
   ⟨(some 60), none, (.mv (.t 0))⟩,
   ⟨(some 61), none, (.mv (.t 12))⟩,
   ⟨(some 62), none, (.call 232 [(.t 60), (.t 61)])⟩,
   ⟨(some 63), none, (.buildSlice 1 [(.int .i64 0)] 1 [(0, (1, (.t 62)))])⟩,
   ⟨(some 64), none, (.append 1 8 (.t 59) (.t 63))⟩,
   ⟨(some 65), none, (.fieldAddr 2 1 (.t 11))⟩,
   ⟨none, none, (.store 1 (.t 65) (.t 64))⟩] [(1, 5), (1, 6)]))))))
 (.reg [⟨(some 66), none, (.bin .add .num (.t 21) (.c (.int .i64 1)))⟩,
   ⟨(some 21), none, (.mv (.t 66))⟩]))))
/-- limelight/alloc.Choice -/
def af174 : AFunc := ⟨68, [(.cellN 10 3)],
 (.seq
 (.reg [⟨(some 10), none, (.alloc [(.int .i64 0), (.slice none 0 0 none), (.slice none 0 0 none)])⟩])
 (.seq
 (.seq
 (.reg [⟨(some 14), none, (.mv (.t 0))⟩,
   ⟨(some 15), none, (.bin .eql .ptr (.t 14) (.c (.ptr none)))⟩])
 (.cond (.t 15)
 (.seq
 (.reg [⟨(some 16), none, (.build [(.int .i64 0), (.slice none 0 0 none), (.slice none 0 0 none)] [])⟩,
   ⟨none, none, (.store 3 (.t 10) (.t 16))⟩]) .ret) .skip))
 (.seq
 (.reg [⟨(some 17), none, (.mv (.t 2))⟩,
   ⟨(some 18), none, (.build [(.int .i64 0), (.slice none 0 0 none), (.slice none 0 0 none)] [(0, (1, (.t 17)))])⟩,
   ⟨(some 11), none, (.alloc [(.int .i64 0), (.slice none 0 0 none), (.slice none 0 0 none)])⟩,
   ⟨none, none, (.store 3 (.t 11) (.t 18))⟩])
 (.seq
 (.seq
 (.reg [⟨(some 19), none, (.mv (.t 0))⟩,
   ⟨(some 20), none, (.call 67 [(.t 19)])⟩,
   ⟨(some 21), none, (.mv (.c (.int .i64 0)))⟩])
 (.block 0
 (.loop af174_l0)))
 (.seq
 (.reg [⟨(some 67), none, (.loadN 3 (.t 11))⟩,
   ⟨none, none, (.store 3 (.t 10) (.t 67))⟩]) .ret)))))⟩
theorem caf174 : cFunc Tryz.prog Tryz.f174 = some af174 := by kernel_rfl
/-- limelight/alloc.Budget -/
def af175 : AFunc := ⟨7, [(.tmp 2)],
 (.seq
 (.reg [⟨(some 2), none, (.mv (.c (.int .i64 0)))⟩])
 (.seq
 (.reg [⟨(some 3), none, (.mv (.t 0))⟩,
   ⟨(some 4), none, (.bin .quo .num (.t 3) (.c (.int .i64 1000)))⟩,
   ⟨(some 5), none, (.mn [(.t 4), (.c (.int .i64 4096))])⟩,
   ⟨(some 6), none, (.mx [(.c (.int .i64 0)), (.t 5)])⟩,
   ⟨(some 2), none, (.mv (.t 6))⟩]) .ret))⟩
theorem caf175 : cFunc Tryz.prog Tryz.f175 = some af175 := by kernel_rfl
/-- (*limelight/watch.Watch).is -/
def af176 : AFunc := ⟨16, [(.tmp 4)],
 (.seq
 (.reg [⟨(some 4), none, (.mv (.c (.bool false)))⟩])
 (.seq
 (.reg [⟨(some 5), none, (.mv (.t 1))⟩,
   ⟨(some 6), none, (.bin .geq .num (.t 5) (.c (.int .i64 0)))⟩,
   ⟨(some 7), none, (.mv (.t 6))⟩,
   ⟨(some 8), (some (7, true)), (.mv (.t 1))⟩,
   ⟨(some 9), (some (7, true)), (.mv (.t 0))⟩,
   ⟨(some 10), (some (7, true)), (.nilCheck (.t 9))⟩,
   ⟨(some 11), (some (7, true)), (.fieldAddr 0 1 (.t 10))⟩,
   ⟨(some 12), (some (7, true)), (.load1 (.t 11))⟩,
   ⟨(some 13), (some (7, true)), (.len (.t 12))⟩,
   ⟨(some 14), (some (7, true)), (.bin .lss .num (.t 8) (.t 13))⟩,
   ⟨(some 15), none, (.pick (.t 7) (.t 14) (.c (.bool false)))⟩,
   ⟨(some 4), none, (.mv (.t 15))⟩]) .ret))⟩
theorem caf176 : cFunc Tryz.prog Tryz.f176 = some af176 := by kernel_rfl
/-- (*limelight/layer.Layers).Cost -/
def af177 : AFunc := ⟨33, [(.tmp 6)],
 (.seq
 (.reg [⟨(some 6), none, (.mv (.c (.int .i64 0)))⟩])
 (.seq
 (.seq
 (.reg [⟨(some 8), none, (.mv (.t 0))⟩,
   ⟨(some 9), none, (.mv (.t 1))⟩,
   ⟨(some 10), none, (.call 87 [(.t 8), (.t 9)])⟩,
   ⟨(some 11), none, (.un .not (.t 10))⟩])
 (.cond (.t 11)
 (.seq
 (.reg [⟨(some 6), none, (.mv (.c (.int .i64 0)))⟩]) .ret) .skip))
 (.seq
 (.reg [⟨(some 12), none, (.mv (.t 0))⟩,
   ⟨(some 13), none, (.nilCheck (.t 12))⟩,
   ⟨(some 14), none, (.fieldAddr 0 1 (.t 13))⟩,
   ⟨(some 15), none, (.load1 (.t 14))⟩,
   ⟨(some 16), none, (.mv (.t 1))⟩,
   ⟨(some 17), none, (.ixSlice 10 (.t 15) (.t 16))⟩,
   ⟨(some 18), none, (.loadN 10 (.t 17))⟩,
   ⟨(some 7), none, (.alloc [(.str []), (.int .u32 0), (.int .i64 0), (.ptr none), (.ptr none), (.bool false), (.int .i64 0), (.bool false), (.bool false), (.int .i64 0)])⟩,
   ⟨none, none, (.store 10 (.t 7) (.t 18))⟩])
 (.seq
 (.seq
 (.reg [⟨(some 19), none, (.fieldAddr 7 1 (.t 7))⟩,
   ⟨(some 20), none, (.load1 (.t 19))⟩,
   ⟨(some 21), none, (.mv (.t 20))⟩,
   ⟨(some 22), (some (21, false)), (.fieldAddr 8 1 (.t 7))⟩,
   ⟨(some 23), (some (21, false)), (.load1 (.t 22))⟩,
   ⟨(some 24), none, (.pick (.t 21) (.c (.bool true)) (.t 23))⟩])
 (.cond (.t 24)
 (.seq
 (.reg [⟨(some 25), none, (.fieldAddr 9 1 (.t 7))⟩,
   ⟨(some 26), none, (.load1 (.t 25))⟩,
   ⟨(some 6), none, (.mv (.t 26))⟩]) .ret) .skip))
 (.seq
 (.reg [⟨(some 27), none, (.fieldAddr 4 1 (.t 7))⟩,
   ⟨(some 28), none, (.load1 (.t 27))⟩,
   ⟨(some 29), none, (.mv (.t 2))⟩,
   ⟨(some 30), none, (.call 236 [(.t 28), (.t 29)])⟩,
   ⟨(some 31), none, (.call 235 [(.t 30), (.c (.int .i64 1000))])⟩,
   ⟨(some 32), none, (.mx [(.c (.int .i64 1)), (.t 31)])⟩,
   ⟨(some 6), none, (.mv (.t 32))⟩]) .ret)))))⟩
theorem caf177 : cFunc Tryz.prog Tryz.f177 = some af177 := by kernel_rfl
/-- slices.ContainsFunc[[]limelight/api.Tuple,limelight/api.Tuple] -/
def af178 : AFunc := ⟨9, [(.tmp 4)],
 (.seq
 (.reg [⟨(some 4), none, (.mv (.c (.bool false)))⟩])
 (.seq
 (.reg [⟨(some 5), none, (.mv (.t 0))⟩,
   ⟨(some 6), none, (.mv (.t 1))⟩,
   ⟨(some 7), none, (.call 166 [(.t 5), (.t 6)])⟩,
   ⟨(some 8), none, (.bin .geq .num (.t 7) (.c (.int .i64 0)))⟩,
   ⟨(some 4), none, (.mv (.t 8))⟩]) .ret))⟩
theorem caf178 : cFunc Tryz.prog Tryz.f178 = some af178 := by kernel_rfl
/-- limelight/rtcp.values$1 -/
def af179 : AFunc := ⟨19, [(.tmp 2)],
 (.seq
 (.reg [⟨(some 1), none, (.box (.t 0))⟩,
   ⟨(some 2), none, (.mv (.c (.bool false)))⟩])
 (.seq
 (.dreg [⟨(some 3), none, (.fieldAddr 2 1 (.t 1))⟩,
   ⟨(some 4), none, (.load1 (.t 3))⟩,
   ⟨(some 5), none, (.bin .lss .num (.t 4) (.c (.int .i64 0)))⟩,
   ⟨(some 6), none, (.mv (.t 5))⟩,
   ⟨(some 7), (some (6, false)), (.fieldAddr 2 1 (.t 1))⟩,
   ⟨(some 8), (some (6, false)), (.load1 (.t 7))⟩,
   ⟨(some 9), (some (6, false)), (.bin .gtr .num (.t 8) (.c (.int .i64 511)))⟩,
   ⟨(some 10), none, (.pick (.t 6) (.c (.bool true)) (.t 9))⟩,
   ⟨(some 11), none, (.mv (.t 10))⟩,
   ⟨(some 12), (some (11, false)), (.fieldAddr 1 1 (.t 1))⟩,
   ⟨(some 13), (some (11, false)), (.load1 (.t 12))⟩,
   ⟨(some 14), (some (11, false)), (.call 5 [(.t 13), (.c (.int .i64 17))])⟩,
   ⟨(some 15), (some (11, false)), (.fieldAddr 1 1 (.t 1))⟩,
   ⟨(some 16), (some (11, false)), (.load1 (.t 15))⟩,
   ⟨(some 17), (some (11, false)), (.bin .neq .num (.t 14) (.t 16))⟩,
   ⟨(some 18), none, (.pick (.t 11) (.c (.bool true)) (.t 17))⟩,
   ⟨(some 2), none, (.mv (.t 18))⟩] [(13, 11)]) .ret))⟩
theorem caf179 : cFunc Tryz.prog Tryz.f179 = some af179 := by kernel_rfl
/-- (*limelight/rtcp.reader).rate -/
def af182 : AFunc := ⟨40, [(.tmp 6)],
 (.seq
 (.reg [⟨(some 6), none, (.mv (.c (.int .u64 0)))⟩])
 (.seq
 (.dreg [⟨(some 10), none, (.mv (.t 1))⟩,
   ⟨(some 11), none, (.mv (.t 2))⟩,
   ⟨(some 12), none, (.bin .shr .num (.t 10) (.t 11))⟩,
   ⟨(some 13), none, (.conv (.int .i64) (.t 12))⟩,
   ⟨(some 14), none, (.mv (.t 1))⟩,
   ⟨(some 15), none, (.mv (.t 2))⟩,
   ⟨(some 16), none, (.bin .shl .num (.c (.int .u64 1)) (.t 15))⟩,
   ⟨(some 17), none, (.bin .sub .num (.t 16) (.c (.int .u64 1)))⟩,
   ⟨(some 18), none, (.bin .and .num (.t 14) (.t 17))⟩,
   ⟨(some 19), none, (.conv (.int .u32) (.t 18))⟩,
   ⟨(some 7), none, (.mv (.t 13))⟩,
   ⟨(some 8), none, (.mv (.t 19))⟩] [])
 (.seq
 (.reg [⟨(some 20), none, (.mv (.t 7))⟩,
   ⟨(some 21), none, (.mv (.t 8))⟩,
   ⟨(some 22), none, (.mv (.t 2))⟩,
   ⟨(some 23), none, (.call 20 [(.t 20), (.t 21), (.t 22)])⟩,
   ⟨(some 9), none, (.mv (.t 23))⟩])
 (.seq
 (.reg [⟨(some 24), none, (.mv (.t 0))⟩,
   ⟨(some 25), none, (.mv (.t 0))⟩,
   ⟨(some 26), none, (.nilCheck (.t 25))⟩,
   ⟨(some 27), none, (.fieldAddr 2 1 (.t 26))⟩,
   ⟨(some 28), none, (.load1 (.t 27))⟩,
   ⟨(some 29), none, (.mv (.t 28))⟩,
   ⟨(some 30), (some (29, false)), (.mv (.t 9))⟩,
   ⟨(some 31), (some (29, false)), (.mv (.t 7))⟩,
   ⟨(some 32), (some (29, false)), (.bin .shr .num (.t 30) (.t 31))⟩,
   ⟨(some 33), (some (29, false)), (.mv (.t 8))⟩,
   ⟨(some 34), (some (29, false)), (.conv (.int .u64) (.t 33))⟩,
   ⟨(some 35), (some (29, false)), (.bin .neq .num (.t 32) (.t 34))⟩,
   ⟨(some 36), none, (.pick (.t 29) (.c (.bool true)) (.t 35))⟩,
   ⟨(some 37), none, (.nilCheck (.t 24))⟩,
   ⟨(some 38), none, (.fieldAddr 2 1 (.t 37))⟩,
   ⟨none, none, (.store 1 (.t 38) (.t 36))⟩])
 (.seq
 (.reg [⟨(some 39), none, (.mv (.t 9))⟩,
   ⟨(some 6), none, (.mv (.t 39))⟩]) .ret)))))⟩
theorem caf182 : cFunc Tryz.prog Tryz.f182 = some af182 := by kernel_rfl
/-- limelight/clock.up -/
def af183 : AFunc := ⟨6, [(.tmp 2)],
 (.seq
 (.reg [⟨(some 2), none, (.mv (.c (.int .u64 0)))⟩])
 (.seq
 (.reg [⟨(some 3), none, (.mv (.t 0))⟩,
   ⟨(some 4), none, (.mx [(.c (.int .i64 0)), (.t 3)])⟩,
   ⟨(some 5), none, (.conv (.int .u64) (.t 4))⟩,
   ⟨(some 2), none, (.mv (.t 5))⟩]) .ret))⟩
theorem caf183 : cFunc Tryz.prog Tryz.f183 = some af183 := by kernel_rfl
/-- math/bits.Mul64 -/
def af184 : AFunc := ⟨51, [(.tmp 4), (.tmp 5)],
 (.seq
 (.reg [⟨(some 4), none, (.mv (.c (.int .u64 0)))⟩,
   ⟨(some 5), none, (.mv (.c (.int .u64 0)))⟩])
 (.seq
 (.reg [⟨(some 14), none, (.mv (.t 0))⟩,
   ⟨(some 15), none, (.bin .and .num (.t 14) (.c (.int .u64 4294967295)))⟩,
   ⟨(some 6), none, (.mv (.t 15))⟩])
 (.seq
 (.reg [⟨(some 16), none, (.mv (.t 0))⟩,
   ⟨(some 17), none, (.bin .shr .num (.t 16) (.c (.int .u64 32)))⟩,
   ⟨(some 7), none, (.mv (.t 17))⟩])
 (.seq
 (.reg [⟨(some 18), none, (.mv (.t 1))⟩,
   ⟨(some 19), none, (.bin .and .num (.t 18) (.c (.int .u64 4294967295)))⟩,
   ⟨(some 8), none, (.mv (.t 19))⟩])
 (.seq
 (.reg [⟨(some 20), none, (.mv (.t 1))⟩,
   ⟨(some 21), none, (.bin .shr .num (.t 20) (.c (.int .u64 32)))⟩,
   ⟨(some 9), none, (.mv (.t 21))⟩])
 (.seq
 (.reg [⟨(some 22), none, (.mv (.t 6))⟩,
   ⟨(some 23), none, (.mv (.t 8))⟩,
   ⟨(some 24), none, (.bin .mul .num (.t 22) (.t 23))⟩,
   ⟨(some 10), none, (.mv (.t 24))⟩])
 (.seq
 (.reg [⟨(some 25), none, (.mv (.t 7))⟩,
   ⟨(some 26), none, (.mv (.t 8))⟩,
   ⟨(some 27), none, (.bin .mul .num (.t 25) (.t 26))⟩,
   ⟨(some 28), none, (.mv (.t 10))⟩,
   ⟨(some 29), none, (.bin .shr .num (.t 28) (.c (.int .u64 32)))⟩,
   ⟨(some 30), none, (.bin .add .num (.t 27) (.t 29))⟩,
   ⟨(some 11), none, (.mv (.t 30))⟩])
 (.seq
 (.reg [⟨(some 31), none, (.mv (.t 11))⟩,
   ⟨(some 32), none, (.bin .and .num (.t 31) (.c (.int .u64 4294967295)))⟩,
   ⟨(some 12), none, (.mv (.t 32))⟩])
 (.seq
 (.reg [⟨(some 33), none, (.mv (.t 11))⟩,
   ⟨(some 34), none, (.bin .shr .num (.t 33) (.c (.int .u64 32)))⟩,
   ⟨(some 13), none, (.mv (.t 34))⟩])
 (.seq
 (.reg [⟨(some 35), none, (.mv (.t 12))⟩,
   ⟨(some 36), none, (.mv (.t 6))⟩,
   ⟨(some 37), none, (.mv (.t 9))⟩,
   ⟨(some 38), none, (.bin .mul .num (.t 36) (.t 37))⟩,
   ⟨(some 39), none, (.bin .add .num (.t 35) (.t 38))⟩,
   ⟨(some 12), none, (.mv (.t 39))⟩])
 (.seq
 (.reg [⟨(some 40), none, (.mv (.t 7))⟩,
   ⟨(some 41), none, (.mv (.t 9))⟩,
   ⟨(some 42), none, (.bin .mul .num (.t 40) (.t 41))⟩,
   ⟨(some 43), none, (.mv (.t 13))⟩,
   ⟨(some 44), none, (.bin .add .num (.t 42) (.t 43))⟩,
   ⟨(some 45), none, (.mv (.t 12))⟩,
   ⟨(some 46), none, (.bin .shr .num (.t 45) (.c (.int .u64 32)))⟩,
   ⟨(some 47), none, (.bin .add .num (.t 44) (.t 46))⟩,
   ⟨(some 4), none, (.mv (.t 47))⟩])
 (.seq
 (.reg [⟨(some 48), none, (.mv (.t 0))⟩,
   ⟨(some 49), none, (.mv (.t 1))⟩,
   ⟨(some 50), none, (.bin .mul .num (.t 48) (.t 49))⟩,
   ⟨(some 5), none, (.mv (.t 50))⟩]) .ret))))))))))))⟩
theorem caf184 : cFunc Tryz.prog Tryz.f184 = some af184 := by kernel_rfl
/-- limelight/ext.right -/
def af185 : AFunc := ⟨41, [(.tmp 4)],
 (.seq
 (.reg [⟨(some 3), none, (.box (.t 1))⟩,
   ⟨(some 4), none, (.mv (.c (.bool false)))⟩])
 (.seq
 (.seq
 (.reg [⟨(some 5), none, (.mv (.t 0))⟩,
   ⟨(some 6), none, (.bin .eql .num (.t 5) (.c (.int .u16 48862)))⟩])
 (.cond (.t 6)
 (.seq
 (.reg [⟨(some 7), none, (.fieldAddr 0 1 (.t 3))⟩,
   ⟨(some 8), none, (.load1 (.t 7))⟩,
   ⟨(some 9), none, (.bin .geq .num (.t 8) (.c (.int .i64 1)))⟩,
   ⟨(some 10), none, (.mv (.t 9))⟩,
   ⟨(some 11), (some (10, true)), (.fieldAddr 0 1 (.t 3))⟩,
   ⟨(some 12), (some (10, true)), (.load1 (.t 11))⟩,
   ⟨(some 13), (some (10, true)), (.bin .leq .num (.t 12) (.c (.int .i64 14)))⟩,
   ⟨(some 14), none, (.pick (.t 10) (.t 13) (.c (.bool false)))⟩,
   ⟨(some 15), none, (.mv (.t 14))⟩,
   ⟨(some 16), (some (15, true)), (.fieldAddr 1 1 (.t 3))⟩,
   ⟨(some 17), (some (15, true)), (.load1 (.t 16))⟩,
   ⟨(some 18), (some (15, true)), (.len (.t 17))⟩,
   ⟨(some 19), (some (15, true)), (.bin .geq .num (.t 18) (.c (.int .i64 1)))⟩,
   ⟨(some 20), none, (.pick (.t 15) (.t 19) (.c (.bool false)))⟩,
   ⟨(some 21), none, (.mv (.t 20))⟩,
   ⟨(some 22), (some (21, true)), (.fieldAddr 1 1 (.t 3))⟩,
   ⟨(some 23), (some (21, true)), (.load1 (.t 22))⟩,
   ⟨(some 24), (some (21, true)), (.len (.t 23))⟩,
   ⟨(some 25), (some (21, true)), (.bin .leq .num (.t 24) (.c (.int .i64 16)))⟩,
   ⟨(some 26), none, (.pick (.t 21) (.t 25) (.c (.bool false)))⟩,
   ⟨(some 4), none, (.mv (.t 26))⟩]) .ret) .skip))
 (.seq
 (.reg [⟨(some 27), none, (.fieldAddr 0 1 (.t 3))⟩,
   ⟨(some 28), none, (.load1 (.t 27))⟩,
   ⟨(some 29), none, (.bin .geq .num (.t 28) (.c (.int .i64 1)))⟩,
   ⟨(some 30), none, (.mv (.t 29))⟩,
   ⟨(some 31), (some (30, true)), (.fieldAddr 0 1 (.t 3))⟩,
   ⟨(some 32), (some (30, true)), (.load1 (.t 31))⟩,
   ⟨(some 33), (some (30, true)), (.bin .leq .num (.t 32) (.c (.int .i64 255)))⟩,
   ⟨(some 34), none, (.pick (.t 30) (.t 33) (.c (.bool false)))⟩,
   ⟨(some 35), none, (.mv (.t 34))⟩,
   ⟨(some 36), (some (35, true)), (.fieldAddr 1 1 (.t 3))⟩,
   ⟨(some 37), (some (35, true)), (.load1 (.t 36))⟩,
   ⟨(some 38), (some (35, true)), (.len (.t 37))⟩,
   ⟨(some 39), (some (35, true)), (.bin .leq .num (.t 38) (.c (.int .i64 255)))⟩,
   ⟨(some 40), none, (.pick (.t 35) (.t 39) (.c (.bool false)))⟩,
   ⟨(some 4), none, (.mv (.t 40))⟩]) .ret)))⟩
theorem caf185 : cFunc Tryz.prog Tryz.f185 = some af185 := by kernel_rfl
def af186_l0 : AC :=
 (.seq
 (.seq
 (.reg [⟨(some 15), none, (.mv (.t 5))⟩,
   ⟨(some 16), none, (.len (.t 15))⟩,
   ⟨(some 17), none, (.mv (.t 1))⟩,
   ⟨(some 18), none, (.bin .rem .num (.t 16) (.t 17))⟩,
   ⟨(some 19), none, (.bin .neq .num (.t 18) (.c (.int .i64 0)))⟩])
 (.cond (.t 19) .skip (.exit 0)))
 (.block 1
 (.reg [⟨(some 20), none, (.mv (.t 5))⟩,
   ⟨(some 21), none, (.buildSlice 1 [(.int .u8 0)] 1 [(0, (1, (.c (.int .u8 0))))])⟩,
   ⟨(some 22), none, (.append 1 1 (.t 20) (.t 21))⟩,
   ⟨(some 5), none, (.mv (.t 22))⟩])))
/-- limelight/octet.Pad -/
def af186 : AFunc := ⟨25, [(.tmp 4)],
 (.seq
 (.reg [⟨(some 4), none, (.mv (.c (.slice none 0 0 none)))⟩])
 (.seq
 (.reg [⟨(some 6), none, (.mv (.t 0))⟩,
   ⟨(some 7), none, (.call 116 [(.t 6)])⟩,
   ⟨(some 5), none, (.mv (.t 7))⟩])
 (.seq
 (.seq
 (.reg [⟨(some 8), none, (.mv (.t 1))⟩,
   ⟨(some 9), none, (.bin .lss .num (.t 8) (.c (.int .i64 1)))⟩,
   ⟨(some 10), none, (.mv (.t 9))⟩,
   ⟨(some 11), (some (10, false)), (.mv (.t 1))⟩,
   ⟨(some 12), (some (10, false)), (.bin .gtr .num (.t 11) (.c (.int .i64 64)))⟩,
   ⟨(some 13), none, (.pick (.t 10) (.c (.bool true)) (.t 12))⟩])
 (.cond (.t 13)
 (.seq
 (.reg [⟨(some 14), none, (.mv (.t 5))⟩,
   ⟨(some 4), none, (.mv (.t 14))⟩]) .ret) .skip))
 (.seq
 (.block 0
 (.loop af186_l0))
 (.seq
 (.reg [⟨(some 23), none, (.mv (.t 5))⟩,
   ⟨(some 24), none, (.call 55 [(.t 23)])⟩,
   ⟨(some 4), none, (.mv (.t 24))⟩]) .ret)))))⟩
theorem caf186 : cFunc Tryz.prog Tryz.f186 = some af186 := by kernel_rfl
def af187_l0 : AC :=
 (.seq
 (.reg [⟨(some 32), none, (.bin .lss .num (.t 31) (.t 30))⟩])
 (.seq
 (.cond (.t 32) .skip (.exit 0))
 (.seq
 (.block 1
 (.seq
 (.reg [⟨(some 33), none, (.mv (.t 31))⟩,
   ⟨(some 34), none, (.ixSlice 1 (.t 29) (.t 31))⟩,
   ⟨(some 35), none, (.load1 (.t 34))⟩,
   ⟨(some 4), none, (.mv (.t 33))⟩,
   ⟨(some 5), none, (.mv (.t 35))⟩])
 (.seq
 (.reg [⟨(some 36), none, (.mv (.t 5))⟩,
   ⟨(some 37), none, (.un .not (.t 36))⟩,
   ⟨(some 38), none, (.mv (.t 37))⟩,
   ⟨(some 39), (some (38, true)), (.fieldAddr 0 1 (.t 1))⟩,
   ⟨(some 40), (some (38, true)), (.load1 (.t 39))⟩,
   ⟨(some 41), (some (38, true)), (.mv (.t 4))⟩,
   ⟨(some 42), (some (38, true)), (.bin .add .num (.t 41) (.c (.int .i64 1)))⟩,
   ⟨(some 43), (some (38, true)), (.call 133 [(.t 40), (.t 42)])⟩,
   ⟨(some 44), (some (38, true)), (.un .not (.t 43))⟩,
   ⟨(some 45), none, (.pick (.t 38) (.t 44) (.c (.bool false)))⟩])
 (.cond (.t 45)
 (.seq
 (.reg [⟨(some 2), none, (.mv (.c (.bool false)))⟩]) .ret) .skip))))
 (.reg [⟨(some 46), none, (.bin .add .num (.t 31) (.c (.int .i64 1)))⟩,
   ⟨(some 31), none, (.mv (.t 46))⟩]))))
/-- limelight/ctl.fields -/
def af187 : AFunc := ⟨47, [(.tmp 2)],
 (.seq
 (.reg [⟨(some 1), none, (.box (.t 0))⟩,
   ⟨(some 2), none, (.mv (.c (.bool false)))⟩])
 (.seq
 (.reg [⟨(some 6), none, (.fieldAddr 1 1 (.t 1))⟩,
   ⟨(some 7), none, (.load1 (.t 6))⟩,
   ⟨(some 8), none, (.bin .eql .num (.t 7) (.c (.int .i64 0)))⟩,
   ⟨(some 9), none, (.fieldAddr 2 1 (.t 1))⟩,
   ⟨(some 10), none, (.load1 (.t 9))⟩,
   ⟨(some 11), none, (.len (.t 10))⟩,
   ⟨(some 12), none, (.bin .eql .num (.t 11) (.c (.int .i64 0)))⟩,
   ⟨(some 13), none, (.fieldAddr 3 1 (.t 1))⟩,
   ⟨(some 14), none, (.load1 (.t 13))⟩,
   ⟨(some 15), none, (.bin .eql .num (.t 14) (.c (.int .i64 0)))⟩,
   ⟨(some 16), none, (.fieldAddr 4 1 (.t 1))⟩,
   ⟨(some 17), none, (.load1 (.t 16))⟩,
   ⟨(some 18), none, (.bin .eql .num (.t 17) (.c (.int .i64 0)))⟩,
   ⟨(some 19), none, (.fieldAddr 5 1 (.t 1))⟩,
   ⟨(some 20), none, (.load1 (.t 19))⟩,
   ⟨(some 21), none, (.bin .eql .num (.t 20) (.c (.int .i64 0)))⟩,
   ⟨(some 22), none, (.fieldAddr 6 1 (.t 1))⟩,
   ⟨(some 23), none, (.load1 (.t 22))⟩,
   ⟨(some 24), none, (.bin .eql .num (.t 23) (.c (.int .i64 0)))⟩,
   ⟨(some 25), none, (.fieldAddr 7 1 (.t 1))⟩,
   ⟨(some 26), none, (.load1 (.t 25))⟩,
   ⟨(some 27), none, (.bin .eql .num (.t 26) (.c (.int .i64 0)))⟩,
   ⟨(some 28), none, (.buildSlice 1 [(.bool false)] 7 [(0, (1, (.t 8))), (1, (1, (.t 12))), (2, (1, (.t 15))), (3, (1, (.t 18))), (4, (1, (.t 21))), (5, (1, (.t 24))), (6, (1, (.t 27)))])⟩,
   ⟨(some 3), none, (.mv (.t 28))⟩])
 (.seq
 (.seq
 (.reg [⟨(some 29), none, (.mv (.t 3))⟩,
   ⟨(some 30), none, (.len (.t 29))⟩,
   ⟨(some 31), none, (.mv (.c (.int .i64 0)))⟩])
 (.block 0
 (.loop af187_l0)))
 (.seq
 (.reg [⟨(some 2), none, (.mv (.c (.bool true)))⟩]) .ret))))⟩
theorem caf187 : cFunc Tryz.prog Tryz.f187 = some af187 := by kernel_rfl
/-- limelight/ctl.values -/
def af188 : AFunc := ⟨67, [(.tmp 2)],
 (.seq
 (.reg [⟨(some 1), none, (.box (.t 0))⟩,
   ⟨(some 2), none, (.mv (.c (.bool false)))⟩])
 (.seq
 (.reg [⟨(some 3), none, (.fieldAddr 0 1 (.t 1))⟩,
   ⟨(some 4), none, (.load1 (.t 3))⟩,
   ⟨(some 5), none, (.call 133 [(.t 4), (.c (.int .i64 1))])⟩,
   ⟨(some 6), none, (.un .not (.t 5))⟩,
   ⟨(some 7), none, (.mv (.t 6))⟩,
   ⟨(some 8), (some (7, false)), (.fieldAddr 1 1 (.t 1))⟩,
   ⟨(some 9), (some (7, false)), (.load1 (.t 8))⟩,
   ⟨(some 10), (some (7, false)), (.call 238 [(.t 9), (.c (.int .i64 1)), (.c (.int .i64 1099511627776))])⟩,
   ⟨(some 11), none, (.pick (.t 7) (.c (.bool true)) (.t 10))⟩,
   ⟨(some 12), none, (.mv (.t 11))⟩,
   ⟨(some 13), (some (12, true)), (.fieldAddr 0 1 (.t 1))⟩,
   ⟨(some 14), (some (12, true)), (.load1 (.t 13))⟩,
   ⟨(some 15), (some (12, true)), (.call 133 [(.t 14), (.c (.int .i64 3))])⟩,
   ⟨(some 16), (some (12, true)), (.un .not (.t 15))⟩,
   ⟨(some 17), (some (12, true)), (.mv (.t 16))⟩,
   ⟨(some 18), (some (17, false)), (.fieldAddr 3 1 (.t 1))⟩,
   ⟨(some 19), (some (17, false)), (.load1 (.t 18))⟩,
   ⟨(some 20), (some (17, false)), (.call 238 [(.t 19), (.c (.int .i64 0)), (.c (.int .i64 5))])⟩,
   ⟨(some 21), (some (12, true)), (.pick (.t 17) (.c (.bool true)) (.t 20))⟩,
   ⟨(some 22), none, (.pick (.t 12) (.t 21) (.c (.bool false)))⟩,
   ⟨(some 23), none, (.mv (.t 22))⟩,
   ⟨(some 24), (some (23, true)), (.fieldAddr 0 1 (.t 1))⟩,
   ⟨(some 25), (some (23, true)), (.load1 (.t 24))⟩,
   ⟨(some 26), (some (23, true)), (.call 133 [(.t 25), (.c (.int .i64 4))])⟩,
   ⟨(some 27), (some (23, true)), (.un .not (.t 26))⟩,
   ⟨(some 28), (some (23, true)), (.mv (.t 27))⟩,
   ⟨(some 29), (some (28, false)), (.fieldAddr 4 1 (.t 1))⟩,
   ⟨(some 30), (some (28, false)), (.load1 (.t 29))⟩,
   ⟨(some 31), (some (28, false)), (.call 238 [(.t 30), (.c (.int .i64 1)), (.c (.int .i64 8192))])⟩,
   ⟨(some 32), (some (23, true)), (.pick (.t 28) (.c (.bool true)) (.t 31))⟩,
   ⟨(some 33), none, (.pick (.t 23) (.t 32) (.c (.bool false)))⟩,
   ⟨(some 34), none, (.mv (.t 33))⟩,
   ⟨(some 35), (some (34, true)), (.fieldAddr 0 1 (.t 1))⟩,
   ⟨(some 36), (some (34, true)), (.load1 (.t 35))⟩,
   ⟨(some 37), (some (34, true)), (.call 133 [(.t 36), (.c (.int .i64 5))])⟩,
   ⟨(some 38), (some (34, true)), (.un .not (.t 37))⟩,
   ⟨(some 39), (some (34, true)), (.mv (.t 38))⟩,
   ⟨(some 40), (some (39, false)), (.fieldAddr 5 1 (.t 1))⟩,
   ⟨(some 41), (some (39, false)), (.load1 (.t 40))⟩,
   ⟨(some 42), (some (39, false)), (.call 238 [(.t 41), (.c (.int .i64 0)), (.c (.int .i64 3))])⟩,
   ⟨(some 43), (some (34, true)), (.pick (.t 39) (.c (.bool true)) (.t 42))⟩,
   ⟨(some 44), none, (.pick (.t 34) (.t 43) (.c (.bool false)))⟩,
   ⟨(some 45), none, (.mv (.t 44))⟩,
   ⟨(some 46), (some (45, true)), (.fieldAddr 0 1 (.t 1))⟩,
   ⟨(some 47), (some (45, true)), (.load1 (.t 46))⟩,
   ⟨(some 48), (some (45, true)), (.call 133 [(.t 47), (.c (.int .i64 6))])⟩,
   ⟨(some 49), (some (45, true)), (.un .not (.t 48))⟩,
   ⟨(some 50), (some (45, true)), (.mv (.t 49))⟩,
   ⟨(some 51), (some (50, false)), (.fieldAddr 6 1 (.t 1))⟩,
   ⟨(some 52), (some (50, false)), (.load1 (.t 51))⟩,
   ⟨(some 53), (some (50, false)), (.call 238 [(.t 52), (.c (.int .i64 0)), (.c (.int .i64 2))])⟩,
   ⟨(some 54), (some (45, true)), (.pick (.t 50) (.c (.bool true)) (.t 53))⟩,
   ⟨(some 55), none, (.pick (.t 45) (.t 54) (.c (.bool false)))⟩,
   ⟨(some 56), none, (.mv (.t 55))⟩,
   ⟨(some 57), (some (56, true)), (.fieldAddr 0 1 (.t 1))⟩,
   ⟨(some 58), (some (56, true)), (.load1 (.t 57))⟩,
   ⟨(some 59), (some (56, true)), (.call 133 [(.t 58), (.c (.int .i64 7))])⟩,
   ⟨(some 60), (some (56, true)), (.un .not (.t 59))⟩,
   ⟨(some 61), (some (56, true)), (.mv (.t 60))⟩,
   ⟨(some 62), (some (61, false)), (.fieldAddr 7 1 (.t 1))⟩,
   ⟨(some 63), (some (61, false)), (.load1 (.t 62))⟩,
   ⟨(some 64), (some (61, false)), (.call 238 [(.t 63), (.c (.int .i64 0)), (.c (.int .i64 255))])⟩,
   ⟨(some 65), (some (56, true)), (.pick (.t 61) (.c (.bool true)) (.t 64))⟩,
   ⟨(some 66), none, (.pick (.t 56) (.t 65) (.c (.bool false)))⟩,
   ⟨(some 2), none, (.mv (.t 66))⟩]) .ret))⟩
theorem caf188 : cFunc Tryz.prog Tryz.f188 = some af188 := by kernel_rfl
def af189_l0 : AC :=
 (.seq
 (.reg [⟨(some 16), none, (.bin .lss .num (.t 15) (.t 14))⟩])
 (.seq
 (.cond (.t 16) .skip (.exit 0))
 (.seq
 (.block 1
 (.seq
 (.reg [⟨(some 17), none, (.mv (.t 15))⟩,
   ⟨(some 18), none, (.ixSlice 3 (.t 13) (.t 15))⟩,
   ⟨(some 19), none, (.loadN 3 (.t 18))⟩,
   ⟨(some 4), none, (.alloc [(.str []), (.int .u32 0), (.int .i64 0)])⟩,
   ⟨(some 3), none, (.mv (.t 17))⟩,
   ⟨none, none, (.store 3 (.t 4) (.t 19))⟩])
 (.seq
 (.seq
 (.dreg [⟨(some 20), none, (.fieldAddr 0 1 (.t 4))⟩,
   ⟨(some 21), none, (.load1 (.t 20))⟩,
   ⟨(some 22), none, (.call 157 [(.t 21)])⟩,
   ⟨(some 23), none, (.un .not (.t 22))⟩,
   ⟨(some 24), none, (.mv (.t 23))⟩,
   ⟨(some 25), (some (24, false)), (.fieldAddr 2 1 (.t 4))⟩,
   ⟨(some 26), (some (24, false)), (.load1 (.t 25))⟩,
   ⟨(some 27), (some (24, false)), (.bin .lss .num (.t 26) (.c (.int .i64 1)))⟩,
   ⟨(some 28), none, (.pick (.t 24) (.c (.bool true)) (.t 27))⟩,
   ⟨(some 29), none, (.mv (.t 28))⟩,
   ⟨(some 30), (some (29, false)), (.fieldAddr 2 1 (.t 4))⟩,
   ⟨(some 31), (some (29, false)), (.load1 (.t 30))⟩,
   ⟨(some 32), (some (29, false)), (.bin .gtr .num (.t 31) (.c (.int .i64 8192)))⟩,
   ⟨(some 33), none, (.pick (.t 29) (.c (.bool true)) (.t 32))⟩,
   ⟨(some 34), none, (.mv (.t 33))⟩,
   ⟨(some 35), (some (34, false)), (.mv (.t 3))⟩,
   ⟨(some 36), (some (34, false)), (.bin .gtr .num (.t 35) (.c (.int .i64 0)))⟩,
   ⟨(some 37), (some (34, false)), (.mv (.t 36))⟩,
   ⟨(some 38), (some (37, true)), (.fieldAddr 2 1 (.t 4))⟩,
   ⟨(some 39), (some (37, true)), (.load1 (.t 38))⟩,
   ⟨(some 40), (some (37, true)), (.mv (.t 0))⟩,
   ⟨(some 41), (some (37, true)), (.mv (.t 3))⟩,
   ⟨(some 42), (some (37, true)), (.bin .sub .num (.t 41) (.c (.int .i64 1)))⟩,
   ⟨(some 43), (some (37, true)), (.ixSlice 3 (.t 40) (.t 42))⟩,
   ⟨(some 44), (some (37, true)), (.fieldAddr 2 1 (.t 43))⟩,
   ⟨(some 45), (some (37, true)), (.load1 (.t 44))⟩,
   ⟨(some 46), (some (37, true)), (.bin .leq .num (.t 39) (.t 45))⟩,
   ⟨(some 47), (some (34, false)), (.pick (.t 37) (.t 46) (.c (.bool false)))⟩,
   ⟨(some 48), none, (.pick (.t 34) (.c (.bool true)) (.t 47))⟩] [])
 (.cond (.t 48)
 (.seq
 (.reg [⟨(some 2), none, (.mv (.c (.int .i64 26)))⟩]) .ret) .skip))
 (.seq
 (.reg [⟨(some 49), none, (.mv (.t 0))⟩,
   ⟨(some 50), none, (.mv (.t 3))⟩,
   ⟨(some 51), none, (.cut 3 (.t 49) none (some (.t 50)) none)⟩,
   ⟨(some 52), none, (.mkFunc 240 [(.t 4)])⟩,
   ⟨(some 53), none, (.call 239 [(.t 51), (.t 52)])⟩])
 (.cond (.t 53)
 (.seq
 (.reg [⟨(some 2), none, (.mv (.c (.int .i64 26)))⟩]) .ret) .skip)))))
 (.reg [⟨(some 54), none, (.bin .add .num (.t 15) (.c (.int .i64 1)))⟩,
   ⟨(some 15), none, (.mv (.t 54))⟩]))))
/-- limelight/ctl.Layers -/
def af189 : AFunc := ⟨55, [(.tmp 2)],
 (.seq
 (.reg [⟨(some 2), none, (.mv (.c (.int .i64 0)))⟩])
 (.seq
 (.seq
 (.reg [⟨(some 5), none, (.mv (.t 0))⟩,
   ⟨(some 6), none, (.len (.t 5))⟩,
   ⟨(some 7), none, (.bin .lss .num (.t 6) (.c (.int .i64 1)))⟩,
   ⟨(some 8), none, (.mv (.t 7))⟩,
   ⟨(some 9), (some (8, false)), (.mv (.t 0))⟩,
   ⟨(some 10), (some (8, false)), (.len (.t 9))⟩,
   ⟨(some 11), (some (8, false)), (.bin .gtr .num (.t 10) (.c (.int .i64 3)))⟩,
   ⟨(some 12), none, (.pick (.t 8) (.c (.bool true)) (.t 11))⟩])
 (.cond (.t 12)
 (.seq
 (.reg [⟨(some 2), none, (.mv (.c (.int .i64 26)))⟩]) .ret) .skip))
 (.seq
 (.seq
 (.reg [⟨(some 13), none, (.mv (.t 0))⟩,
   ⟨(some 14), none, (.len (.t 13))⟩,
   ⟨(some 15), none, (.mv (.c (.int .i64 0)))⟩])
 (.block 0
 (.loop af189_l0)))
 (.seq
 (.reg [⟨(some 2), none, (.mv (.c (.int .i64 0)))⟩]) .ret))))⟩
theorem caf189 : cFunc Tryz.prog Tryz.f189 = some af189 := by kernel_rfl
/-- slices.Grow[[]byte,byte] -/
def af190 : AFunc := ⟨27, [(.tmp 4)],
 (.seq
 (.reg [⟨(some 4), none, (.mv (.c (.slice none 0 0 none)))⟩])
 (.seq
 (.seq
 (.reg [⟨(some 5), none, (.mv (.t 1))⟩,
   ⟨(some 6), none, (.bin .lss .num (.t 5) (.c (.int .i64 0)))⟩])
 (.cond (.t 6)
 (.reg [⟨(some 7), none, (.mkIface 9 (.c (.str [99, 97, 110, 110, 111, 116, 32, 98, 101, 32, 110, 101, 103, 97, 116, 105, 118, 101])))⟩,
   ⟨none, none, .stop⟩]) .skip))
 (.seq
 (.seq
 (.reg [⟨(some 8), none, (.mv (.t 1))⟩,
   ⟨(some 9), none, (.mv (.t 0))⟩,
   ⟨(some 10), none, (.cap (.t 9))⟩,
   ⟨(some 11), none, (.mv (.t 0))⟩,
   ⟨(some 12), none, (.len (.t 11))⟩,
   ⟨(some 13), none, (.bin .sub .num (.t 10) (.t 12))⟩,
   ⟨(some 14), none, (.bin .sub .num (.t 8) (.t 13))⟩,
   ⟨(some 1), none, (.mv (.t 14))⟩])
 (.seq
 (.reg [⟨(some 15), none, (.mv (.t 1))⟩,
   ⟨(some 16), none, (.bin .gtr .num (.t 15) (.c (.int .i64 0)))⟩])
 (.cond (.t 16)
 (.reg [⟨(some 17), none, (.mv (.t 0))⟩,
   ⟨(some 18), none, (.mv (.t 0))⟩,
   ⟨(some 19), none, (.cap (.t 18))⟩,
   ⟨(some 20), none, (.cut 1 (.t 17) none (some (.t 19)) none)⟩,
   ⟨(some 21), none, (.mv (.t 1))⟩,
   ⟨(some 22), none, (.appendZ 1 1 [(.int .u8 0)] (.t 20) (.t 21))⟩,
   ⟨(some 23), none, (.mv (.t 0))⟩,
   ⟨(some 24), none, (.len (.t 23))⟩,
   ⟨(some 25), none, (.cut 1 (.t 22) none (some (.t 24)) none)⟩,
   ⟨(some 0), none, (.mv (.t 25))⟩]) .skip)))
 (.seq
 (.reg [⟨(some 26), none, (.mv (.t 0))⟩,
   ⟨(some 4), none, (.mv (.t 26))⟩]) .ret))))⟩
theorem caf190 : cFunc Tryz.prog Tryz.f190 = some af190 := by kernel_rfl
/-- (*limelight/room.peer).publish -/
def af192 : AFunc := ⟨16, [(.tmp 4)],
 (.seq
 (.reg [⟨(some 4), none, (.mv (.c (.int .i64 0)))⟩])
 (.seq
 (.seq
 (.reg [⟨(some 5), none, (.mv (.t 0))⟩,
   ⟨(some 6), none, (.nilCheck (.t 5))⟩,
   ⟨(some 7), none, (.fieldAddr 2 1 (.t 6))⟩,
   ⟨(some 8), none, (.load1 (.t 7))⟩,
   ⟨(some 9), none, (.len (.t 8))⟩,
   ⟨(some 10), none, (.bin .gtr .num (.t 9) (.c (.int .i64 0)))⟩])
 (.cond (.t 10)
 (.seq
 (.reg [⟨(some 4), none, (.mv (.c (.int .i64 23)))⟩]) .ret) .skip))
 (.seq
 (.reg [⟨(some 11), none, (.mv (.t 0))⟩,
   ⟨(some 12), none, (.mv (.t 1))⟩,
   ⟨(some 13), none, (.call 128 [(.t 12)])⟩,
   ⟨(some 14), none, (.nilCheck (.t 11))⟩,
   ⟨(some 15), none, (.fieldAddr 2 1 (.t 14))⟩,
   ⟨none, none, (.store 1 (.t 15) (.t 13))⟩])
 (.seq
 (.reg [⟨(some 4), none, (.mv (.c (.int .i64 0)))⟩]) .ret))))⟩
theorem caf192 : cFunc Tryz.prog Tryz.f192 = some af192 := by kernel_rfl
/-- (*limelight/room.Room).sub -/
def af193 : AFunc := ⟨121, [(.tmp 6)],
 (.seq
 (.reg [⟨(some 5), none, (.box (.t 2))⟩,
   ⟨(some 6), none, (.mv (.c (.int .i64 0)))⟩])
 (.seq
 (.reg [⟨(some 10), none, (.mv (.t 0))⟩,
   ⟨(some 11), none, (.mv (.t 1))⟩,
   ⟨(some 12), none, (.nilCheck (.t 10))⟩,
   ⟨(some 13), none, (.fieldAddr 0 24 (.t 12))⟩,
   ⟨(some 14), none, (.ixArr 6 4 (.t 13) (.t 11))⟩,
   ⟨(some 7), none, (.mv (.t 14))⟩])
 (.seq
 (.dreg [⟨(some 16), none, (.mv (.t 7))⟩,
   ⟨(some 17), none, (.nilCheck (.t 16))⟩,
   ⟨(some 18), none, (.fieldAddr 3 1 (.t 17))⟩,
   ⟨(some 19), none, (.load1 (.t 18))⟩,
   ⟨(some 20), none, (.fieldAddr 3 1 (.t 5))⟩,
   ⟨(some 21), none, (.load1 (.t 20))⟩,
   ⟨(some 22), none, (.call 243 [(.t 19), (.t 21), (.c (.func 244 []))])⟩,
   ⟨(some 15), none, (.mv (.t 22))⟩,
   ⟨(some 23), none, (.extract 0 (.t 15))⟩,
   ⟨(some 24), none, (.extract 1 (.t 15))⟩,
   ⟨(some 8), none, (.mv (.t 23))⟩,
   ⟨(some 9), none, (.mv (.t 24))⟩] [])
 (.seq
 (.seq
 (.reg [⟨(some 25), none, (.fieldAddr 0 1 (.t 5))⟩,
   ⟨(some 26), none, (.load1 (.t 25))⟩,
   ⟨(some 27), none, (.bin .eql .num (.t 26) (.c (.int .i64 4)))⟩])
 (.cond (.t 27)
 (.seq
 (.block 0
 (.seq
 (.reg [⟨(some 29), none, (.fieldAddr 3 1 (.t 5))⟩,
   ⟨(some 30), none, (.load1 (.t 29))⟩,
   ⟨(some 31), none, (.mv (.t 1))⟩,
   ⟨(some 32), none, (.bin .eql .num (.t 30) (.t 31))⟩,
   ⟨(some 28), none, (.mv (.t 32))⟩])
 (.cond (.t 28)
 (.seq
 (.reg [⟨(some 6), none, (.mv (.c (.int .i64 25)))⟩]) .ret)
 (.seq
 (.dreg [⟨(some 34), none, (.mv (.t 0))⟩,
   ⟨(some 35), none, (.fieldAddr 3 1 (.t 5))⟩,
   ⟨(some 36), none, (.load1 (.t 35))⟩,
   ⟨(some 37), none, (.nilCheck (.t 34))⟩,
   ⟨(some 38), none, (.fieldAddr 0 24 (.t 37))⟩,
   ⟨(some 39), none, (.ixArr 6 4 (.t 38) (.t 36))⟩,
   ⟨(some 40), none, (.fieldAddr 0 1 (.t 39))⟩,
   ⟨(some 41), none, (.load1 (.t 40))⟩,
   ⟨(some 42), none, (.un .not (.t 41))⟩,
   ⟨(some 43), none, (.mv (.t 42))⟩,
   ⟨(some 44), (some (43, false)), (.mv (.t 0))⟩,
   ⟨(some 45), (some (43, false)), (.fieldAddr 3 1 (.t 5))⟩,
   ⟨(some 46), (some (43, false)), (.load1 (.t 45))⟩,
   ⟨(some 47), (some (43, false)), (.nilCheck (.t 44))⟩,
   ⟨(some 48), (some (43, false)), (.fieldAddr 0 24 (.t 47))⟩,
   ⟨(some 49), (some (43, false)), (.ixArr 6 4 (.t 48) (.t 46))⟩,
   ⟨(some 50), (some (43, false)), (.fieldAddr 2 1 (.t 49))⟩,
   ⟨(some 51), (some (43, false)), (.load1 (.t 50))⟩,
   ⟨(some 52), (some (43, false)), (.len (.t 51))⟩,
   ⟨(some 53), (some (43, false)), (.bin .eql .num (.t 52) (.c (.int .i64 0)))⟩,
   ⟨(some 54), none, (.pick (.t 43) (.c (.bool true)) (.t 53))⟩,
   ⟨(some 33), none, (.mv (.t 54))⟩] [])
 (.cond (.t 33)
 (.seq
 (.reg [⟨(some 6), none, (.mv (.c (.int .i64 22)))⟩]) .ret)
 (.seq
 (.reg [⟨(some 56), none, (.mv (.t 9))⟩,
   ⟨(some 55), none, (.mv (.t 56))⟩])
 (.cond (.t 55)
 (.seq
 (.reg [⟨(some 6), none, (.mv (.c (.int .i64 23)))⟩]) .ret)
 (.seq
 (.reg [⟨(some 58), none, (.mv (.t 7))⟩,
   ⟨(some 59), none, (.nilCheck (.t 58))⟩,
   ⟨(some 60), none, (.fieldAddr 3 1 (.t 59))⟩,
   ⟨(some 61), none, (.load1 (.t 60))⟩,
   ⟨(some 62), none, (.len (.t 61))⟩,
   ⟨(some 63), none, (.bin .geq .num (.t 62) (.c (.int .i64 4)))⟩,
   ⟨(some 57), none, (.mv (.t 63))⟩])
 (.cond (.t 57)
 (.seq
 (.reg [⟨(some 6), none, (.mv (.c (.int .i64 24)))⟩]) .ret) .skip)))))))))
 (.seq
 (.dreg [⟨(some 64), none, (.mv (.t 7))⟩,
   ⟨(some 65), none, (.mv (.t 7))⟩,
   ⟨(some 66), none, (.nilCheck (.t 65))⟩,
   ⟨(some 67), none, (.fieldAddr 3 1 (.t 66))⟩,
   ⟨(some 68), none, (.load1 (.t 67))⟩,
   ⟨(some 69), none, (.mv (.t 8))⟩,
   ⟨(some 70), none, (.fieldAddr 3 1 (.t 5))⟩,
   ⟨(some 71), none, (.load1 (.t 70))⟩,
   ⟨(some 72), none, (.fieldAddr 4 1 (.t 5))⟩,
   ⟨(some 73), none, (.load1 (.t 72))⟩,
   ⟨(some 74), none, (.fieldAddr 5 1 (.t 5))⟩,
   ⟨(some 75), none, (.load1 (.t 74))⟩,
   ⟨(some 76), none, (.build [(.int .i64 0), (.int .i64 0), (.int .i64 0)] [(0, (1, (.t 71))), (1, (1, (.t 73))), (2, (1, (.t 75)))])⟩,
   ⟨(some 77), none, (.buildSlice 3 [(.int .i64 0), (.int .i64 0), (.int .i64 0)] 1 [(0, (3, (.t 76)))])⟩,
   ⟨(some 78), none, (.call 246 [(.t 68), (.t 69), (.t 77)])⟩,
   ⟨(some 79), none, (.nilCheck (.t 64))⟩,
   ⟨(some 80), none, (.fieldAddr 3 1 (.t 79))⟩,
   ⟨none, none, (.store 1 (.t 80) (.t 78))⟩] [(4, 14)])
 (.seq
 (.reg [⟨(some 6), none, (.mv (.c (.int .i64 0)))⟩]) .ret))) .skip))
 (.seq
 (.block 1
 (.seq
 (.reg [⟨(some 91), none, (.mv (.t 9))⟩,
   ⟨(some 92), none, (.un .not (.t 91))⟩,
   ⟨(some 90), none, (.mv (.t 92))⟩])
 (.cond (.t 90)
 (.seq
 (.reg [⟨(some 6), none, (.mv (.c (.int .i64 22)))⟩]) .ret)
 (.seq
 (.reg [⟨(some 94), none, (.fieldAddr 0 1 (.t 5))⟩,
   ⟨(some 95), none, (.load1 (.t 94))⟩,
   ⟨(some 96), none, (.bin .eql .num (.t 95) (.c (.int .i64 5)))⟩,
   ⟨(some 93), none, (.mv (.t 96))⟩])
 (.cond (.t 93)
 (.reg [⟨(some 97), none, (.mv (.t 7))⟩,
   ⟨(some 98), none, (.mv (.t 7))⟩,
   ⟨(some 99), none, (.nilCheck (.t 98))⟩,
   ⟨(some 100), none, (.fieldAddr 3 1 (.t 99))⟩,
   ⟨(some 101), none, (.load1 (.t 100))⟩,
   ⟨(some 102), none, (.mv (.t 8))⟩,
   ⟨(some 103), none, (.mv (.t 8))⟩,
   ⟨(some 104), none, (.bin .add .num (.t 103) (.c (.int .i64 1)))⟩,
   ⟨(some 105), none, (.call 247 [(.t 101), (.t 102), (.t 104)])⟩,
   ⟨(some 106), none, (.nilCheck (.t 97))⟩,
   ⟨(some 107), none, (.fieldAddr 3 1 (.t 106))⟩,
   ⟨none, none, (.store 1 (.t 107) (.t 105))⟩])
 (.seq
 (.reg [⟨(some 109), none, (.fieldAddr 0 1 (.t 5))⟩,
   ⟨(some 110), none, (.load1 (.t 109))⟩,
   ⟨(some 111), none, (.bin .eql .num (.t 110) (.c (.int .i64 6)))⟩,
   ⟨(some 108), none, (.mv (.t 111))⟩])
 (.cond (.t 108)
 (.dreg [⟨(some 112), none, (.mv (.t 7))⟩,
   ⟨(some 113), none, (.nilCheck (.t 112))⟩,
   ⟨(some 114), none, (.fieldAddr 3 1 (.t 113))⟩,
   ⟨(some 115), none, (.load1 (.t 114))⟩,
   ⟨(some 116), none, (.mv (.t 8))⟩,
   ⟨(some 117), none, (.fieldAddr 4 1 (.t 5))⟩,
   ⟨(some 118), none, (.load1 (.t 117))⟩,
   ⟨(some 119), none, (.ixSlice 3 (.t 115) (.t 116))⟩,
   ⟨(some 120), none, (.fieldAddr 1 1 (.t 119))⟩,
   ⟨none, none, (.store 1 (.t 120) (.t 118))⟩] [])
 (.dreg [⟨(some 81), none, (.mv (.t 7))⟩,
   ⟨(some 82), none, (.nilCheck (.t 81))⟩,
   ⟨(some 83), none, (.fieldAddr 3 1 (.t 82))⟩,
   ⟨(some 84), none, (.load1 (.t 83))⟩,
   ⟨(some 85), none, (.mv (.t 8))⟩,
   ⟨(some 86), none, (.fieldAddr 5 1 (.t 5))⟩,
   ⟨(some 87), none, (.load1 (.t 86))⟩,
   ⟨(some 88), none, (.ixSlice 3 (.t 84) (.t 85))⟩,
   ⟨(some 89), none, (.fieldAddr 2 1 (.t 88))⟩,
   ⟨none, none, (.store 1 (.t 89) (.t 87))⟩] []))))))))
 (.seq
 (.reg [⟨(some 6), none, (.mv (.c (.int .i64 0)))⟩]) .ret))))))⟩
theorem caf193 : cFunc Tryz.prog Tryz.f193 = some af193 := by kernel_rfl
/-- limelight/alarm.New -/
def af194 : AFunc := ⟨3, [(.tmp 0)],
 (.seq
 (.reg [⟨(some 0), none, (.mv (.c (.ptr none)))⟩])
 (.seq
 (.reg [⟨(some 1), none, (.build [(.slice none 0 0 none)] [])⟩,
   ⟨(some 2), none, (.box (.t 1))⟩,
   ⟨(some 0), none, (.mv (.t 2))⟩]) .ret))⟩
theorem caf194 : cFunc Tryz.prog Tryz.f194 = some af194 := by kernel_rfl
/-- limelight/bucket.New -/
def af195 : AFunc := ⟨14, [(.tmp 4)],
 (.seq
 (.reg [⟨(some 4), none, (.mv (.c (.ptr none)))⟩])
 (.seq
 (.reg [⟨(some 5), none, (.mv (.t 0))⟩,
   ⟨(some 6), none, (.call 167 [(.t 5)])⟩,
   ⟨(some 7), none, (.mv (.t 1))⟩,
   ⟨(some 8), none, (.call 167 [(.t 7)])⟩,
   ⟨(some 9), none, (.mv (.t 1))⟩,
   ⟨(some 10), none, (.call 167 [(.t 9)])⟩,
   ⟨(some 11), none, (.call 125 [(.t 10), (.c (.int .i64 1000000))])⟩,
   ⟨(some 12), none, (.build [(.int .i64 0), (.int .i64 0), (.int .i64 0)] [(0, (1, (.t 6))), (1, (1, (.t 8))), (2, (1, (.t 11)))])⟩,
   ⟨(some 13), none, (.box (.t 12))⟩,
   ⟨(some 4), none, (.mv (.t 13))⟩]) .ret))⟩
theorem caf195 : cFunc Tryz.prog Tryz.f195 = some af195 := by kernel_rfl
def af197_l0 : AC :=
 (.seq
 (.reg [⟨(some 14), none, (.bin .lss .num (.t 13) (.t 12))⟩])
 (.seq
 (.cond (.t 14) .skip (.exit 0))
 (.seq
 (.block 1
 (.seq
 (.reg [⟨(some 15), none, (.ixSlice 3 (.t 11) (.t 13))⟩,
   ⟨(some 16), none, (.loadN 3 (.t 15))⟩,
   ⟨(some 5), none, (.alloc [(.str []), (.int .u32 0), (.int .i64 0)])⟩,
   ⟨none, none, (.store 3 (.t 5) (.t 16))⟩])
 (.dreg [⟨(some 17), none, (.mv (.t 3))⟩,
   ⟨(some 18), none, (.mv (.t 3))⟩,
   ⟨(some 19), none, (.nilCheck (.t 18))⟩,
   ⟨(some 20), none, (.fieldAddr 0 1 (.t 19))⟩,
   ⟨(some 21), none, (.load1 (.t 20))⟩,
   ⟨(some 22), none, (.loadN 3 (.t 5))⟩,
   ⟨(some 23), none, (.call 248 [])⟩,
   ⟨(some 24), none, (.call 249 [])⟩,
   ⟨(some 25), none, (.build [(.str []), (.int .u32 0), (.int .i64 0), (.ptr none), (.ptr none), (.bool false), (.int .i64 0), (.bool false), (.bool false), (.int .i64 0)] [(0, (3, (.t 22))), (3, (1, (.t 23))), (4, (1, (.t 24)))])⟩,
   ⟨(some 26), none, (.buildSlice 10 [(.str []), (.int .u32 0), (.int .i64 0), (.ptr none), (.ptr none), (.bool false), (.int .i64 0), (.bool false), (.bool false), (.int .i64 0)] 1 [(0, (10, (.t 25)))])⟩,
   ⟨(some 27), none, (.append 10 80 (.t 21) (.t 26))⟩,
   ⟨(some 28), none, (.nilCheck (.t 17))⟩,
   ⟨(some 29), none, (.fieldAddr 0 1 (.t 28))⟩,
   ⟨none, none, (.store 1 (.t 29) (.t 27))⟩] [(4, 7), (4, 8), (4, 10), (5, 7), (5, 8)])))
 (.reg [⟨(some 30), none, (.bin .add .num (.t 13) (.c (.int .i64 1)))⟩,
   ⟨(some 13), none, (.mv (.t 30))⟩]))))
/-- limelight/layer.New -/
def af197 : AFunc := ⟨32, [(.tmp 2)],
 (.seq
 (.reg [⟨(some 2), none, (.mv (.c (.ptr none)))⟩])
 (.seq
 (.seq
 (.reg [⟨(some 6), none, (.mv (.t 0))⟩,
   ⟨(some 7), none, (.call 189 [(.t 6)])⟩,
   ⟨(some 8), none, (.bin .neq .num (.t 7) (.c (.int .i64 0)))⟩])
 (.cond (.t 8)
 (.seq
 (.reg [⟨(some 2), none, (.mv (.c (.ptr none)))⟩]) .ret) .skip))
 (.seq
 (.reg [⟨(some 9), none, (.build [(.slice none 0 0 none)] [])⟩,
   ⟨(some 10), none, (.box (.t 9))⟩,
   ⟨(some 3), none, (.mv (.t 10))⟩])
 (.seq
 (.seq
 (.reg [⟨(some 11), none, (.mv (.t 0))⟩,
   ⟨(some 12), none, (.len (.t 11))⟩,
   ⟨(some 13), none, (.mv (.c (.int .i64 0)))⟩])
 (.block 0
 (.loop af197_l0)))
 (.seq
 (.reg [⟨(some 31), none, (.mv (.t 3))⟩,
   ⟨(some 2), none, (.mv (.t 31))⟩]) .ret)))))⟩
theorem caf197 : cFunc Tryz.prog Tryz.f197 = some af197 := by kernel_rfl
/-- limelight/watch.New -/
def af198 : AFunc := ⟨13, [(.tmp 2)],
 (.seq
 (.reg [⟨(some 2), none, (.mv (.c (.ptr none)))⟩])
 (.seq
 (.seq
 (.reg [⟨(some 3), none, (.mv (.t 0))⟩,
   ⟨(some 4), none, (.bin .lss .num (.t 3) (.c (.int .i64 1)))⟩,
   ⟨(some 5), none, (.mv (.t 4))⟩,
   ⟨(some 6), (some (5, false)), (.mv (.t 0))⟩,
   ⟨(some 7), (some (5, false)), (.bin .gtr .num (.t 6) (.c (.int .i64 3)))⟩,
   ⟨(some 8), none, (.pick (.t 5) (.c (.bool true)) (.t 7))⟩])
 (.cond (.t 8)
 (.seq
 (.reg [⟨(some 2), none, (.mv (.c (.ptr none)))⟩]) .ret) .skip))
 (.seq
 (.reg [⟨(some 9), none, (.mv (.t 0))⟩,
   ⟨(some 10), none, (.mkSlice 2 16 [(.int .i64 0), (.bool false)] (.t 9) (.t 9))⟩,
   ⟨(some 11), none, (.build [(.slice none 0 0 none)] [(0, (1, (.t 10)))])⟩,
   ⟨(some 12), none, (.box (.t 11))⟩,
   ⟨(some 2), none, (.mv (.t 12))⟩]) .ret)))⟩
theorem caf198 : cFunc Tryz.prog Tryz.f198 = some af198 := by kernel_rfl
/-- limelight/write.New -/
def af199 : AFunc := ⟨6, [(.tmp 2)],
 (.seq
 (.reg [⟨(some 2), none, (.mv (.c (.ptr none)))⟩])
 (.seq
 (.reg [⟨(some 3), none, (.mv (.t 0))⟩,
   ⟨(some 4), none, (.build [(.int .u32 0), (.int .i64 0), (.int .i64 0), (.int .i64 0), (.int .i64 0), (.int .i64 0), (.int .i64 0), (.int .i64 0), (.int .i64 0)] [(0, (1, (.t 3))), (1, (1, (.c (.int .i64 (-1))))), (2, (1, (.c (.int .i64 (-1))))), (4, (1, (.c (.int .i64 (-1)))))])⟩,
   ⟨(some 5), none, (.box (.t 4))⟩,
   ⟨(some 2), none, (.mv (.t 5))⟩]) .ret))⟩
theorem caf199 : cFunc Tryz.prog Tryz.f199 = some af199 := by kernel_rfl
/-- slices.SortFunc[[]*limelight/sfu.sub,*limelight/sfu.sub] -/
def af200 : AFunc := ⟨14, [],
 (.seq
 (.reg [⟨(some 5), none, (.mv (.t 0))⟩,
   ⟨(some 6), none, (.len (.t 5))⟩,
   ⟨(some 4), none, (.mv (.t 6))⟩])
 (.reg [⟨(some 7), none, (.mv (.t 0))⟩,
   ⟨(some 8), none, (.mv (.t 4))⟩,
   ⟨(some 9), none, (.mv (.t 4))⟩,
   ⟨(some 10), none, (.conv (.int .u64) (.t 9))⟩,
   ⟨(some 11), none, (.call 251 [(.t 10)])⟩,
   ⟨(some 12), none, (.mv (.t 1))⟩,
   ⟨(some 13), none, (.call 250 [(.t 7), (.c (.int .i64 0)), (.t 8), (.t 11), (.t 12)])⟩]))⟩
theorem caf200 : cFunc Tryz.prog Tryz.f200 = some af200 := by kernel_rfl
/-- (*limelight/alarm.Table).Clear -/
def af207 : AFunc := ⟨24, [(.tmp 4)],
 (.seq
 (.reg [⟨(some 4), none, (.mv (.c (.bool false)))⟩])
 (.seq
 (.reg [⟨(some 6), none, (.mv (.t 0))⟩,
   ⟨(some 7), none, (.mv (.t 1))⟩,
   ⟨(some 8), none, (.call 254 [(.t 6), (.t 7)])⟩,
   ⟨(some 5), none, (.mv (.t 8))⟩])
 (.seq
 (.seq
 (.reg [⟨(some 9), none, (.mv (.t 5))⟩,
   ⟨(some 10), none, (.bin .geq .num (.t 9) (.c (.int .i64 0)))⟩])
 (.cond (.t 10)
 (.reg [⟨(some 11), none, (.mv (.t 0))⟩,
   ⟨(some 12), none, (.mv (.t 0))⟩,
   ⟨(some 13), none, (.nilCheck (.t 12))⟩,
   ⟨(some 14), none, (.fieldAddr 0 1 (.t 13))⟩,
   ⟨(some 15), none, (.load1 (.t 14))⟩,
   ⟨(some 16), none, (.mv (.t 5))⟩,
   ⟨(some 17), none, (.mv (.t 5))⟩,
   ⟨(some 18), none, (.bin .add .num (.t 17) (.c (.int .i64 1)))⟩,
   ⟨(some 19), none, (.call 255 [(.t 15), (.t 16), (.t 18)])⟩,
   ⟨(some 20), none, (.nilCheck (.t 11))⟩,
   ⟨(some 21), none, (.fieldAddr 0 1 (.t 20))⟩,
   ⟨none, none, (.store 1 (.t 21) (.t 19))⟩]) .skip))
 (.seq
 (.reg [⟨(some 22), none, (.mv (.t 5))⟩,
   ⟨(some 23), none, (.bin .geq .num (.t 22) (.c (.int .i64 0)))⟩,
   ⟨(some 4), none, (.mv (.t 23))⟩]) .ret))))⟩
theorem caf207 : cFunc Tryz.prog Tryz.f207 = some af207 := by kernel_rfl
/-- slices.SortFunc[[]limelight/alarm.Due,limelight/alarm.Due] -/
def af208 : AFunc := ⟨14, [],
 (.seq
 (.reg [⟨(some 5), none, (.mv (.t 0))⟩,
   ⟨(some 6), none, (.len (.t 5))⟩,
   ⟨(some 4), none, (.mv (.t 6))⟩])
 (.reg [⟨(some 7), none, (.mv (.t 0))⟩,
   ⟨(some 8), none, (.mv (.t 4))⟩,
   ⟨(some 9), none, (.mv (.t 4))⟩,
   ⟨(some 10), none, (.conv (.int .u64) (.t 9))⟩,
   ⟨(some 11), none, (.call 251 [(.t 10)])⟩,
   ⟨(some 12), none, (.mv (.t 1))⟩,
   ⟨(some 13), none, (.call 256 [(.t 7), (.c (.int .i64 0)), (.t 8), (.t 11), (.t 12)])⟩]))⟩
theorem caf208 : cFunc Tryz.prog Tryz.f208 = some af208 := by kernel_rfl
def af213_l0 : AC :=
 (.seq
 (.reg [⟨(some 9), none, (.bin .lss .num (.t 8) (.t 7))⟩])
 (.seq
 (.cond (.t 9) .skip (.exit 0))
 (.seq
 (.block 1
 (.seq
 (.reg [⟨(some 10), none, (.ixSlice 3 (.t 6) (.t 8))⟩,
   ⟨(some 11), none, (.loadN 3 (.t 10))⟩,
   ⟨(some 5), none, (.alloc [(.int .u32 0), (.int .u64 0), (.int .i64 0)])⟩,
   ⟨none, none, (.store 3 (.t 5) (.t 11))⟩])
 (.reg [⟨(some 12), none, (.mv (.t 3))⟩,
   ⟨(some 13), none, (.loadN 3 (.t 5))⟩,
   ⟨(some 14), none, (.call 259 [(.t 13)])⟩,
   ⟨(some 15), none, (.buildSlice 3 [(.int .u32 0), (.int .u64 0), (.int .i64 0)] 1 [(0, (3, (.t 14)))])⟩,
   ⟨(some 16), none, (.append 3 24 (.t 12) (.t 15))⟩,
   ⟨(some 3), none, (.mv (.t 16))⟩])))
 (.reg [⟨(some 17), none, (.bin .add .num (.t 8) (.c (.int .i64 1)))⟩,
   ⟨(some 8), none, (.mv (.t 17))⟩]))))
/-- limelight/bound.all -/
def af213 : AFunc := ⟨19, [(.tmp 2)],
 (.seq
 (.reg [⟨(some 2), none, (.mv (.c (.slice none 0 0 none)))⟩])
 (.seq
 (.reg [⟨(some 3), none, (.mv (.c (.slice none 0 0 none)))⟩])
 (.seq
 (.seq
 (.reg [⟨(some 6), none, (.mv (.t 0))⟩,
   ⟨(some 7), none, (.len (.t 6))⟩,
   ⟨(some 8), none, (.mv (.c (.int .i64 0)))⟩])
 (.block 0
 (.loop af213_l0)))
 (.seq
 (.reg [⟨(some 18), none, (.mv (.t 3))⟩,
   ⟨(some 2), none, (.mv (.t 18))⟩]) .ret))))⟩
theorem caf213 : cFunc Tryz.prog Tryz.f213 = some af213 := by kernel_rfl
def af214_l0 : AC :=
 (.seq
 (.seq
 (.reg [⟨(some 14), none, (.mv (.t 6))⟩,
   ⟨(some 15), none, (.mv (.t 0))⟩,
   ⟨(some 16), none, (.len (.t 15))⟩,
   ⟨(some 17), none, (.bin .lss .num (.t 14) (.t 16))⟩])
 (.cond (.t 17) .skip (.exit 0)))
 (.seq
 (.block 1
 (.seq
 (.dreg [⟨(some 20), none, (.mv (.t 1))⟩,
   ⟨(some 21), none, (.mv (.t 0))⟩,
   ⟨(some 22), none, (.mv (.t 6))⟩,
   ⟨(some 23), none, (.ixSlice 3 (.t 21) (.t 22))⟩,
   ⟨(some 24), none, (.loadN 3 (.t 23))⟩,
   ⟨(some 25), none, (.loadN 3 (.t 5))⟩,
   ⟨(some 26), none, (.callV (.t 20) [(.t 24), (.t 25)])⟩,
   ⟨(some 27), none, (.bin .lss .num (.t 26) (.c (.int .i64 0)))⟩] [])
 (.cond (.t 27)
 (.reg [⟨(some 28), none, (.mv (.t 0))⟩,
   ⟨(some 29), none, (.mv (.t 6))⟩,
   ⟨(some 30), none, (.ixSlice 3 (.t 28) (.t 29))⟩,
   ⟨(some 31), none, (.loadN 3 (.t 30))⟩,
   ⟨none, none, (.store 3 (.t 5) (.t 31))⟩]) .skip)))
 (.reg [⟨(some 18), none, (.mv (.t 6))⟩,
   ⟨(some 19), none, (.bin .add .num (.t 18) (.c (.int .i64 1)))⟩,
   ⟨(some 6), none, (.mv (.t 19))⟩])))
/-- slices.MinFunc[[]limelight/api.Tuple,limelight/api.Tuple] -/
def af214 : AFunc := ⟨33, [(.cellN 4 3)],
 (.seq
 (.reg [⟨(some 4), none, (.alloc [(.int .u32 0), (.int .u64 0), (.int .i64 0)])⟩])
 (.seq
 (.seq
 (.reg [⟨(some 7), none, (.mv (.t 0))⟩,
   ⟨(some 8), none, (.len (.t 7))⟩,
   ⟨(some 9), none, (.bin .lss .num (.t 8) (.c (.int .i64 1)))⟩])
 (.cond (.t 9)
 (.reg [⟨(some 10), none, (.mkIface 9 (.c (.str [115, 108, 105, 99, 101, 115, 46, 77, 105, 110, 70, 117, 110, 99, 58, 32, 101, 109, 112, 116, 121, 32, 108, 105, 115, 116])))⟩,
   ⟨none, none, .stop⟩]) .skip))
 (.seq
 (.reg [⟨(some 11), none, (.mv (.t 0))⟩,
   ⟨(some 12), none, (.ixSlice 3 (.t 11) (.c (.int .i64 0)))⟩,
   ⟨(some 13), none, (.loadN 3 (.t 12))⟩,
   ⟨(some 5), none, (.alloc [(.int .u32 0), (.int .u64 0), (.int .i64 0)])⟩,
   ⟨none, none, (.store 3 (.t 5) (.t 13))⟩])
 (.seq
 (.seq
 (.reg [⟨(some 6), none, (.mv (.c (.int .i64 1)))⟩])
 (.block 0
 (.loop af214_l0)))
 (.seq
 (.reg [⟨(some 32), none, (.loadN 3 (.t 5))⟩,
   ⟨none, none, (.store 3 (.t 4) (.t 32))⟩]) .ret)))))⟩
theorem caf214 : cFunc Tryz.prog Tryz.f214 = some af214 := by kernel_rfl
def af217_l0 : AC :=
 (.seq
 (.reg [⟨(some 13), none, (.bin .lss .num (.t 12) (.t 11))⟩])
 (.seq
 (.cond (.t 13) .skip (.exit 0))
 (.seq
 (.block 1
 (.seq
 (.reg [⟨(some 14), none, (.ixSlice 3 (.t 10) (.t 12))⟩,
   ⟨(some 15), none, (.loadN 3 (.t 14))⟩,
   ⟨(some 8), none, (.alloc [(.int .u32 0), (.int .u64 0), (.int .i64 0)])⟩,
   ⟨none, none, (.store 3 (.t 8) (.t 15))⟩])
 (.seq
 (.reg [⟨(some 16), none, (.fieldAddr 2 1 (.t 8))⟩,
   ⟨(some 17), none, (.load1 (.t 16))⟩,
   ⟨(some 18), none, (.fieldAddr 2 1 (.t 3))⟩,
   ⟨(some 19), none, (.load1 (.t 18))⟩,
   ⟨(some 20), none, (.bin .gtr .num (.t 17) (.t 19))⟩])
 (.cond (.t 20)
 (.reg [⟨(some 21), none, (.mv (.t 6))⟩,
   ⟨(some 22), none, (.loadN 3 (.t 8))⟩,
   ⟨(some 23), none, (.buildSlice 3 [(.int .u32 0), (.int .u64 0), (.int .i64 0)] 1 [(0, (3, (.t 22)))])⟩,
   ⟨(some 24), none, (.append 3 24 (.t 21) (.t 23))⟩,
   ⟨(some 6), none, (.mv (.t 24))⟩]) .skip))))
 (.reg [⟨(some 25), none, (.bin .add .num (.t 12) (.c (.int .i64 1)))⟩,
   ⟨(some 12), none, (.mv (.t 25))⟩]))))
/-- limelight/bound.next -/
def af217 : AFunc := ⟨53, [(.cellN 4 3), (.tmp 5)],
 (.seq
 (.reg [⟨(some 3), none, (.box (.t 1))⟩,
   ⟨(some 4), none, (.alloc [(.int .u32 0), (.int .u64 0), (.int .i64 0)])⟩,
   ⟨(some 5), none, (.mv (.c (.bool false)))⟩])
 (.seq
 (.reg [⟨(some 6), none, (.mv (.c (.slice none 0 0 none)))⟩])
 (.seq
 (.seq
 (.reg [⟨(some 10), none, (.mv (.t 0))⟩,
   ⟨(some 11), none, (.len (.t 10))⟩,
   ⟨(some 12), none, (.mv (.c (.int .i64 0)))⟩])
 (.block 0
 (.loop af217_l0)))
 (.seq
 (.seq
 (.reg [⟨(some 26), none, (.mv (.t 6))⟩,
   ⟨(some 27), none, (.len (.t 26))⟩,
   ⟨(some 28), none, (.bin .eql .num (.t 27) (.c (.int .i64 0)))⟩])
 (.cond (.t 28)
 (.seq
 (.reg [⟨(some 29), none, (.build [(.int .u32 0), (.int .u64 0), (.int .i64 0)] [])⟩,
   ⟨none, none, (.store 3 (.t 4) (.t 29))⟩,
   ⟨(some 5), none, (.mv (.c (.bool false)))⟩]) .ret) .skip))
 (.seq
 (.reg [⟨(some 30), none, (.mv (.t 6))⟩,
   ⟨(some 31), none, (.mkFunc 260 [(.t 3)])⟩,
   ⟨(some 32), none, (.call 214 [(.t 30), (.t 31)])⟩,
   ⟨(some 9), none, (.alloc [(.int .u32 0), (.int .u64 0), (.int .i64 0)])⟩,
   ⟨none, none, (.store 3 (.t 9) (.t 32))⟩])
 (.seq
 (.dreg [⟨(some 33), none, (.loadN 3 (.t 9))⟩,
   ⟨(some 34), none, (.fieldAddr 1 1 (.t 3))⟩,
   ⟨(some 35), none, (.load1 (.t 34))⟩,
   ⟨(some 36), none, (.fieldAddr 2 1 (.t 9))⟩,
   ⟨(some 37), none, (.load1 (.t 36))⟩,
   ⟨(some 38), none, (.fieldAddr 2 1 (.t 3))⟩,
   ⟨(some 39), none, (.load1 (.t 38))⟩,
   ⟨(some 40), none, (.bin .sub .num (.t 37) (.t 39))⟩,
   ⟨(some 41), none, (.conv (.int .u64) (.t 40))⟩,
   ⟨(some 42), none, (.bin .mul .num (.t 35) (.t 41))⟩,
   ⟨(some 43), none, (.fieldAddr 2 1 (.t 3))⟩,
   ⟨(some 44), none, (.load1 (.t 43))⟩,
   ⟨(some 45), none, (.conv (.int .u64) (.t 44))⟩,
   ⟨(some 46), none, (.fieldAddr 1 1 (.t 9))⟩,
   ⟨(some 47), none, (.load1 (.t 46))⟩,
   ⟨(some 48), none, (.fieldAddr 1 1 (.t 3))⟩,
   ⟨(some 49), none, (.load1 (.t 48))⟩,
   ⟨(some 50), none, (.bin .sub .num (.t 47) (.t 49))⟩,
   ⟨(some 51), none, (.bin .mul .num (.t 45) (.t 50))⟩,
   ⟨(some 52), none, (.bin .gtr .num (.t 42) (.t 51))⟩,
   ⟨none, none, (.store 3 (.t 4) (.t 33))⟩,
   ⟨(some 5), none, (.mv (.t 52))⟩] [(2, 21), (4, 21), (6, 21), (11, 21), (14, 21), (16, 21)]) .ret))))))⟩
theorem caf217 : cFunc Tryz.prog Tryz.f217 = some af217 := by kernel_rfl
/-- slices.Clip[[]limelight/api.Tuple,limelight/api.Tuple] -/
def af218 : AFunc := ⟨9, [(.tmp 2)],
 (.seq
 (.reg [⟨(some 2), none, (.mv (.c (.slice none 0 0 none)))⟩])
 (.seq
 (.reg [⟨(some 3), none, (.mv (.t 0))⟩,
   ⟨(some 4), none, (.mv (.t 0))⟩,
   ⟨(some 5), none, (.len (.t 4))⟩,
   ⟨(some 6), none, (.mv (.t 0))⟩,
   ⟨(some 7), none, (.len (.t 6))⟩,
   ⟨(some 8), none, (.cut 3 (.t 3) none (some (.t 5)) (some (.t 7)))⟩,
   ⟨(some 2), none, (.mv (.t 8))⟩]) .ret))⟩
theorem caf218 : cFunc Tryz.prog Tryz.f218 = some af218 := by kernel_rfl
/-- limelight/ext.next -/
def af219 : AFunc := ⟨63, [(.tmp 6), (.tmp 7), (.tmp 8), (.tmp 9)],
 (.seq
 (.reg [⟨(some 6), none, (.mv (.c (.int .i64 0)))⟩,
   ⟨(some 7), none, (.mv (.c (.int .i64 0)))⟩,
   ⟨(some 8), none, (.mv (.c (.int .i64 0)))⟩,
   ⟨(some 9), none, (.mv (.c (.bool false)))⟩])
 (.seq
 (.seq
 (.reg [⟨(some 10), none, (.mv (.t 0))⟩,
   ⟨(some 11), none, (.bin .eql .num (.t 10) (.c (.int .u16 48862)))⟩])
 (.cond (.t 11)
 (.seq
 (.dreg [⟨(some 12), none, (.mv (.t 1))⟩,
   ⟨(some 13), none, (.mv (.t 2))⟩,
   ⟨(some 14), none, (.ixSlice 1 (.t 12) (.t 13))⟩,
   ⟨(some 15), none, (.load1 (.t 14))⟩,
   ⟨(some 16), none, (.conv (.int .i64) (.t 15))⟩,
   ⟨(some 17), none, (.bin .shr .num (.t 16) (.c (.int .u64 4)))⟩,
   ⟨(some 18), none, (.mv (.t 1))⟩,
   ⟨(some 19), none, (.mv (.t 2))⟩,
   ⟨(some 20), none, (.ixSlice 1 (.t 18) (.t 19))⟩,
   ⟨(some 21), none, (.load1 (.t 20))⟩,
   ⟨(some 22), none, (.bin .and .num (.t 21) (.c (.int .u8 15)))⟩,
   ⟨(some 23), none, (.conv (.int .i64) (.t 22))⟩,
   ⟨(some 24), none, (.bin .add .num (.t 23) (.c (.int .i64 1)))⟩,
   ⟨(some 25), none, (.mv (.t 2))⟩,
   ⟨(some 26), none, (.bin .add .num (.t 25) (.c (.int .i64 1)))⟩,
   ⟨(some 6), none, (.mv (.t 17))⟩,
   ⟨(some 7), none, (.mv (.t 24))⟩,
   ⟨(some 8), none, (.mv (.t 26))⟩] [])
 (.seq
 (.reg [⟨(some 27), none, (.mv (.t 6))⟩,
   ⟨(some 28), none, (.mv (.t 7))⟩,
   ⟨(some 29), none, (.mv (.t 8))⟩,
   ⟨(some 30), none, (.mv (.t 6))⟩,
   ⟨(some 31), none, (.bin .neq .num (.t 30) (.c (.int .i64 0)))⟩,
   ⟨(some 32), none, (.mv (.t 31))⟩,
   ⟨(some 33), (some (32, true)), (.mv (.t 6))⟩,
   ⟨(some 34), (some (32, true)), (.bin .neq .num (.t 33) (.c (.int .i64 15)))⟩,
   ⟨(some 35), none, (.pick (.t 32) (.t 34) (.c (.bool false)))⟩,
   ⟨(some 6), none, (.mv (.t 27))⟩,
   ⟨(some 7), none, (.mv (.t 28))⟩,
   ⟨(some 8), none, (.mv (.t 29))⟩,
   ⟨(some 9), none, (.mv (.t 35))⟩]) .ret)) .skip))
 (.seq
 (.seq
 (.reg [⟨(some 36), none, (.mv (.t 2))⟩,
   ⟨(some 37), none, (.bin .add .num (.t 36) (.c (.int .i64 1)))⟩,
   ⟨(some 38), none, (.mv (.t 1))⟩,
   ⟨(some 39), none, (.len (.t 38))⟩,
   ⟨(some 40), none, (.bin .geq .num (.t 37) (.t 39))⟩])
 (.cond (.t 40)
 (.seq
 (.reg [⟨(some 41), none, (.mv (.t 1))⟩,
   ⟨(some 42), none, (.mv (.t 2))⟩,
   ⟨(some 43), none, (.ixSlice 1 (.t 41) (.t 42))⟩,
   ⟨(some 44), none, (.load1 (.t 43))⟩,
   ⟨(some 45), none, (.conv (.int .i64) (.t 44))⟩,
   ⟨(some 46), none, (.mv (.t 1))⟩,
   ⟨(some 47), none, (.len (.t 46))⟩,
   ⟨(some 48), none, (.mv (.t 2))⟩,
   ⟨(some 49), none, (.bin .add .num (.t 48) (.c (.int .i64 1)))⟩,
   ⟨(some 6), none, (.mv (.t 45))⟩,
   ⟨(some 7), none, (.mv (.t 47))⟩,
   ⟨(some 8), none, (.mv (.t 49))⟩,
   ⟨(some 9), none, (.mv (.c (.bool true)))⟩]) .ret) .skip))
 (.seq
 (.dreg [⟨(some 50), none, (.mv (.t 1))⟩,
   ⟨(some 51), none, (.mv (.t 2))⟩,
   ⟨(some 52), none, (.ixSlice 1 (.t 50) (.t 51))⟩,
   ⟨(some 53), none, (.load1 (.t 52))⟩,
   ⟨(some 54), none, (.conv (.int .i64) (.t 53))⟩,
   ⟨(some 55), none, (.mv (.t 1))⟩,
   ⟨(some 56), none, (.mv (.t 2))⟩,
   ⟨(some 57), none, (.bin .add .num (.t 56) (.c (.int .i64 1)))⟩,
   ⟨(some 58), none, (.ixSlice 1 (.t 55) (.t 57))⟩,
   ⟨(some 59), none, (.load1 (.t 58))⟩,
   ⟨(some 60), none, (.conv (.int .i64) (.t 59))⟩,
   ⟨(some 61), none, (.mv (.t 2))⟩,
   ⟨(some 62), none, (.bin .add .num (.t 61) (.c (.int .i64 2)))⟩,
   ⟨(some 6), none, (.mv (.t 54))⟩,
   ⟨(some 7), none, (.mv (.t 60))⟩,
   ⟨(some 8), none, (.mv (.t 62))⟩,
   ⟨(some 9), none, (.mv (.c (.bool true)))⟩] []) .ret))))⟩
theorem caf219 : cFunc Tryz.prog Tryz.f219 = some af219 := by kernel_rfl
/-- slices.Clip[[]limelight/api.Elem,limelight/api.Elem] -/
def af220 : AFunc := ⟨9, [(.tmp 2)],
 (.seq
 (.reg [⟨(some 2), none, (.mv (.c (.slice none 0 0 none)))⟩])
 (.seq
 (.reg [⟨(some 3), none, (.mv (.t 0))⟩,
   ⟨(some 4), none, (.mv (.t 0))⟩,
   ⟨(some 5), none, (.len (.t 4))⟩,
   ⟨(some 6), none, (.mv (.t 0))⟩,
   ⟨(some 7), none, (.len (.t 6))⟩,
   ⟨(some 8), none, (.cut 2 (.t 3) none (some (.t 5)) (some (.t 7)))⟩,
   ⟨(some 2), none, (.mv (.t 8))⟩]) .ret))⟩
theorem caf220 : cFunc Tryz.prog Tryz.f220 = some af220 := by kernel_rfl
def af221_l0 : AC :=
 (.seq
 (.reg [⟨(some 9), none, (.bin .lss .num (.t 8) (.t 7))⟩])
 (.seq
 (.cond (.t 9) .skip (.exit 0))
 (.seq
 (.block 1
 (.seq
 (.reg [⟨(some 10), none, (.mv (.t 8))⟩,
   ⟨(some 5), none, (.mv (.t 10))⟩])
 (.seq
 (.reg [⟨(some 11), none, (.mv (.t 1))⟩,
   ⟨(some 12), none, (.mv (.t 0))⟩,
   ⟨(some 13), none, (.mv (.t 5))⟩,
   ⟨(some 14), none, (.ixSlice 2 (.t 12) (.t 13))⟩,
   ⟨(some 15), none, (.loadN 2 (.t 14))⟩,
   ⟨(some 16), none, (.callV (.t 11) [(.t 15)])⟩])
 (.cond (.t 16)
 (.seq
 (.reg [⟨(some 17), none, (.mv (.t 5))⟩,
   ⟨(some 4), none, (.mv (.t 17))⟩]) .ret) .skip))))
 (.reg [⟨(some 18), none, (.bin .add .num (.t 8) (.c (.int .i64 1)))⟩,
   ⟨(some 8), none, (.mv (.t 18))⟩]))))
/-- slices.IndexFunc[[]limelight/api.Elem,limelight/api.Elem] -/
def af221 : AFunc := ⟨19, [(.tmp 4)],
 (.seq
 (.reg [⟨(some 4), none, (.mv (.c (.int .i64 0)))⟩])
 (.seq
 (.seq
 (.reg [⟨(some 6), none, (.mv (.t 0))⟩,
   ⟨(some 7), none, (.len (.t 6))⟩,
   ⟨(some 8), none, (.mv (.c (.int .i64 0)))⟩])
 (.block 0
 (.loop af221_l0)))
 (.seq
 (.reg [⟨(some 4), none, (.mv (.c (.int .i64 (-1))))⟩]) .ret)))⟩
theorem caf221 : cFunc Tryz.prog Tryz.f221 = some af221 := by kernel_rfl
/-- limelight/ext.Find$1 -/
def af222 : AFunc := ⟨8, [(.tmp 3)],
 (.seq
 (.reg [⟨(some 2), none, (.box (.t 0))⟩,
   ⟨(some 3), none, (.mv (.c (.bool false)))⟩])
 (.seq
 (.reg [⟨(some 4), none, (.fieldAddr 0 1 (.t 2))⟩,
   ⟨(some 5), none, (.load1 (.t 4))⟩,
   ⟨(some 6), none, (.load1 (.t 1))⟩,
   ⟨(some 7), none, (.bin .eql .num (.t 5) (.t 6))⟩,
   ⟨(some 3), none, (.mv (.t 7))⟩]) .ret))⟩
theorem caf222 : cFunc Tryz.prog Tryz.f222 = some af222 := by kernel_rfl
/-- limelight/rid.one -/
def af223 : AFunc := ⟨33, [(.tmp 2)],
 (.seq
 (.reg [⟨(some 2), none, (.mv (.c (.bool false)))⟩])
 (.seq
 (.reg [⟨(some 3), none, (.mv (.t 0))⟩,
   ⟨(some 4), none, (.bin .geq .num (.t 3) (.c (.int .i32 97)))⟩,
   ⟨(some 5), none, (.mv (.t 4))⟩,
   ⟨(some 6), (some (5, true)), (.mv (.t 0))⟩,
   ⟨(some 7), (some (5, true)), (.bin .leq .num (.t 6) (.c (.int .i32 122)))⟩,
   ⟨(some 8), none, (.pick (.t 5) (.t 7) (.c (.bool false)))⟩,
   ⟨(some 9), none, (.mv (.t 8))⟩,
   ⟨(some 10), (some (9, false)), (.mv (.t 0))⟩,
   ⟨(some 11), (some (9, false)), (.bin .geq .num (.t 10) (.c (.int .i32 65)))⟩,
   ⟨(some 12), (some (9, false)), (.mv (.t 11))⟩,
   ⟨(some 13), (some (12, true)), (.mv (.t 0))⟩,
   ⟨(some 14), (some (12, true)), (.bin .leq .num (.t 13) (.c (.int .i32 90)))⟩,
   ⟨(some 15), (some (9, false)), (.pick (.t 12) (.t 14) (.c (.bool false)))⟩,
   ⟨(some 16), none, (.pick (.t 9) (.c (.bool true)) (.t 15))⟩,
   ⟨(some 17), none, (.mv (.t 16))⟩,
   ⟨(some 18), (some (17, false)), (.mv (.t 0))⟩,
   ⟨(some 19), (some (17, false)), (.bin .geq .num (.t 18) (.c (.int .i32 48)))⟩,
   ⟨(some 20), (some (17, false)), (.mv (.t 19))⟩,
   ⟨(some 21), (some (20, true)), (.mv (.t 0))⟩,
   ⟨(some 22), (some (20, true)), (.bin .leq .num (.t 21) (.c (.int .i32 57)))⟩,
   ⟨(some 23), (some (17, false)), (.pick (.t 20) (.t 22) (.c (.bool false)))⟩,
   ⟨(some 24), none, (.pick (.t 17) (.c (.bool true)) (.t 23))⟩,
   ⟨(some 25), none, (.mv (.t 24))⟩,
   ⟨(some 26), (some (25, false)), (.mv (.t 0))⟩,
   ⟨(some 27), (some (25, false)), (.bin .eql .num (.t 26) (.c (.int .i32 45)))⟩,
   ⟨(some 28), none, (.pick (.t 25) (.c (.bool true)) (.t 27))⟩,
   ⟨(some 29), none, (.mv (.t 28))⟩,
   ⟨(some 30), (some (29, false)), (.mv (.t 0))⟩,
   ⟨(some 31), (some (29, false)), (.bin .eql .num (.t 30) (.c (.int .i32 95)))⟩,
   ⟨(some 32), none, (.pick (.t 29) (.c (.bool true)) (.t 31))⟩,
   ⟨(some 2), none, (.mv (.t 32))⟩]) .ret))⟩
theorem caf223 : cFunc Tryz.prog Tryz.f223 = some af223 := by kernel_rfl
/-- limelight/seq.extend -/
def af224 : AFunc := ⟨46, [(.tmp 6)],
 (.seq
 (.reg [⟨(some 6), none, (.mv (.c (.int .i64 0)))⟩])
 (.seq
 (.reg [⟨(some 9), none, (.mv (.t 2))⟩,
   ⟨(some 10), none, (.bin .shl .num (.c (.int .i64 1)) (.t 9))⟩,
   ⟨(some 7), none, (.mv (.t 10))⟩])
 (.seq
 (.seq
 (.reg [⟨(some 11), none, (.mv (.t 0))⟩,
   ⟨(some 12), none, (.bin .lss .num (.t 11) (.c (.int .i64 0)))⟩])
 (.cond (.t 12)
 (.seq
 (.reg [⟨(some 13), none, (.mv (.t 1))⟩,
   ⟨(some 6), none, (.mv (.t 13))⟩]) .ret) .skip))
 (.seq
 (.reg [⟨(some 14), none, (.mv (.t 1))⟩,
   ⟨(some 15), none, (.mv (.t 0))⟩,
   ⟨(some 16), none, (.mv (.t 7))⟩,
   ⟨(some 17), none, (.bin .sub .num (.t 16) (.c (.int .i64 1)))⟩,
   ⟨(some 18), none, (.bin .and .num (.t 15) (.t 17))⟩,
   ⟨(some 19), none, (.bin .sub .num (.t 14) (.t 18))⟩,
   ⟨(some 20), none, (.mv (.t 7))⟩,
   ⟨(some 21), none, (.bin .add .num (.t 19) (.t 20))⟩,
   ⟨(some 22), none, (.mv (.t 7))⟩,
   ⟨(some 23), none, (.bin .sub .num (.t 22) (.c (.int .i64 1)))⟩,
   ⟨(some 24), none, (.bin .and .num (.t 21) (.t 23))⟩,
   ⟨(some 8), none, (.mv (.t 24))⟩])
 (.seq
 (.seq
 (.reg [⟨(some 25), none, (.mv (.t 8))⟩,
   ⟨(some 26), none, (.mv (.t 7))⟩,
   ⟨(some 27), none, (.bin .quo .num (.t 26) (.c (.int .i64 2)))⟩,
   ⟨(some 28), none, (.bin .gtr .num (.t 25) (.t 27))⟩,
   ⟨(some 29), none, (.mv (.t 28))⟩,
   ⟨(some 30), (some (29, false)), (.mv (.t 0))⟩,
   ⟨(some 31), (some (29, false)), (.mv (.t 8))⟩,
   ⟨(some 32), (some (29, false)), (.bin .sub .num (.c (.int .i64 9223372036854775807)) (.t 31))⟩,
   ⟨(some 33), (some (29, false)), (.bin .gtr .num (.t 30) (.t 32))⟩,
   ⟨(some 34), none, (.pick (.t 29) (.c (.bool true)) (.t 33))⟩])
 (.cond (.t 34)
 (.reg [⟨(some 35), none, (.mv (.t 8))⟩,
   ⟨(some 36), none, (.mv (.t 7))⟩,
   ⟨(some 37), none, (.bin .sub .num (.t 35) (.t 36))⟩,
   ⟨(some 8), none, (.mv (.t 37))⟩]) .skip))
 (.seq
 (.seq
 (.reg [⟨(some 38), none, (.mv (.t 0))⟩,
   ⟨(some 39), none, (.mv (.t 8))⟩,
   ⟨(some 40), none, (.bin .add .num (.t 38) (.t 39))⟩,
   ⟨(some 41), none, (.bin .lss .num (.t 40) (.c (.int .i64 0)))⟩])
 (.cond (.t 41)
 (.seq
 (.reg [⟨(some 42), none, (.mv (.t 1))⟩,
   ⟨(some 6), none, (.mv (.t 42))⟩]) .ret) .skip))
 (.seq
 (.reg [⟨(some 43), none, (.mv (.t 0))⟩,
   ⟨(some 44), none, (.mv (.t 8))⟩,
   ⟨(some 45), none, (.bin .add .num (.t 43) (.t 44))⟩,
   ⟨(some 6), none, (.mv (.t 45))⟩]) .ret)))))))⟩
theorem caf224 : cFunc Tryz.prog Tryz.f224 = some af224 := by kernel_rfl
/-- limelight/write.next -/
def af225 : AFunc := ⟨7, [(.tmp 2)],
 (.seq
 (.reg [⟨(some 2), none, (.mv (.c (.int .i64 0)))⟩])
 (.seq
 (.seq
 (.reg [⟨(some 3), none, (.mv (.t 0))⟩,
   ⟨(some 4), none, (.bin .lss .num (.t 3) (.c (.int .i64 0)))⟩])
 (.cond (.t 4)
 (.seq
 (.reg [⟨(some 2), none, (.mv (.c (.int .i64 0)))⟩]) .ret) .skip))
 (.seq
 (.reg [⟨(some 5), none, (.mv (.t 0))⟩,
   ⟨(some 6), none, (.call 124 [(.t 5), (.c (.int .i64 1))])⟩,
   ⟨(some 2), none, (.mv (.t 6))⟩]) .ret)))⟩
theorem caf225 : cFunc Tryz.prog Tryz.f225 = some af225 := by kernel_rfl
/-- limelight/rtp.size -/
def af226 : AFunc := ⟨23, [(.tmp 2)],
 (.seq
 (.reg [⟨(some 1), none, (.box (.t 0))⟩,
   ⟨(some 2), none, (.mv (.c (.int .i64 0)))⟩])
 (.seq
 (.reg [⟨(some 4), none, (.fieldAddr 5 1 (.t 1))⟩,
   ⟨(some 5), none, (.load1 (.t 4))⟩,
   ⟨(some 6), none, (.len (.t 5))⟩,
   ⟨(some 7), none, (.bin .mul .num (.c (.int .i64 4)) (.t 6))⟩,
   ⟨(some 8), none, (.bin .add .num (.c (.int .i64 12)) (.t 7))⟩,
   ⟨(some 9), none, (.fieldAddr 8 1 (.t 1))⟩,
   ⟨(some 10), none, (.load1 (.t 9))⟩,
   ⟨(some 11), none, (.len (.t 10))⟩,
   ⟨(some 12), none, (.bin .add .num (.t 8) (.t 11))⟩,
   ⟨(some 3), none, (.mv (.t 12))⟩])
 (.seq
 (.seq
 (.reg [⟨(some 13), none, (.fieldAddr 6 1 (.t 1))⟩,
   ⟨(some 14), none, (.load1 (.t 13))⟩,
   ⟨(some 15), none, (.bin .neq .num (.t 14) (.c (.int .u16 0)))⟩])
 (.cond (.t 15)
 (.reg [⟨(some 16), none, (.mv (.t 3))⟩,
   ⟨(some 17), none, (.fieldAddr 7 1 (.t 1))⟩,
   ⟨(some 18), none, (.load1 (.t 17))⟩,
   ⟨(some 19), none, (.len (.t 18))⟩,
   ⟨(some 20), none, (.bin .add .num (.c (.int .i64 4)) (.t 19))⟩,
   ⟨(some 21), none, (.bin .add .num (.t 16) (.t 20))⟩,
   ⟨(some 3), none, (.mv (.t 21))⟩]) .skip))
 (.seq
 (.reg [⟨(some 22), none, (.mv (.t 3))⟩,
   ⟨(some 2), none, (.mv (.t 22))⟩]) .ret))))⟩
theorem caf226 : cFunc Tryz.prog Tryz.f226 = some af226 := by kernel_rfl
/-- (*limelight/bucket.Bucket).Burst -/
def af227 : AFunc := ⟨7, [(.tmp 2)],
 (.seq
 (.reg [⟨(some 2), none, (.mv (.c (.int .i64 0)))⟩])
 (.seq
 (.reg [⟨(some 3), none, (.mv (.t 0))⟩,
   ⟨(some 4), none, (.nilCheck (.t 3))⟩,
   ⟨(some 5), none, (.fieldAddr 1 1 (.t 4))⟩,
   ⟨(some 6), none, (.load1 (.t 5))⟩,
   ⟨(some 2), none, (.mv (.t 6))⟩]) .ret))⟩
theorem caf227 : cFunc Tryz.prog Tryz.f227 = some af227 := by kernel_rfl
def af228_l0 : AC :=
 (.seq
 (.seq
 (.reg [⟨(some 79), none, (.mv (.t 8))⟩,
   ⟨(some 80), none, (.bin .lss .num (.t 79) (.c (.int .i64 4)))⟩])
 (.cond (.t 80) .skip (.exit 0)))
 (.seq
 (.block 1
 (.seq
 (.seq
 (.reg [⟨(some 83), none, (.mv (.t 0))⟩,
   ⟨(some 84), none, (.nilCheck (.t 83))⟩,
   ⟨(some 85), none, (.fieldAddr 0 1 (.t 84))⟩,
   ⟨(some 86), none, (.load1 (.t 85))⟩,
   ⟨(some 87), none, (.mv (.t 1))⟩,
   ⟨(some 88), none, (.ixSlice 3 (.t 86) (.t 87))⟩,
   ⟨(some 89), none, (.loadN 3 (.t 88))⟩,
   ⟨(some 90), none, (.mv (.t 8))⟩,
   ⟨(some 91), none, (.call 229 [(.t 89), (.t 90)])⟩,
   ⟨(some 92), none, (.un .not (.t 91))⟩,
   ⟨(some 93), none, (.mv (.t 92))⟩,
   ⟨(some 94), (some (93, false)), (.mv (.t 8))⟩,
   ⟨(some 95), (some (93, false)), (.bin .geq .num (.t 94) (.c (.int .i64 0)))⟩,
   ⟨(some 96), (some (93, false)), (.mv (.t 95))⟩,
   ⟨(some 97), (some (96, true)), (.mv (.t 0))⟩,
   ⟨(some 98), (some (96, true)), (.nilCheck (.t 97))⟩,
   ⟨(some 99), (some (96, true)), (.fieldAddr 0 1 (.t 98))⟩,
   ⟨(some 100), (some (96, true)), (.load1 (.t 99))⟩,
   ⟨(some 101), (some (96, true)), (.mv (.t 1))⟩,
   ⟨(some 102), (some (96, true)), (.ixSlice 3 (.t 100) (.t 101))⟩,
   ⟨(some 103), (some (96, true)), (.fieldAddr 1 1 (.t 102))⟩,
   ⟨(some 104), (some (96, true)), (.load1 (.t 103))⟩,
   ⟨(some 105), (some (96, true)), (.mv (.t 8))⟩,
   ⟨(some 106), (some (96, true)), (.ixSlice 1 (.t 104) (.t 105))⟩,
   ⟨(some 107), (some (96, true)), (.load1 (.t 106))⟩,
   ⟨(some 108), (some (96, true)), (.mv (.t 2))⟩,
   ⟨(some 109), (some (96, true)), (.bin .gtr .num (.t 107) (.t 108))⟩,
   ⟨(some 110), (some (93, false)), (.pick (.t 96) (.t 109) (.c (.bool false)))⟩,
   ⟨(some 111), none, (.pick (.t 93) (.c (.bool true)) (.t 110))⟩])
 (.cond (.t 111) (.exit 1) .skip))
 (.seq
 (.reg [⟨(some 112), none, (.mv (.t 0))⟩,
   ⟨(some 113), none, (.nilCheck (.t 112))⟩,
   ⟨(some 114), none, (.fieldAddr 1 1 (.t 113))⟩,
   ⟨(some 115), none, (.load1 (.t 114))⟩,
   ⟨(some 116), none, (.mv (.t 1))⟩,
   ⟨(some 117), none, (.mv (.t 8))⟩,
   ⟨(some 118), none, (.ixSlice 1 (.t 115) (.t 116))⟩,
   ⟨none, none, (.store 1 (.t 118) (.t 117))⟩])
 (.seq
 (.reg [⟨(some 119), none, (.mv (.t 8))⟩,
   ⟨(some 120), none, (.bin .geq .num (.t 119) (.c (.int .i64 0)))⟩])
 (.cond (.t 120)
 (.reg [⟨(some 121), none, (.mv (.t 0))⟩,
   ⟨(some 122), none, (.mv (.t 1))⟩,
   ⟨(some 123), none, (.bin .add .num (.t 122) (.c (.int .i64 1)))⟩,
   ⟨(some 124), none, (.mv (.t 2))⟩,
   ⟨(some 125), none, (.mv (.t 0))⟩,
   ⟨(some 126), none, (.nilCheck (.t 125))⟩,
   ⟨(some 127), none, (.fieldAddr 0 1 (.t 126))⟩,
   ⟨(some 128), none, (.load1 (.t 127))⟩,
   ⟨(some 129), none, (.mv (.t 1))⟩,
   ⟨(some 130), none, (.ixSlice 3 (.t 128) (.t 129))⟩,
   ⟨(some 131), none, (.fieldAddr 1 1 (.t 130))⟩,
   ⟨(some 132), none, (.load1 (.t 131))⟩,
   ⟨(some 133), none, (.mv (.t 8))⟩,
   ⟨(some 134), none, (.ixSlice 1 (.t 132) (.t 133))⟩,
   ⟨(some 135), none, (.load1 (.t 134))⟩,
   ⟨(some 136), none, (.bin .sub .num (.t 124) (.t 135))⟩,
   ⟨(some 137), none, (.call 228 [(.t 121), (.t 123), (.t 136)])⟩])
 (.reg [⟨(some 138), none, (.mv (.t 0))⟩,
   ⟨(some 139), none, (.mv (.t 1))⟩,
   ⟨(some 140), none, (.bin .add .num (.t 139) (.c (.int .i64 1)))⟩,
   ⟨(some 141), none, (.mv (.t 2))⟩,
   ⟨(some 142), none, (.call 228 [(.t 138), (.t 140), (.t 141)])⟩]))))))
 (.reg [⟨(some 81), none, (.mv (.t 8))⟩,
   ⟨(some 82), none, (.bin .add .num (.t 81) (.c (.int .i64 1)))⟩,
   ⟨(some 8), none, (.mv (.t 82))⟩])))
/-- (*limelight/knap.search).try -/
def af228 : AFunc := ⟨143, [],
 (.seq
 (.seq
 (.reg [⟨(some 9), none, (.mv (.t 1))⟩,
   ⟨(some 10), none, (.mv (.t 0))⟩,
   ⟨(some 11), none, (.nilCheck (.t 10))⟩,
   ⟨(some 12), none, (.fieldAddr 0 1 (.t 11))⟩,
   ⟨(some 13), none, (.load1 (.t 12))⟩,
   ⟨(some 14), none, (.len (.t 13))⟩,
   ⟨(some 15), none, (.bin .eql .num (.t 9) (.t 14))⟩])
 (.cond (.t 15)
 (.seq
 (.dreg [⟨(some 16), none, (.mv (.t 0))⟩,
   ⟨(some 17), none, (.nilCheck (.t 16))⟩,
   ⟨(some 18), none, (.fieldAddr 0 1 (.t 17))⟩,
   ⟨(some 19), none, (.load1 (.t 18))⟩,
   ⟨(some 20), none, (.mv (.t 0))⟩,
   ⟨(some 21), none, (.nilCheck (.t 20))⟩,
   ⟨(some 22), none, (.fieldAddr 1 1 (.t 21))⟩,
   ⟨(some 23), none, (.load1 (.t 22))⟩,
   ⟨(some 24), none, (.call 261 [(.t 19), (.t 23)])⟩,
   ⟨(some 25), none, (.mv (.t 0))⟩,
   ⟨(some 26), none, (.nilCheck (.t 25))⟩,
   ⟨(some 27), none, (.fieldAddr 0 1 (.t 26))⟩,
   ⟨(some 28), none, (.load1 (.t 27))⟩,
   ⟨(some 29), none, (.mv (.t 0))⟩,
   ⟨(some 30), none, (.nilCheck (.t 29))⟩,
   ⟨(some 31), none, (.fieldAddr 1 1 (.t 30))⟩,
   ⟨(some 32), none, (.load1 (.t 31))⟩,
   ⟨(some 33), none, (.call 171 [(.t 28), (.t 32)])⟩,
   ⟨(some 6), none, (.alloc [(.int .i64 0), (.int .i64 0), (.int .i64 0), (.int .i64 0)])⟩,
   ⟨none, none, (.store 4 (.t 6) (.t 24))⟩,
   ⟨(some 7), none, (.mv (.t 33))⟩] [(18, 18), (3, 19), (7, 19), (12, 8), (12, 19), (16, 8), (16, 19)])
 (.seq
 (.seq
 (.dreg [⟨(some 34), none, (.mv (.t 0))⟩,
   ⟨(some 35), none, (.nilCheck (.t 34))⟩,
   ⟨(some 36), none, (.fieldAddr 2 1 (.t 35))⟩,
   ⟨(some 37), none, (.load1 (.t 36))⟩,
   ⟨(some 38), none, (.bin .eql .slc (.t 37) (.c (.slice none 0 0 none)))⟩,
   ⟨(some 39), none, (.mv (.t 38))⟩,
   ⟨(some 40), (some (39, false)), (.loadN 4 (.t 6))⟩,
   ⟨(some 41), (some (39, false)), (.mv (.t 0))⟩,
   ⟨(some 42), (some (39, false)), (.nilCheck (.t 41))⟩,
   ⟨(some 43), (some (39, false)), (.fieldAddr 3 4 (.t 42))⟩,
   ⟨(some 44), (some (39, false)), (.loadN 4 (.t 43))⟩,
   ⟨(some 45), (some (39, false)), (.call 262 [(.t 40), (.t 44)])⟩,
   ⟨(some 46), none, (.pick (.t 39) (.c (.bool true)) (.t 45))⟩,
   ⟨(some 47), none, (.mv (.t 46))⟩,
   ⟨(some 48), (some (47, false)), (.loadN 4 (.t 6))⟩,
   ⟨(some 49), (some (47, false)), (.mv (.t 0))⟩,
   ⟨(some 50), (some (47, false)), (.nilCheck (.t 49))⟩,
   ⟨(some 51), (some (47, false)), (.fieldAddr 3 4 (.t 50))⟩,
   ⟨(some 52), (some (47, false)), (.loadN 4 (.t 51))⟩,
   ⟨(some 53), (some (47, false)), (.bin .eql (.strct [(0, .num), (1, .num), (2, .num), (3, .num)]) (.t 48) (.t 52))⟩,
   ⟨(some 54), (some (47, false)), (.mv (.t 53))⟩,
   ⟨(some 55), (some (54, true)), (.mv (.t 7))⟩,
   ⟨(some 56), (some (54, true)), (.mv (.t 0))⟩,
   ⟨(some 57), (some (54, true)), (.nilCheck (.t 56))⟩,
   ⟨(some 58), (some (54, true)), (.fieldAddr 7 1 (.t 57))⟩,
   ⟨(some 59), (some (54, true)), (.load1 (.t 58))⟩,
   ⟨(some 60), (some (54, true)), (.bin .lss .num (.t 55) (.t 59))⟩,
   ⟨(some 61), (some (47, false)), (.pick (.t 54) (.t 60) (.c (.bool false)))⟩,
   ⟨(some 62), none, (.pick (.t 47) (.c (.bool true)) (.t 61))⟩] [])
 (.cond (.t 62)
 (.dreg [⟨(some 63), none, (.mv (.t 0))⟩,
   ⟨(some 64), none, (.mv (.t 0))⟩,
   ⟨(some 65), none, (.mv (.t 0))⟩,
   ⟨(some 66), none, (.mv (.t 0))⟩,
   ⟨(some 67), none, (.nilCheck (.t 66))⟩,
   ⟨(some 68), none, (.fieldAddr 1 1 (.t 67))⟩,
   ⟨(some 69), none, (.load1 (.t 68))⟩,
   ⟨(some 70), none, (.call 173 [(.t 69)])⟩,
   ⟨(some 71), none, (.loadN 4 (.t 6))⟩,
   ⟨(some 72), none, (.mv (.t 7))⟩,
   ⟨(some 73), none, (.nilCheck (.t 63))⟩,
   ⟨(some 74), none, (.fieldAddr 2 1 (.t 73))⟩,
   ⟨none, none, (.store 1 (.t 74) (.t 70))⟩,
   ⟨(some 75), none, (.nilCheck (.t 64))⟩,
   ⟨(some 76), none, (.fieldAddr 3 4 (.t 75))⟩,
   ⟨none, none, (.store 4 (.t 76) (.t 71))⟩,
   ⟨(some 77), none, (.nilCheck (.t 65))⟩,
   ⟨(some 78), none, (.fieldAddr 7 1 (.t 77))⟩,
   ⟨none, none, (.store 1 (.t 78) (.t 72))⟩] [(8, 7), (8, 13)]) .skip)) .ret)) .skip))
 (.seq
 (.reg [⟨(some 8), none, (.mv (.c (.int .i64 (-1))))⟩])
 (.block 0
 (.loop af228_l0))))⟩
theorem caf228 : cFunc Tryz.prog Tryz.f228 = some af228 := by kernel_rfl
/-- limelight/knap.fits -/
def af229 : AFunc := ⟨29, [(.tmp 4)],
 (.seq
 (.reg [⟨(some 2), none, (.box (.t 0))⟩,
   ⟨(some 4), none, (.mv (.c (.bool false)))⟩])
 (.seq
 (.reg [⟨(some 5), none, (.mv (.t 1))⟩,
   ⟨(some 6), none, (.bin .eql .num (.t 5) (.c (.int .i64 (-1))))⟩,
   ⟨(some 7), none, (.mv (.t 6))⟩,
   ⟨(some 8), (some (7, false)), (.loadN 3 (.t 2))⟩,
   ⟨(some 9), (some (7, false)), (.mv (.t 1))⟩,
   ⟨(some 10), (some (7, false)), (.call 230 [(.t 8), (.t 9)])⟩,
   ⟨(some 11), (some (7, false)), (.mv (.t 10))⟩,
   ⟨(some 12), (some (11, true)), (.mv (.t 1))⟩,
   ⟨(some 13), (some (11, true)), (.fieldAddr 2 1 (.t 2))⟩,
   ⟨(some 14), (some (11, true)), (.load1 (.t 13))⟩,
   ⟨(some 15), (some (11, true)), (.len (.t 14))⟩,
   ⟨(some 16), (some (11, true)), (.bin .lss .num (.t 12) (.t 15))⟩,
   ⟨(some 17), (some (7, false)), (.pick (.t 11) (.t 16) (.c (.bool false)))⟩,
   ⟨(some 18), (some (7, false)), (.mv (.t 17))⟩,
   ⟨(some 19), (some (18, true)), (.fieldAddr 0 1 (.t 2))⟩,
   ⟨(some 20), (some (18, true)), (.load1 (.t 19))⟩,
   ⟨(some 21), (some (18, true)), (.bin .geq .num (.t 20) (.c (.int .i64 0)))⟩,
   ⟨(some 22), (some (7, false)), (.pick (.t 18) (.t 21) (.c (.bool false)))⟩,
   ⟨(some 23), (some (7, false)), (.mv (.t 22))⟩,
   ⟨(some 24), (some (23, true)), (.fieldAddr 0 1 (.t 2))⟩,
   ⟨(some 25), (some (23, true)), (.load1 (.t 24))⟩,
   ⟨(some 26), (some (23, true)), (.bin .lss .num (.t 25) (.c (.int .i64 4)))⟩,
   ⟨(some 27), (some (7, false)), (.pick (.t 23) (.t 26) (.c (.bool false)))⟩,
   ⟨(some 28), none, (.pick (.t 7) (.c (.bool true)) (.t 27))⟩,
   ⟨(some 4), none, (.mv (.t 28))⟩]) .ret))⟩
theorem caf229 : cFunc Tryz.prog Tryz.f229 = some af229 := by kernel_rfl
/-- limelight/knap.has -/
def af230 : AFunc := ⟨23, [(.tmp 4)],
 (.seq
 (.reg [⟨(some 2), none, (.box (.t 0))⟩,
   ⟨(some 4), none, (.mv (.c (.bool false)))⟩])
 (.seq
 (.reg [⟨(some 5), none, (.mv (.t 1))⟩,
   ⟨(some 6), none, (.bin .geq .num (.t 5) (.c (.int .i64 0)))⟩,
   ⟨(some 7), none, (.mv (.t 6))⟩,
   ⟨(some 8), (some (7, true)), (.mv (.t 1))⟩,
   ⟨(some 9), (some (7, true)), (.fieldAddr 1 1 (.t 2))⟩,
   ⟨(some 10), (some (7, true)), (.load1 (.t 9))⟩,
   ⟨(some 11), (some (7, true)), (.len (.t 10))⟩,
   ⟨(some 12), (some (7, true)), (.mn [(.c (.int .i64 4)), (.t 11)])⟩,
   ⟨(some 13), (some (7, true)), (.bin .lss .num (.t 8) (.t 12))⟩,
   ⟨(some 14), none, (.pick (.t 7) (.t 13) (.c (.bool false)))⟩,
   ⟨(some 15), none, (.mv (.t 14))⟩,
   ⟨(some 16), (some (15, true)), (.fieldAddr 1 1 (.t 2))⟩,
   ⟨(some 17), (some (15, true)), (.load1 (.t 16))⟩,
   ⟨(some 18), (some (15, true)), (.mv (.t 1))⟩,
   ⟨(some 19), (some (15, true)), (.ixSlice 1 (.t 17) (.t 18))⟩,
   ⟨(some 20), (some (15, true)), (.load1 (.t 19))⟩,
   ⟨(some 21), (some (15, true)), (.bin .geq .num (.t 20) (.c (.int .i64 0)))⟩,
   ⟨(some 22), none, (.pick (.t 15) (.t 21) (.c (.bool false)))⟩,
   ⟨(some 4), none, (.mv (.t 22))⟩]) .ret))⟩
theorem caf230 : cFunc Tryz.prog Tryz.f230 = some af230 := by kernel_rfl
/-- limelight/knap.add -/
def af231 : AFunc := ⟨12, [(.tmp 4)],
 (.seq
 (.reg [⟨(some 4), none, (.mv (.c (.int .i64 0)))⟩])
 (.seq
 (.seq
 (.reg [⟨(some 5), none, (.mv (.t 0))⟩,
   ⟨(some 6), none, (.mv (.t 1))⟩,
   ⟨(some 7), none, (.bin .sub .num (.c (.int .i64 9223372036854775807)) (.t 6))⟩,
   ⟨(some 8), none, (.bin .gtr .num (.t 5) (.t 7))⟩])
 (.cond (.t 8)
 (.seq
 (.reg [⟨(some 4), none, (.mv (.c (.int .i64 9223372036854775807)))⟩]) .ret) .skip))
 (.seq
 (.reg [⟨(some 9), none, (.mv (.t 0))⟩,
   ⟨(some 10), none, (.mv (.t 1))⟩,
   ⟨(some 11), none, (.bin .add .num (.t 9) (.t 10))⟩,
   ⟨(some 4), none, (.mv (.t 11))⟩]) .ret)))⟩
theorem caf231 : cFunc Tryz.prog Tryz.f231 = some af231 := by kernel_rfl
/-- (*limelight/layer.Layers).Height -/
def af232 : AFunc := ⟨18, [(.tmp 4)],
 (.seq
 (.reg [⟨(some 4), none, (.mv (.c (.int .i64 0)))⟩])
 (.seq
 (.seq
 (.reg [⟨(some 5), none, (.mv (.t 0))⟩,
   ⟨(some 6), none, (.mv (.t 1))⟩,
   ⟨(some 7), none, (.call 87 [(.t 5), (.t 6)])⟩,
   ⟨(some 8), none, (.un .not (.t 7))⟩])
 (.cond (.t 8)
 (.seq
 (.reg [⟨(some 4), none, (.mv (.c (.int .i64 0)))⟩]) .ret) .skip))
 (.seq
 (.reg [⟨(some 9), none, (.mv (.t 0))⟩,
   ⟨(some 10), none, (.nilCheck (.t 9))⟩,
   ⟨(some 11), none, (.fieldAddr 0 1 (.t 10))⟩,
   ⟨(some 12), none, (.load1 (.t 11))⟩,
   ⟨(some 13), none, (.mv (.t 1))⟩,
   ⟨(some 14), none, (.ixSlice 10 (.t 12) (.t 13))⟩,
   ⟨(some 15), none, (.fieldAddr 0 3 (.t 14))⟩,
   ⟨(some 16), none, (.fieldAddr 2 1 (.t 15))⟩,
   ⟨(some 17), none, (.load1 (.t 16))⟩,
   ⟨(some 4), none, (.mv (.t 17))⟩]) .ret)))⟩
theorem caf232 : cFunc Tryz.prog Tryz.f232 = some af232 := by kernel_rfl
/-- (*limelight/layer.Layers).Live -/
def af233 : AFunc := ⟨43, [(.tmp 6)],
 (.seq
 (.reg [⟨(some 6), none, (.mv (.c (.bool false)))⟩])
 (.seq
 (.reg [⟨(some 7), none, (.mv (.t 0))⟩,
   ⟨(some 8), none, (.mv (.t 1))⟩,
   ⟨(some 9), none, (.call 87 [(.t 7), (.t 8)])⟩,
   ⟨(some 10), none, (.mv (.t 9))⟩,
   ⟨(some 11), (some (10, true)), (.mv (.t 0))⟩,
   ⟨(some 12), (some (10, true)), (.nilCheck (.t 11))⟩,
   ⟨(some 13), (some (10, true)), (.fieldAddr 0 1 (.t 12))⟩,
   ⟨(some 14), (some (10, true)), (.load1 (.t 13))⟩,
   ⟨(some 15), (some (10, true)), (.mv (.t 1))⟩,
   ⟨(some 16), (some (10, true)), (.ixSlice 10 (.t 14) (.t 15))⟩,
   ⟨(some 17), (some (10, true)), (.fieldAddr 5 1 (.t 16))⟩,
   ⟨(some 18), (some (10, true)), (.load1 (.t 17))⟩,
   ⟨(some 19), none, (.pick (.t 10) (.t 18) (.c (.bool false)))⟩,
   ⟨(some 20), none, (.mv (.t 19))⟩,
   ⟨(some 21), (some (20, true)), (.mv (.t 0))⟩,
   ⟨(some 22), (some (20, true)), (.nilCheck (.t 21))⟩,
   ⟨(some 23), (some (20, true)), (.fieldAddr 0 1 (.t 22))⟩,
   ⟨(some 24), (some (20, true)), (.load1 (.t 23))⟩,
   ⟨(some 25), (some (20, true)), (.mv (.t 1))⟩,
   ⟨(some 26), (some (20, true)), (.ixSlice 10 (.t 24) (.t 25))⟩,
   ⟨(some 27), (some (20, true)), (.fieldAddr 7 1 (.t 26))⟩,
   ⟨(some 28), (some (20, true)), (.load1 (.t 27))⟩,
   ⟨(some 29), (some (20, true)), (.un .not (.t 28))⟩,
   ⟨(some 30), none, (.pick (.t 20) (.t 29) (.c (.bool false)))⟩,
   ⟨(some 31), none, (.mv (.t 30))⟩,
   ⟨(some 32), (some (31, true)), (.mv (.t 2))⟩,
   ⟨(some 33), (some (31, true)), (.mv (.t 0))⟩,
   ⟨(some 34), (some (31, true)), (.nilCheck (.t 33))⟩,
   ⟨(some 35), (some (31, true)), (.fieldAddr 0 1 (.t 34))⟩,
   ⟨(some 36), (some (31, true)), (.load1 (.t 35))⟩,
   ⟨(some 37), (some (31, true)), (.mv (.t 1))⟩,
   ⟨(some 38), (some (31, true)), (.ixSlice 10 (.t 36) (.t 37))⟩,
   ⟨(some 39), (some (31, true)), (.fieldAddr 6 1 (.t 38))⟩,
   ⟨(some 40), (some (31, true)), (.load1 (.t 39))⟩,
   ⟨(some 41), (some (31, true)), (.bin .lss .num (.t 32) (.t 40))⟩,
   ⟨(some 42), none, (.pick (.t 31) (.t 41) (.c (.bool false)))⟩,
   ⟨(some 6), none, (.mv (.t 42))⟩]) .ret))⟩
theorem caf233 : cFunc Tryz.prog Tryz.f233 = some af233 := by kernel_rfl
/-- (*limelight/layer.Layers).Woken -/
def af234 : AFunc := ⟨18, [(.tmp 4)],
 (.seq
 (.reg [⟨(some 4), none, (.mv (.c (.bool false)))⟩])
 (.seq
 (.reg [⟨(some 5), none, (.mv (.t 0))⟩,
   ⟨(some 6), none, (.mv (.t 1))⟩,
   ⟨(some 7), none, (.call 87 [(.t 5), (.t 6)])⟩,
   ⟨(some 8), none, (.mv (.t 7))⟩,
   ⟨(some 9), (some (8, true)), (.mv (.t 0))⟩,
   ⟨(some 10), (some (8, true)), (.nilCheck (.t 9))⟩,
   ⟨(some 11), (some (8, true)), (.fieldAddr 0 1 (.t 10))⟩,
   ⟨(some 12), (some (8, true)), (.load1 (.t 11))⟩,
   ⟨(some 13), (some (8, true)), (.mv (.t 1))⟩,
   ⟨(some 14), (some (8, true)), (.ixSlice 10 (.t 12) (.t 13))⟩,
   ⟨(some 15), (some (8, true)), (.fieldAddr 8 1 (.t 14))⟩,
   ⟨(some 16), (some (8, true)), (.load1 (.t 15))⟩,
   ⟨(some 17), none, (.pick (.t 8) (.t 16) (.c (.bool false)))⟩,
   ⟨(some 4), none, (.mv (.t 17))⟩]) .ret))⟩
theorem caf234 : cFunc Tryz.prog Tryz.f234 = some af234 := by kernel_rfl
/-- limelight/clock.Over -/
def af235 : AFunc := ⟨25, [(.tmp 4)],
 (.seq
 (.reg [⟨(some 4), none, (.mv (.c (.int .i64 0)))⟩])
 (.seq
 (.reg [⟨(some 8), none, (.mv (.t 0))⟩,
   ⟨(some 9), none, (.call 183 [(.t 8)])⟩,
   ⟨(some 10), none, (.mv (.t 1))⟩,
   ⟨(some 11), none, (.call 183 [(.t 10)])⟩,
   ⟨(some 5), none, (.mv (.t 9))⟩,
   ⟨(some 6), none, (.mv (.t 11))⟩])
 (.seq
 (.seq
 (.reg [⟨(some 12), none, (.mv (.t 6))⟩,
   ⟨(some 13), none, (.bin .eql .num (.t 12) (.c (.int .u64 0)))⟩])
 (.cond (.t 13)
 (.seq
 (.reg [⟨(some 4), none, (.mv (.c (.int .i64 0)))⟩]) .ret) .skip))
 (.seq
 (.reg [⟨(some 14), none, (.mv (.t 5))⟩,
   ⟨(some 15), none, (.mv (.t 6))⟩,
   ⟨(some 16), none, (.bin .quo .num (.t 14) (.t 15))⟩,
   ⟨(some 7), none, (.mv (.t 16))⟩])
 (.seq
 (.seq
 (.reg [⟨(some 17), none, (.mv (.t 5))⟩,
   ⟨(some 18), none, (.mv (.t 6))⟩,
   ⟨(some 19), none, (.bin .rem .num (.t 17) (.t 18))⟩,
   ⟨(some 20), none, (.bin .gtr .num (.t 19) (.c (.int .u64 0)))⟩])
 (.cond (.t 20)
 (.reg [⟨(some 21), none, (.mv (.t 7))⟩,
   ⟨(some 22), none, (.bin .add .num (.t 21) (.c (.int .u64 1)))⟩,
   ⟨(some 7), none, (.mv (.t 22))⟩]) .skip))
 (.seq
 (.reg [⟨(some 23), none, (.mv (.t 7))⟩,
   ⟨(some 24), none, (.conv (.int .i64) (.t 23))⟩,
   ⟨(some 4), none, (.mv (.t 24))⟩]) .ret))))))⟩
theorem caf235 : cFunc Tryz.prog Tryz.f235 = some af235 := by kernel_rfl
def af236_l0 : AC :=
 (.seq
 (.seq
 (.reg [⟨(some 18), none, (.mv (.t 7))⟩,
   ⟨(some 19), none, (.mv (.t 0))⟩,
   ⟨(some 20), none, (.nilCheck (.t 19))⟩,
   ⟨(some 21), none, (.fieldAddr 5 1 (.t 20))⟩,
   ⟨(some 22), none, (.load1 (.t 21))⟩,
   ⟨(some 23), none, (.bin .leq .num (.t 18) (.t 22))⟩])
 (.cond (.t 23) .skip (.exit 0)))
 (.seq
 (.block 1
 (.seq
 (.reg [⟨(some 26), none, (.mv (.t 7))⟩,
   ⟨(some 27), none, (.bin .geq .num (.t 26) (.c (.int .i64 0)))⟩,
   ⟨(some 28), none, (.mv (.t 27))⟩,
   ⟨(some 29), (some (28, true)), (.mv (.t 7))⟩,
   ⟨(some 30), (some (28, true)), (.mv (.t 0))⟩,
   ⟨(some 31), (some (28, true)), (.nilCheck (.t 30))⟩,
   ⟨(some 32), (some (28, true)), (.fieldAddr 5 1 (.t 31))⟩,
   ⟨(some 33), (some (28, true)), (.load1 (.t 32))⟩,
   ⟨(some 34), (some (28, true)), (.bin .sub .num (.t 33) (.c (.int .i64 5)))⟩,
   ⟨(some 35), (some (28, true)), (.bin .gtr .num (.t 29) (.t 34))⟩,
   ⟨(some 36), none, (.pick (.t 28) (.t 35) (.c (.bool false)))⟩])
 (.cond (.t 36)
 (.reg [⟨(some 37), none, (.mv (.t 6))⟩,
   ⟨(some 38), none, (.mv (.t 0))⟩,
   ⟨(some 39), none, (.mv (.t 7))⟩,
   ⟨(some 40), none, (.bin .rem .num (.t 39) (.c (.int .i64 5)))⟩,
   ⟨(some 41), none, (.nilCheck (.t 38))⟩,
   ⟨(some 42), none, (.fieldAddr 0 5 (.t 41))⟩,
   ⟨(some 43), none, (.ixArr 5 1 (.t 42) (.t 40))⟩,
   ⟨(some 44), none, (.load1 (.t 43))⟩,
   ⟨(some 45), none, (.call 124 [(.t 37), (.t 44)])⟩,
   ⟨(some 6), none, (.mv (.t 45))⟩]) .skip)))
 (.reg [⟨(some 24), none, (.mv (.t 7))⟩,
   ⟨(some 25), none, (.bin .add .num (.t 24) (.c (.int .i64 1)))⟩,
   ⟨(some 7), none, (.mv (.t 25))⟩])))
/-- (*limelight/meter.Meter).Rate -/
def af236 : AFunc := ⟨49, [(.tmp 4)],
 (.seq
 (.reg [⟨(some 4), none, (.mv (.c (.int .i64 0)))⟩])
 (.seq
 (.dreg [⟨(some 8), none, (.mv (.t 0))⟩,
   ⟨(some 9), none, (.nilCheck (.t 8))⟩,
   ⟨(some 10), none, (.fieldAddr 5 1 (.t 9))⟩,
   ⟨(some 11), none, (.load1 (.t 10))⟩,
   ⟨(some 12), none, (.mv (.t 1))⟩,
   ⟨(some 13), none, (.call 160 [(.t 12)])⟩,
   ⟨(some 14), none, (.mx [(.t 11), (.t 13)])⟩,
   ⟨(some 5), none, (.mv (.t 14))⟩] [(3, 6)])
 (.seq
 (.reg [⟨(some 6), none, (.mv (.c (.int .i64 0)))⟩])
 (.seq
 (.seq
 (.reg [⟨(some 15), none, (.mv (.t 5))⟩,
   ⟨(some 16), none, (.bin .sub .num (.t 15) (.c (.int .i64 5)))⟩,
   ⟨(some 17), none, (.bin .add .num (.t 16) (.c (.int .i64 1)))⟩,
   ⟨(some 7), none, (.mv (.t 17))⟩])
 (.block 0
 (.loop af236_l0)))
 (.seq
 (.reg [⟨(some 46), none, (.mv (.t 6))⟩,
   ⟨(some 47), none, (.call 125 [(.t 46), (.c (.int .i64 1000000))])⟩,
   ⟨(some 48), none, (.call 235 [(.t 47), (.c (.int .i64 500000))])⟩,
   ⟨(some 4), none, (.mv (.t 48))⟩]) .ret)))))⟩
theorem caf236 : cFunc Tryz.prog Tryz.f236 = some af236 := by kernel_rfl
/-- limelight/ctl.within -/
def af238 : AFunc := ⟨15, [(.tmp 6)],
 (.seq
 (.reg [⟨(some 6), none, (.mv (.c (.bool false)))⟩])
 (.seq
 (.reg [⟨(some 7), none, (.mv (.t 0))⟩,
   ⟨(some 8), none, (.mv (.t 1))⟩,
   ⟨(some 9), none, (.bin .geq .num (.t 7) (.t 8))⟩,
   ⟨(some 10), none, (.mv (.t 9))⟩,
   ⟨(some 11), (some (10, true)), (.mv (.t 0))⟩,
   ⟨(some 12), (some (10, true)), (.mv (.t 2))⟩,
   ⟨(some 13), (some (10, true)), (.bin .leq .num (.t 11) (.t 12))⟩,
   ⟨(some 14), none, (.pick (.t 10) (.t 13) (.c (.bool false)))⟩,
   ⟨(some 6), none, (.mv (.t 14))⟩]) .ret))⟩
theorem caf238 : cFunc Tryz.prog Tryz.f238 = some af238 := by kernel_rfl
/-- slices.ContainsFunc[[]limelight/api.Layer,limelight/api.Layer] -/
def af239 : AFunc := ⟨9, [(.tmp 4)],
 (.seq
 (.reg [⟨(some 4), none, (.mv (.c (.bool false)))⟩])
 (.seq
 (.reg [⟨(some 5), none, (.mv (.t 0))⟩,
   ⟨(some 6), none, (.mv (.t 1))⟩,
   ⟨(some 7), none, (.call 263 [(.t 5), (.t 6)])⟩,
   ⟨(some 8), none, (.bin .geq .num (.t 7) (.c (.int .i64 0)))⟩,
   ⟨(some 4), none, (.mv (.t 8))⟩]) .ret))⟩
theorem caf239 : cFunc Tryz.prog Tryz.f239 = some af239 := by kernel_rfl
/-- limelight/ctl.Layers$1 -/
def af240 : AFunc := ⟨16, [(.tmp 3)],
 (.seq
 (.reg [⟨(some 2), none, (.box (.t 0))⟩,
   ⟨(some 3), none, (.mv (.c (.bool false)))⟩])
 (.seq
 (.reg [⟨(some 4), none, (.fieldAddr 1 1 (.t 2))⟩,
   ⟨(some 5), none, (.load1 (.t 4))⟩,
   ⟨(some 6), none, (.fieldAddr 1 1 (.t 1))⟩,
   ⟨(some 7), none, (.load1 (.t 6))⟩,
   ⟨(some 8), none, (.bin .eql .num (.t 5) (.t 7))⟩,
   ⟨(some 9), none, (.mv (.t 8))⟩,
   ⟨(some 10), (some (9, false)), (.fieldAddr 0 1 (.t 2))⟩,
   ⟨(some 11), (some (9, false)), (.load1 (.t 10))⟩,
   ⟨(some 12), (some (9, false)), (.fieldAddr 0 1 (.t 1))⟩,
   ⟨(some 13), (some (9, false)), (.load1 (.t 12))⟩,
   ⟨(some 14), (some (9, false)), (.call 86 [(.t 11), (.t 13)])⟩,
   ⟨(some 15), none, (.pick (.t 9) (.c (.bool true)) (.t 14))⟩,
   ⟨(some 3), none, (.mv (.t 15))⟩]) .ret))⟩
theorem caf240 : cFunc Tryz.prog Tryz.f240 = some af240 := by kernel_rfl
def af243_l0 : AC :=
 (.seq
 (.seq
 (.reg [⟨(some 15), none, (.mv (.t 9))⟩,
   ⟨(some 16), none, (.mv (.t 10))⟩,
   ⟨(some 17), none, (.bin .lss .num (.t 15) (.t 16))⟩])
 (.cond (.t 17) .skip (.exit 0)))
 (.block 1
 (.seq
 (.reg [⟨(some 18), none, (.mv (.t 9))⟩,
   ⟨(some 19), none, (.mv (.t 10))⟩,
   ⟨(some 20), none, (.bin .add .num (.t 18) (.t 19))⟩,
   ⟨(some 21), none, (.conv (.int .u64) (.t 20))⟩,
   ⟨(some 22), none, (.bin .shr .num (.t 21) (.c (.int .u64 1)))⟩,
   ⟨(some 23), none, (.conv (.int .i64) (.t 22))⟩,
   ⟨(some 11), none, (.mv (.t 23))⟩])
 (.seq
 (.reg [⟨(some 24), none, (.mv (.t 2))⟩,
   ⟨(some 25), none, (.mv (.t 0))⟩,
   ⟨(some 26), none, (.mv (.t 11))⟩,
   ⟨(some 27), none, (.ixSlice 3 (.t 25) (.t 26))⟩,
   ⟨(some 28), none, (.loadN 3 (.t 27))⟩,
   ⟨(some 29), none, (.mv (.t 1))⟩,
   ⟨(some 30), none, (.callV (.t 24) [(.t 28), (.t 29)])⟩,
   ⟨(some 31), none, (.bin .lss .num (.t 30) (.c (.int .i64 0)))⟩])
 (.cond (.t 31)
 (.reg [⟨(some 32), none, (.mv (.t 11))⟩,
   ⟨(some 33), none, (.bin .add .num (.t 32) (.c (.int .i64 1)))⟩,
   ⟨(some 9), none, (.mv (.t 33))⟩])
 (.reg [⟨(some 34), none, (.mv (.t 11))⟩,
   ⟨(some 10), none, (.mv (.t 34))⟩]))))))
/-- slices.BinarySearchFunc[[]limelight/room.Sub,limelight/room.Sub,int] -/
def af243 : AFunc := ⟨49, [(.tmp 6), (.tmp 7)],
 (.seq
 (.reg [⟨(some 6), none, (.mv (.c (.int .i64 0)))⟩,
   ⟨(some 7), none, (.mv (.c (.bool false)))⟩])
 (.seq
 (.reg [⟨(some 12), none, (.mv (.t 0))⟩,
   ⟨(some 13), none, (.len (.t 12))⟩,
   ⟨(some 8), none, (.mv (.t 13))⟩])
 (.seq
 (.reg [⟨(some 14), none, (.mv (.t 8))⟩,
   ⟨(some 9), none, (.mv (.c (.int .i64 0)))⟩,
   ⟨(some 10), none, (.mv (.t 14))⟩])
 (.seq
 (.block 0
 (.loop af243_l0))
 (.seq
 (.reg [⟨(some 35), none, (.mv (.t 9))⟩,
   ⟨(some 36), none, (.mv (.t 9))⟩,
   ⟨(some 37), none, (.mv (.t 8))⟩,
   ⟨(some 38), none, (.bin .lss .num (.t 36) (.t 37))⟩,
   ⟨(some 39), none, (.mv (.t 38))⟩,
   ⟨(some 40), (some (39, true)), (.mv (.t 2))⟩,
   ⟨(some 41), (some (39, true)), (.mv (.t 0))⟩,
   ⟨(some 42), (some (39, true)), (.mv (.t 9))⟩,
   ⟨(some 43), (some (39, true)), (.ixSlice 3 (.t 41) (.t 42))⟩,
   ⟨(some 44), (some (39, true)), (.loadN 3 (.t 43))⟩,
   ⟨(some 45), (some (39, true)), (.mv (.t 1))⟩,
   ⟨(some 46), (some (39, true)), (.callV (.t 40) [(.t 44), (.t 45)])⟩,
   ⟨(some 47), (some (39, true)), (.bin .eql .num (.t 46) (.c (.int .i64 0)))⟩,
   ⟨(some 48), none, (.pick (.t 39) (.t 47) (.c (.bool false)))⟩,
   ⟨(some 6), none, (.mv (.t 35))⟩,
   ⟨(some 7), none, (.mv (.t 48))⟩]) .ret)))))⟩
theorem caf243 : cFunc Tryz.prog Tryz.f243 = some af243 := by kernel_rfl
/-- cmp.Compare[int] -/
def af245 : AFunc := ⟨20, [(.tmp 4)],
 (.seq
 (.reg [⟨(some 4), none, (.mv (.c (.int .i64 0)))⟩])
 (.seq
 (.reg [⟨(some 7), none, (.mv (.t 0))⟩,
   ⟨(some 8), none, (.call 265 [(.t 7)])⟩,
   ⟨(some 5), none, (.mv (.t 8))⟩])
 (.seq
 (.reg [⟨(some 9), none, (.mv (.t 1))⟩,
   ⟨(some 10), none, (.call 265 [(.t 9)])⟩,
   ⟨(some 6), none, (.mv (.t 10))⟩])
 (.seq
 (.seq
 (.reg [⟨(some 11), none, (.mv (.t 5))⟩])
 (.cond (.t 11)
 (.seq
 (.seq
 (.reg [⟨(some 12), none, (.mv (.t 6))⟩])
 (.cond (.t 12)
 (.seq
 (.reg [⟨(some 4), none, (.mv (.c (.int .i64 0)))⟩]) .ret) .skip))
 (.seq
 (.reg [⟨(some 4), none, (.mv (.c (.int .i64 (-1))))⟩]) .ret)) .skip))
 (.seq
 (.seq
 (.reg [⟨(some 13), none, (.mv (.t 6))⟩])
 (.cond (.t 13)
 (.seq
 (.reg [⟨(some 4), none, (.mv (.c (.int .i64 1)))⟩]) .ret) .skip))
 (.seq
 (.seq
 (.reg [⟨(some 14), none, (.mv (.t 0))⟩,
   ⟨(some 15), none, (.mv (.t 1))⟩,
   ⟨(some 16), none, (.bin .lss .num (.t 14) (.t 15))⟩])
 (.cond (.t 16)
 (.seq
 (.reg [⟨(some 4), none, (.mv (.c (.int .i64 (-1))))⟩]) .ret) .skip))
 (.seq
 (.seq
 (.reg [⟨(some 17), none, (.mv (.t 0))⟩,
   ⟨(some 18), none, (.mv (.t 1))⟩,
   ⟨(some 19), none, (.bin .gtr .num (.t 17) (.t 18))⟩])
 (.cond (.t 19)
 (.seq
 (.reg [⟨(some 4), none, (.mv (.c (.int .i64 1)))⟩]) .ret) .skip))
 (.seq
 (.reg [⟨(some 4), none, (.mv (.c (.int .i64 0)))⟩]) .ret))))))))⟩
theorem caf245 : cFunc Tryz.prog Tryz.f245 = some af245 := by kernel_rfl
/-- slices.Insert[[]limelight/room.Sub,limelight/room.Sub] -/
def af246 : AFunc := ⟨95, [(.tmp 6)],
 (.seq
 (.reg [⟨(some 6), none, (.mv (.c (.slice none 0 0 none)))⟩])
 (.seq
 (.reg [⟨(some 10), none, (.mv (.t 0))⟩,
   ⟨(some 11), none, (.mv (.t 1))⟩,
   ⟨(some 12), none, (.cut 3 (.t 10) (some (.t 11)) none none)⟩])
 (.seq
 (.reg [⟨(some 13), none, (.mv (.t 2))⟩,
   ⟨(some 14), none, (.len (.t 13))⟩,
   ⟨(some 7), none, (.mv (.t 14))⟩])
 (.seq
 (.seq
 (.reg [⟨(some 15), none, (.mv (.t 7))⟩,
   ⟨(some 16), none, (.bin .eql .num (.t 15) (.c (.int .i64 0)))⟩])
 (.cond (.t 16)
 (.seq
 (.reg [⟨(some 17), none, (.mv (.t 0))⟩,
   ⟨(some 6), none, (.mv (.t 17))⟩]) .ret) .skip))
 (.seq
 (.reg [⟨(some 18), none, (.mv (.t 0))⟩,
   ⟨(some 19), none, (.len (.t 18))⟩,
   ⟨(some 8), none, (.mv (.t 19))⟩])
 (.seq
 (.seq
 (.reg [⟨(some 20), none, (.mv (.t 1))⟩,
   ⟨(some 21), none, (.mv (.t 8))⟩,
   ⟨(some 22), none, (.bin .eql .num (.t 20) (.t 21))⟩])
 (.cond (.t 22)
 (.seq
 (.reg [⟨(some 23), none, (.mv (.t 0))⟩,
   ⟨(some 24), none, (.mv (.t 2))⟩,
   ⟨(some 25), none, (.append 3 24 (.t 23) (.t 24))⟩,
   ⟨(some 6), none, (.mv (.t 25))⟩]) .ret) .skip))
 (.seq
 (.seq
 (.reg [⟨(some 26), none, (.mv (.t 8))⟩,
   ⟨(some 27), none, (.mv (.t 7))⟩,
   ⟨(some 28), none, (.bin .add .num (.t 26) (.t 27))⟩,
   ⟨(some 29), none, (.mv (.t 0))⟩,
   ⟨(some 30), none, (.cap (.t 29))⟩,
   ⟨(some 31), none, (.bin .gtr .num (.t 28) (.t 30))⟩])
 (.cond (.t 31)
 (.seq
 (.reg [⟨(some 32), none, (.mv (.t 0))⟩,
   ⟨(some 33), none, (.mv (.t 1))⟩,
   ⟨(some 34), none, (.cut 3 (.t 32) none (some (.t 33)) none)⟩,
   ⟨(some 35), none, (.mv (.t 8))⟩,
   ⟨(some 36), none, (.mv (.t 7))⟩,
   ⟨(some 37), none, (.bin .add .num (.t 35) (.t 36))⟩,
   ⟨(some 38), none, (.mv (.t 1))⟩,
   ⟨(some 39), none, (.bin .sub .num (.t 37) (.t 38))⟩,
   ⟨(some 40), none, (.appendZ 3 24 [(.int .i64 0), (.int .i64 0), (.int .i64 0)] (.t 34) (.t 39))⟩,
   ⟨(some 9), none, (.mv (.t 40))⟩])
 (.seq
 (.reg [⟨(some 41), none, (.mv (.t 9))⟩,
   ⟨(some 42), none, (.mv (.t 1))⟩,
   ⟨(some 43), none, (.cut 3 (.t 41) (some (.t 42)) none none)⟩,
   ⟨(some 44), none, (.mv (.t 2))⟩,
   ⟨(some 45), none, (.copy 3 (.t 43) (.t 44))⟩])
 (.seq
 (.dreg [⟨(some 46), none, (.mv (.t 9))⟩,
   ⟨(some 47), none, (.mv (.t 1))⟩,
   ⟨(some 48), none, (.mv (.t 7))⟩,
   ⟨(some 49), none, (.bin .add .num (.t 47) (.t 48))⟩,
   ⟨(some 50), none, (.cut 3 (.t 46) (some (.t 49)) none none)⟩,
   ⟨(some 51), none, (.mv (.t 0))⟩,
   ⟨(some 52), none, (.mv (.t 1))⟩,
   ⟨(some 53), none, (.cut 3 (.t 51) (some (.t 52)) none none)⟩,
   ⟨(some 54), none, (.copy 3 (.t 50) (.t 53))⟩] [])
 (.seq
 (.reg [⟨(some 55), none, (.mv (.t 9))⟩,
   ⟨(some 6), none, (.mv (.t 55))⟩]) .ret)))) .skip))
 (.seq
 (.reg [⟨(some 56), none, (.mv (.t 0))⟩,
   ⟨(some 57), none, (.mv (.t 8))⟩,
   ⟨(some 58), none, (.mv (.t 7))⟩,
   ⟨(some 59), none, (.bin .add .num (.t 57) (.t 58))⟩,
   ⟨(some 60), none, (.cut 3 (.t 56) none (some (.t 59)) none)⟩,
   ⟨(some 0), none, (.mv (.t 60))⟩])
 (.seq
 (.seq
 (.reg [⟨(some 61), none, (.mv (.t 2))⟩,
   ⟨(some 62), none, (.mv (.t 0))⟩,
   ⟨(some 63), none, (.mv (.t 1))⟩,
   ⟨(some 64), none, (.mv (.t 7))⟩,
   ⟨(some 65), none, (.bin .add .num (.t 63) (.t 64))⟩,
   ⟨(some 66), none, (.cut 3 (.t 62) (some (.t 65)) none none)⟩,
   ⟨(some 67), none, (.call 266 [(.t 61), (.t 66)])⟩,
   ⟨(some 68), none, (.un .not (.t 67))⟩])
 (.cond (.t 68)
 (.seq
 (.dreg [⟨(some 69), none, (.mv (.t 0))⟩,
   ⟨(some 70), none, (.mv (.t 1))⟩,
   ⟨(some 71), none, (.mv (.t 7))⟩,
   ⟨(some 72), none, (.bin .add .num (.t 70) (.t 71))⟩,
   ⟨(some 73), none, (.cut 3 (.t 69) (some (.t 72)) none none)⟩,
   ⟨(some 74), none, (.mv (.t 0))⟩,
   ⟨(some 75), none, (.mv (.t 1))⟩,
   ⟨(some 76), none, (.cut 3 (.t 74) (some (.t 75)) none none)⟩,
   ⟨(some 77), none, (.copy 3 (.t 73) (.t 76))⟩] [])
 (.seq
 (.reg [⟨(some 78), none, (.mv (.t 0))⟩,
   ⟨(some 79), none, (.mv (.t 1))⟩,
   ⟨(some 80), none, (.cut 3 (.t 78) (some (.t 79)) none none)⟩,
   ⟨(some 81), none, (.mv (.t 2))⟩,
   ⟨(some 82), none, (.copy 3 (.t 80) (.t 81))⟩])
 (.seq
 (.reg [⟨(some 83), none, (.mv (.t 0))⟩,
   ⟨(some 6), none, (.mv (.t 83))⟩]) .ret))) .skip))
 (.seq
 (.reg [⟨(some 84), none, (.mv (.t 0))⟩,
   ⟨(some 85), none, (.mv (.t 8))⟩,
   ⟨(some 86), none, (.cut 3 (.t 84) (some (.t 85)) none none)⟩,
   ⟨(some 87), none, (.mv (.t 2))⟩,
   ⟨(some 88), none, (.copy 3 (.t 86) (.t 87))⟩])
 (.seq
 (.reg [⟨(some 89), none, (.mv (.t 0))⟩,
   ⟨(some 90), none, (.mv (.t 1))⟩,
   ⟨(some 91), none, (.cut 3 (.t 89) (some (.t 90)) none none)⟩,
   ⟨(some 92), none, (.mv (.t 7))⟩,
   ⟨(some 93), none, (.call 267 [(.t 91), (.t 92)])⟩])
 (.seq
 (.reg [⟨(some 94), none, (.mv (.t 0))⟩,
   ⟨(some 6), none, (.mv (.t 94))⟩]) .ret))))))))))))⟩
theorem caf246 : cFunc Tryz.prog Tryz.f246 = some af246 := by kernel_rfl
/-- limelight/seq.New -/
def af248 : AFunc := ⟨3, [(.tmp 0)],
 (.seq
 (.reg [⟨(some 0), none, (.mv (.c (.ptr none)))⟩])
 (.seq
 (.reg [⟨(some 1), none, (.build [(.int .i64 0), (.int .i64 0), (.int .i64 0), (.int .u64 0)] [(0, (1, (.c (.int .i64 (-1))))), (1, (1, (.c (.int .i64 (-1)))))])⟩,
   ⟨(some 2), none, (.box (.t 1))⟩,
   ⟨(some 0), none, (.mv (.t 2))⟩]) .ret))⟩
theorem caf248 : cFunc Tryz.prog Tryz.f248 = some af248 := by kernel_rfl
/-- limelight/meter.New -/
def af249 : AFunc := ⟨3, [(.tmp 0)],
 (.seq
 (.reg [⟨(some 0), none, (.mv (.c (.ptr none)))⟩])
 (.seq
 (.reg [⟨(some 1), none, (.build [(.int .i64 0), (.int .i64 0), (.int .i64 0), (.int .i64 0), (.int .i64 0), (.int .i64 0), (.int .i64 0)] [])⟩,
   ⟨(some 2), none, (.box (.t 1))⟩,
   ⟨(some 0), none, (.mv (.t 2))⟩]) .ret))⟩
theorem caf249 : cFunc Tryz.prog Tryz.f249 = some af249 := by kernel_rfl
def af250_l0 : AC :=
 (.block 1
 (.seq
 (.reg [⟨(some 21), none, (.mv (.t 2))⟩,
   ⟨(some 22), none, (.mv (.t 1))⟩,
   ⟨(some 23), none, (.bin .sub .num (.t 21) (.t 22))⟩,
   ⟨(some 12), none, (.mv (.t 23))⟩])
 (.seq
 (.seq
 (.reg [⟨(some 24), none, (.mv (.t 12))⟩,
   ⟨(some 25), none, (.bin .leq .num (.t 24) (.c (.int .i64 12)))⟩])
 (.cond (.t 25)
 (.seq
 (.reg [⟨(some 26), none, (.mv (.t 0))⟩,
   ⟨(some 27), none, (.mv (.t 1))⟩,
   ⟨(some 28), none, (.mv (.t 2))⟩,
   ⟨(some 29), none, (.mv (.t 4))⟩,
   ⟨(some 30), none, (.call 268 [(.t 26), (.t 27), (.t 28), (.t 29)])⟩]) .ret) .skip))
 (.seq
 (.seq
 (.reg [⟨(some 31), none, (.mv (.t 3))⟩,
   ⟨(some 32), none, (.bin .eql .num (.t 31) (.c (.int .i64 0)))⟩])
 (.cond (.t 32)
 (.seq
 (.reg [⟨(some 33), none, (.mv (.t 0))⟩,
   ⟨(some 34), none, (.mv (.t 1))⟩,
   ⟨(some 35), none, (.mv (.t 2))⟩,
   ⟨(some 36), none, (.mv (.t 4))⟩,
   ⟨(some 37), none, (.call 269 [(.t 33), (.t 34), (.t 35), (.t 36)])⟩]) .ret) .skip))
 (.seq
 (.seq
 (.reg [⟨(some 38), none, (.mv (.t 10))⟩,
   ⟨(some 39), none, (.un .not (.t 38))⟩])
 (.cond (.t 39)
 (.seq
 (.reg [⟨(some 40), none, (.mv (.t 0))⟩,
   ⟨(some 41), none, (.mv (.t 1))⟩,
   ⟨(some 42), none, (.mv (.t 2))⟩,
   ⟨(some 43), none, (.mv (.t 4))⟩,
   ⟨(some 44), none, (.call 270 [(.t 40), (.t 41), (.t 42), (.t 43)])⟩])
 (.reg [⟨(some 45), none, (.mv (.t 3))⟩,
   ⟨(some 46), none, (.bin .sub .num (.t 45) (.c (.int .i64 1)))⟩,
   ⟨(some 3), none, (.mv (.t 46))⟩])) .skip))
 (.seq
 (.reg [⟨(some 48), none, (.mv (.t 0))⟩,
   ⟨(some 49), none, (.mv (.t 1))⟩,
   ⟨(some 50), none, (.mv (.t 2))⟩,
   ⟨(some 51), none, (.mv (.t 4))⟩,
   ⟨(some 52), none, (.call 271 [(.t 48), (.t 49), (.t 50), (.t 51)])⟩,
   ⟨(some 47), none, (.mv (.t 52))⟩,
   ⟨(some 53), none, (.extract 0 (.t 47))⟩,
   ⟨(some 54), none, (.extract 1 (.t 47))⟩,
   ⟨(some 13), none, (.mv (.t 53))⟩,
   ⟨(some 14), none, (.mv (.t 54))⟩])
 (.seq
 (.seq
 (.reg [⟨(some 55), none, (.mv (.t 14))⟩,
   ⟨(some 56), none, (.bin .eql .num (.t 55) (.c (.int .i64 2)))⟩])
 (.cond (.t 56)
 (.seq
 (.reg [⟨(some 57), none, (.mv (.t 0))⟩,
   ⟨(some 58), none, (.mv (.t 1))⟩,
   ⟨(some 59), none, (.mv (.t 2))⟩,
   ⟨(some 60), none, (.mv (.t 4))⟩,
   ⟨(some 61), none, (.call 272 [(.t 57), (.t 58), (.t 59), (.t 60)])⟩])
 (.seq
 (.reg [⟨(some 62), none, (.mv (.t 2))⟩,
   ⟨(some 63), none, (.bin .sub .num (.t 62) (.c (.int .i64 1)))⟩,
   ⟨(some 64), none, (.mv (.t 13))⟩,
   ⟨(some 65), none, (.mv (.t 1))⟩,
   ⟨(some 66), none, (.bin .sub .num (.t 64) (.t 65))⟩,
   ⟨(some 67), none, (.bin .sub .num (.t 63) (.t 66))⟩,
   ⟨(some 13), none, (.mv (.t 67))⟩])
 (.reg [⟨(some 14), none, (.mv (.c (.int .i64 1)))⟩]))) .skip))
 (.seq
 (.seq
 (.reg [⟨(some 68), none, (.mv (.t 10))⟩,
   ⟨(some 69), none, (.mv (.t 68))⟩,
   ⟨(some 70), (some (69, true)), (.mv (.t 11))⟩,
   ⟨(some 71), none, (.pick (.t 69) (.t 70) (.c (.bool false)))⟩,
   ⟨(some 72), none, (.mv (.t 71))⟩,
   ⟨(some 73), (some (72, true)), (.mv (.t 14))⟩,
   ⟨(some 74), (some (72, true)), (.bin .eql .num (.t 73) (.c (.int .i64 1)))⟩,
   ⟨(some 75), none, (.pick (.t 72) (.t 74) (.c (.bool false)))⟩])
 (.cond (.t 75)
 (.seq
 (.reg [⟨(some 76), none, (.mv (.t 0))⟩,
   ⟨(some 77), none, (.mv (.t 1))⟩,
   ⟨(some 78), none, (.mv (.t 2))⟩,
   ⟨(some 79), none, (.mv (.t 4))⟩,
   ⟨(some 80), none, (.call 273 [(.t 76), (.t 77), (.t 78), (.t 79)])⟩])
 (.cond (.t 80) .ret .skip)) .skip))
 (.seq
 (.seq
 (.dreg [⟨(some 81), none, (.mv (.t 1))⟩,
   ⟨(some 82), none, (.bin .gtr .num (.t 81) (.c (.int .i64 0)))⟩,
   ⟨(some 83), none, (.mv (.t 82))⟩,
   ⟨(some 84), (some (83, true)), (.mv (.t 4))⟩,
   ⟨(some 85), (some (83, true)), (.mv (.t 0))⟩,
   ⟨(some 86), (some (83, true)), (.mv (.t 1))⟩,
   ⟨(some 87), (some (83, true)), (.bin .sub .num (.t 86) (.c (.int .i64 1)))⟩,
   ⟨(some 88), (some (83, true)), (.ixSlice 1 (.t 85) (.t 87))⟩,
   ⟨(some 89), (some (83, true)), (.load1 (.t 88))⟩,
   ⟨(some 90), (some (83, true)), (.mv (.t 0))⟩,
   ⟨(some 91), (some (83, true)), (.mv (.t 13))⟩,
   ⟨(some 92), (some (83, true)), (.ixSlice 1 (.t 90) (.t 91))⟩,
   ⟨(some 93), (some (83, true)), (.load1 (.t 92))⟩,
   ⟨(some 94), (some (83, true)), (.callV (.t 84) [(.t 89), (.t 93)])⟩,
   ⟨(some 95), (some (83, true)), (.bin .lss .num (.t 94) (.c (.int .i64 0)))⟩,
   ⟨(some 96), (some (83, true)), (.un .not (.t 95))⟩,
   ⟨(some 97), none, (.pick (.t 83) (.t 96) (.c (.bool false)))⟩] [])
 (.cond (.t 97)
 (.seq
 (.reg [⟨(some 98), none, (.mv (.t 0))⟩,
   ⟨(some 99), none, (.mv (.t 1))⟩,
   ⟨(some 100), none, (.mv (.t 2))⟩,
   ⟨(some 101), none, (.mv (.t 13))⟩,
   ⟨(some 102), none, (.mv (.t 4))⟩,
   ⟨(some 103), none, (.call 274 [(.t 98), (.t 99), (.t 100), (.t 101), (.t 102)])⟩,
   ⟨(some 15), none, (.mv (.t 103))⟩])
 (.seq
 (.reg [⟨(some 104), none, (.mv (.t 15))⟩,
   ⟨(some 1), none, (.mv (.t 104))⟩]) (.exit 1))) .skip))
 (.seq
 (.reg [⟨(some 106), none, (.mv (.t 0))⟩,
   ⟨(some 107), none, (.mv (.t 1))⟩,
   ⟨(some 108), none, (.mv (.t 2))⟩,
   ⟨(some 109), none, (.mv (.t 13))⟩,
   ⟨(some 110), none, (.mv (.t 4))⟩,
   ⟨(some 111), none, (.call 275 [(.t 106), (.t 107), (.t 108), (.t 109), (.t 110)])⟩,
   ⟨(some 105), none, (.mv (.t 111))⟩,
   ⟨(some 112), none, (.extract 0 (.t 105))⟩,
   ⟨(some 113), none, (.extract 1 (.t 105))⟩,
   ⟨(some 16), none, (.mv (.t 112))⟩,
   ⟨(some 17), none, (.mv (.t 113))⟩])
 (.seq
 (.reg [⟨(some 114), none, (.mv (.t 17))⟩,
   ⟨(some 11), none, (.mv (.t 114))⟩])
 (.seq
 (.reg [⟨(some 115), none, (.mv (.t 16))⟩,
   ⟨(some 116), none, (.mv (.t 1))⟩,
   ⟨(some 117), none, (.bin .sub .num (.t 115) (.t 116))⟩,
   ⟨(some 118), none, (.mv (.t 2))⟩,
   ⟨(some 119), none, (.mv (.t 16))⟩,
   ⟨(some 120), none, (.bin .sub .num (.t 118) (.t 119))⟩,
   ⟨(some 18), none, (.mv (.t 117))⟩,
   ⟨(some 19), none, (.mv (.t 120))⟩])
 (.seq
 (.reg [⟨(some 121), none, (.mv (.t 12))⟩,
   ⟨(some 122), none, (.bin .quo .num (.t 121) (.c (.int .i64 8)))⟩,
   ⟨(some 20), none, (.mv (.t 122))⟩])
 (.seq
 (.reg [⟨(some 123), none, (.mv (.t 18))⟩,
   ⟨(some 124), none, (.mv (.t 19))⟩,
   ⟨(some 125), none, (.bin .lss .num (.t 123) (.t 124))⟩])
 (.cond (.t 125)
 (.seq
 (.reg [⟨(some 126), none, (.mv (.t 18))⟩,
   ⟨(some 127), none, (.mv (.t 20))⟩,
   ⟨(some 128), none, (.bin .geq .num (.t 126) (.t 127))⟩,
   ⟨(some 10), none, (.mv (.t 128))⟩])
 (.seq
 (.reg [⟨(some 129), none, (.mv (.t 0))⟩,
   ⟨(some 130), none, (.mv (.t 1))⟩,
   ⟨(some 131), none, (.mv (.t 16))⟩,
   ⟨(some 132), none, (.mv (.t 3))⟩,
   ⟨(some 133), none, (.mv (.t 4))⟩,
   ⟨(some 134), none, (.call 250 [(.t 129), (.t 130), (.t 131), (.t 132), (.t 133)])⟩])
 (.reg [⟨(some 135), none, (.mv (.t 16))⟩,
   ⟨(some 136), none, (.bin .add .num (.t 135) (.c (.int .i64 1)))⟩,
   ⟨(some 1), none, (.mv (.t 136))⟩])))
 (.seq
 (.reg [⟨(some 137), none, (.mv (.t 19))⟩,
   ⟨(some 138), none, (.mv (.t 20))⟩,
   ⟨(some 139), none, (.bin .geq .num (.t 137) (.t 138))⟩,
   ⟨(some 10), none, (.mv (.t 139))⟩])
 (.seq
 (.reg [⟨(some 140), none, (.mv (.t 0))⟩,
   ⟨(some 141), none, (.mv (.t 16))⟩,
   ⟨(some 142), none, (.bin .add .num (.t 141) (.c (.int .i64 1)))⟩,
   ⟨(some 143), none, (.mv (.t 2))⟩,
   ⟨(some 144), none, (.mv (.t 3))⟩,
   ⟨(some 145), none, (.mv (.t 4))⟩,
   ⟨(some 146), none, (.call 250 [(.t 140), (.t 142), (.t 143), (.t 144), (.t 145)])⟩])
 (.reg [⟨(some 147), none, (.mv (.t 16))⟩,
   ⟨(some 2), none, (.mv (.t 147))⟩]))))))))))))))))))
/-- slices.pdqsortCmpFunc[*limelight/sfu.sub] -/
def af250 : AFunc := ⟨148, [],
 (.seq
 (.reg [⟨(some 10), none, (.mv (.c (.bool true)))⟩])
 (.seq
 (.reg [⟨(some 11), none, (.mv (.c (.bool true)))⟩])
 (.block 0
 (.loop af250_l0))))⟩
theorem caf250 : cFunc Tryz.prog Tryz.f250 = some af250 := by kernel_rfl
/-- math/bits.Len -/
def af251 : AFunc := ⟨8, [(.tmp 2)],
 (.seq
 (.reg [⟨(some 2), none, (.mv (.c (.int .i64 0)))⟩])
 (.seq
 (.cond (.c (.bool false))
 (.seq
 (.reg [⟨(some 3), none, (.mv (.t 0))⟩,
   ⟨(some 4), none, (.conv (.int .u32) (.t 3))⟩,
   ⟨(some 5), none, (.call 276 [(.t 4)])⟩,
   ⟨(some 2), none, (.mv (.t 5))⟩]) .ret) .skip)
 (.seq
 (.reg [⟨(some 6), none, (.mv (.t 0))⟩,
   ⟨(some 7), none, (.call 277 [(.t 6)])⟩,
   ⟨(some 2), none, (.mv (.t 7))⟩]) .ret)))⟩
theorem caf251 : cFunc Tryz.prog Tryz.f251 = some af251 := by kernel_rfl
/-- (*limelight/alarm.Table).find -/
def af254 : AFunc := ⟨11, [(.tmp 4)],
 (.seq
 (.reg [⟨(some 3), none, (.box (.t 1))⟩,
   ⟨(some 4), none, (.mv (.c (.int .i64 0)))⟩])
 (.seq
 (.reg [⟨(some 5), none, (.mv (.t 0))⟩,
   ⟨(some 6), none, (.nilCheck (.t 5))⟩,
   ⟨(some 7), none, (.fieldAddr 0 1 (.t 6))⟩,
   ⟨(some 8), none, (.load1 (.t 7))⟩,
   ⟨(some 9), none, (.mkFunc 280 [(.t 3)])⟩,
   ⟨(some 10), none, (.call 279 [(.t 8), (.t 9)])⟩,
   ⟨(some 4), none, (.mv (.t 10))⟩]) .ret))⟩
theorem caf254 : cFunc Tryz.prog Tryz.f254 = some af254 := by kernel_rfl
def af256_l0 : AC :=
 (.block 1
 (.seq
 (.reg [⟨(some 21), none, (.mv (.t 2))⟩,
   ⟨(some 22), none, (.mv (.t 1))⟩,
   ⟨(some 23), none, (.bin .sub .num (.t 21) (.t 22))⟩,
   ⟨(some 12), none, (.mv (.t 23))⟩])
 (.seq
 (.seq
 (.reg [⟨(some 24), none, (.mv (.t 12))⟩,
   ⟨(some 25), none, (.bin .leq .num (.t 24) (.c (.int .i64 12)))⟩])
 (.cond (.t 25)
 (.seq
 (.reg [⟨(some 26), none, (.mv (.t 0))⟩,
   ⟨(some 27), none, (.mv (.t 1))⟩,
   ⟨(some 28), none, (.mv (.t 2))⟩,
   ⟨(some 29), none, (.mv (.t 4))⟩,
   ⟨(some 30), none, (.call 281 [(.t 26), (.t 27), (.t 28), (.t 29)])⟩]) .ret) .skip))
 (.seq
 (.seq
 (.reg [⟨(some 31), none, (.mv (.t 3))⟩,
   ⟨(some 32), none, (.bin .eql .num (.t 31) (.c (.int .i64 0)))⟩])
 (.cond (.t 32)
 (.seq
 (.reg [⟨(some 33), none, (.mv (.t 0))⟩,
   ⟨(some 34), none, (.mv (.t 1))⟩,
   ⟨(some 35), none, (.mv (.t 2))⟩,
   ⟨(some 36), none, (.mv (.t 4))⟩,
   ⟨(some 37), none, (.call 282 [(.t 33), (.t 34), (.t 35), (.t 36)])⟩]) .ret) .skip))
 (.seq
 (.seq
 (.reg [⟨(some 38), none, (.mv (.t 10))⟩,
   ⟨(some 39), none, (.un .not (.t 38))⟩])
 (.cond (.t 39)
 (.seq
 (.reg [⟨(some 40), none, (.mv (.t 0))⟩,
   ⟨(some 41), none, (.mv (.t 1))⟩,
   ⟨(some 42), none, (.mv (.t 2))⟩,
   ⟨(some 43), none, (.mv (.t 4))⟩,
   ⟨(some 44), none, (.call 283 [(.t 40), (.t 41), (.t 42), (.t 43)])⟩])
 (.reg [⟨(some 45), none, (.mv (.t 3))⟩,
   ⟨(some 46), none, (.bin .sub .num (.t 45) (.c (.int .i64 1)))⟩,
   ⟨(some 3), none, (.mv (.t 46))⟩])) .skip))
 (.seq
 (.reg [⟨(some 48), none, (.mv (.t 0))⟩,
   ⟨(some 49), none, (.mv (.t 1))⟩,
   ⟨(some 50), none, (.mv (.t 2))⟩,
   ⟨(some 51), none, (.mv (.t 4))⟩,
   ⟨(some 52), none, (.call 284 [(.t 48), (.t 49), (.t 50), (.t 51)])⟩,
   ⟨(some 47), none, (.mv (.t 52))⟩,
   ⟨(some 53), none, (.extract 0 (.t 47))⟩,
   ⟨(some 54), none, (.extract 1 (.t 47))⟩,
   ⟨(some 13), none, (.mv (.t 53))⟩,
   ⟨(some 14), none, (.mv (.t 54))⟩])
 (.seq
 (.seq
 (.reg [⟨(some 55), none, (.mv (.t 14))⟩,
   ⟨(some 56), none, (.bin .eql .num (.t 55) (.c (.int .i64 2)))⟩])
 (.cond (.t 56)
 (.seq
 (.reg [⟨(some 57), none, (.mv (.t 0))⟩,
   ⟨(some 58), none, (.mv (.t 1))⟩,
   ⟨(some 59), none, (.mv (.t 2))⟩,
   ⟨(some 60), none, (.mv (.t 4))⟩,
   ⟨(some 61), none, (.call 285 [(.t 57), (.t 58), (.t 59), (.t 60)])⟩])
 (.seq
 (.reg [⟨(some 62), none, (.mv (.t 2))⟩,
   ⟨(some 63), none, (.bin .sub .num (.t 62) (.c (.int .i64 1)))⟩,
   ⟨(some 64), none, (.mv (.t 13))⟩,
   ⟨(some 65), none, (.mv (.t 1))⟩,
   ⟨(some 66), none, (.bin .sub .num (.t 64) (.t 65))⟩,
   ⟨(some 67), none, (.bin .sub .num (.t 63) (.t 66))⟩,
   ⟨(some 13), none, (.mv (.t 67))⟩])
 (.reg [⟨(some 14), none, (.mv (.c (.int .i64 1)))⟩]))) .skip))
 (.seq
 (.seq
 (.reg [⟨(some 68), none, (.mv (.t 10))⟩,
   ⟨(some 69), none, (.mv (.t 68))⟩,
   ⟨(some 70), (some (69, true)), (.mv (.t 11))⟩,
   ⟨(some 71), none, (.pick (.t 69) (.t 70) (.c (.bool false)))⟩,
   ⟨(some 72), none, (.mv (.t 71))⟩,
   ⟨(some 73), (some (72, true)), (.mv (.t 14))⟩,
   ⟨(some 74), (some (72, true)), (.bin .eql .num (.t 73) (.c (.int .i64 1)))⟩,
   ⟨(some 75), none, (.pick (.t 72) (.t 74) (.c (.bool false)))⟩])
 (.cond (.t 75)
 (.seq
 (.reg [⟨(some 76), none, (.mv (.t 0))⟩,
   ⟨(some 77), none, (.mv (.t 1))⟩,
   ⟨(some 78), none, (.mv (.t 2))⟩,
   ⟨(some 79), none, (.mv (.t 4))⟩,
   ⟨(some 80), none, (.call 286 [(.t 76), (.t 77), (.t 78), (.t 79)])⟩])
 (.cond (.t 80) .ret .skip)) .skip))
 (.seq
 (.seq
 (.dreg [⟨(some 81), none, (.mv (.t 1))⟩,
   ⟨(some 82), none, (.bin .gtr .num (.t 81) (.c (.int .i64 0)))⟩,
   ⟨(some 83), none, (.mv (.t 82))⟩,
   ⟨(some 84), (some (83, true)), (.mv (.t 4))⟩,
   ⟨(some 85), (some (83, true)), (.mv (.t 0))⟩,
   ⟨(some 86), (some (83, true)), (.mv (.t 1))⟩,
   ⟨(some 87), (some (83, true)), (.bin .sub .num (.t 86) (.c (.int .i64 1)))⟩,
   ⟨(some 88), (some (83, true)), (.ixSlice 2 (.t 85) (.t 87))⟩,
   ⟨(some 89), (some (83, true)), (.loadN 2 (.t 88))⟩,
   ⟨(some 90), (some (83, true)), (.mv (.t 0))⟩,
   ⟨(some 91), (some (83, true)), (.mv (.t 13))⟩,
   ⟨(some 92), (some (83, true)), (.ixSlice 2 (.t 90) (.t 91))⟩,
   ⟨(some 93), (some (83, true)), (.loadN 2 (.t 92))⟩,
   ⟨(some 94), (some (83, true)), (.callV (.t 84) [(.t 89), (.t 93)])⟩,
   ⟨(some 95), (some (83, true)), (.bin .lss .num (.t 94) (.c (.int .i64 0)))⟩,
   ⟨(some 96), (some (83, true)), (.un .not (.t 95))⟩,
   ⟨(some 97), none, (.pick (.t 83) (.t 96) (.c (.bool false)))⟩] [])
 (.cond (.t 97)
 (.seq
 (.reg [⟨(some 98), none, (.mv (.t 0))⟩,
   ⟨(some 99), none, (.mv (.t 1))⟩,
   ⟨(some 100), none, (.mv (.t 2))⟩,
   ⟨(some 101), none, (.mv (.t 13))⟩,
   ⟨(some 102), none, (.mv (.t 4))⟩,
   ⟨(some 103), none, (.call 287 [(.t 98), (.t 99), (.t 100), (.t 101), (.t 102)])⟩,
   ⟨(some 15), none, (.mv (.t 103))⟩])
 (.seq
 (.reg [⟨(some 104), none, (.mv (.t 15))⟩,
   ⟨(some 1), none, (.mv (.t 104))⟩]) (.exit 1))) .skip))
 (.seq
 (.reg [⟨(some 106), none, (.mv (.t 0))⟩,
   ⟨(some 107), none, (.mv (.t 1))⟩,
   ⟨(some 108), none, (.mv (.t 2))⟩,
   ⟨(some 109), none, (.mv (.t 13))⟩,
   ⟨(some 110), none, (.mv (.t 4))⟩,
   ⟨(some 111), none, (.call 288 [(.t 106), (.t 107), (.t 108), (.t 109), (.t 110)])⟩,
   ⟨(some 105), none, (.mv (.t 111))⟩,
   ⟨(some 112), none, (.extract 0 (.t 105))⟩,
   ⟨(some 113), none, (.extract 1 (.t 105))⟩,
   ⟨(some 16), none, (.mv (.t 112))⟩,
   ⟨(some 17), none, (.mv (.t 113))⟩])
 (.seq
 (.reg [⟨(some 114), none, (.mv (.t 17))⟩,
   ⟨(some 11), none, (.mv (.t 114))⟩])
 (.seq
 (.reg [⟨(some 115), none, (.mv (.t 16))⟩,
   ⟨(some 116), none, (.mv (.t 1))⟩,
   ⟨(some 117), none, (.bin .sub .num (.t 115) (.t 116))⟩,
   ⟨(some 118), none, (.mv (.t 2))⟩,
   ⟨(some 119), none, (.mv (.t 16))⟩,
   ⟨(some 120), none, (.bin .sub .num (.t 118) (.t 119))⟩,
   ⟨(some 18), none, (.mv (.t 117))⟩,
   ⟨(some 19), none, (.mv (.t 120))⟩])
 (.seq
 (.reg [⟨(some 121), none, (.mv (.t 12))⟩,
   ⟨(some 122), none, (.bin .quo .num (.t 121) (.c (.int .i64 8)))⟩,
   ⟨(some 20), none, (.mv (.t 122))⟩])
 (.seq
 (.reg [⟨(some 123), none, (.mv (.t 18))⟩,
   ⟨(some 124), none, (.mv (.t 19))⟩,
   ⟨(some 125), none, (.bin .lss .num (.t 123) (.t 124))⟩])
 (.cond (.t 125)
 (.seq
 (.reg [⟨(some 126), none, (.mv (.t 18))⟩,
   ⟨(some 127), none, (.mv (.t 20))⟩,
   ⟨(some 128), none, (.bin .geq .num (.t 126) (.t 127))⟩,
   ⟨(some 10), none, (.mv (.t 128))⟩])
 (.seq
 (.reg [⟨(some 129), none, (.mv (.t 0))⟩,
   ⟨(some 130), none, (.mv (.t 1))⟩,
   ⟨(some 131), none, (.mv (.t 16))⟩,
   ⟨(some 132), none, (.mv (.t 3))⟩,
   ⟨(some 133), none, (.mv (.t 4))⟩,
   ⟨(some 134), none, (.call 256 [(.t 129), (.t 130), (.t 131), (.t 132), (.t 133)])⟩])
 (.reg [⟨(some 135), none, (.mv (.t 16))⟩,
   ⟨(some 136), none, (.bin .add .num (.t 135) (.c (.int .i64 1)))⟩,
   ⟨(some 1), none, (.mv (.t 136))⟩])))
 (.seq
 (.reg [⟨(some 137), none, (.mv (.t 19))⟩,
   ⟨(some 138), none, (.mv (.t 20))⟩,
   ⟨(some 139), none, (.bin .geq .num (.t 137) (.t 138))⟩,
   ⟨(some 10), none, (.mv (.t 139))⟩])
 (.seq
 (.reg [⟨(some 140), none, (.mv (.t 0))⟩,
   ⟨(some 141), none, (.mv (.t 16))⟩,
   ⟨(some 142), none, (.bin .add .num (.t 141) (.c (.int .i64 1)))⟩,
   ⟨(some 143), none, (.mv (.t 2))⟩,
   ⟨(some 144), none, (.mv (.t 3))⟩,
   ⟨(some 145), none, (.mv (.t 4))⟩,
   ⟨(some 146), none, (.call 256 [(.t 140), (.t 142), (.t 143), (.t 144), (.t 145)])⟩])
 (.reg [⟨(some 147), none, (.mv (.t 16))⟩,
   ⟨(some 2), none, (.mv (.t 147))⟩]))))))))))))))))))
/-- slices.pdqsortCmpFunc[limelight/alarm.Due] -/
def af256 : AFunc := ⟨148, [],
 (.seq
 (.reg [⟨(some 10), none, (.mv (.c (.bool true)))⟩])
 (.seq
 (.reg [⟨(some 11), none, (.mv (.c (.bool true)))⟩])
 (.block 0
 (.loop af256_l0))))⟩
theorem caf256 : cFunc Tryz.prog Tryz.f256 = some af256 := by kernel_rfl
/-- limelight/bound.held -/
def af259 : AFunc := ⟨13, [(.cellN 2 3)],
 (.seq
 (.reg [⟨(some 1), none, (.box (.t 0))⟩,
   ⟨(some 2), none, (.alloc [(.int .u32 0), (.int .u64 0), (.int .i64 0)])⟩])
 (.seq
 (.reg [⟨(some 3), none, (.fieldAddr 0 1 (.t 1))⟩,
   ⟨(some 4), none, (.load1 (.t 3))⟩,
   ⟨(some 5), none, (.fieldAddr 1 1 (.t 1))⟩,
   ⟨(some 6), none, (.load1 (.t 5))⟩,
   ⟨(some 7), none, (.mn [(.t 6), (.c (.int .u64 1099511627776))])⟩,
   ⟨(some 8), none, (.fieldAddr 2 1 (.t 1))⟩,
   ⟨(some 9), none, (.load1 (.t 8))⟩,
   ⟨(some 10), none, (.mn [(.t 9), (.c (.int .i64 511))])⟩,
   ⟨(some 11), none, (.mx [(.c (.int .i64 0)), (.t 10)])⟩,
   ⟨(some 12), none, (.build [(.int .u32 0), (.int .u64 0), (.int .i64 0)] [(0, (1, (.t 4))), (1, (1, (.t 7))), (2, (1, (.t 11)))])⟩,
   ⟨none, none, (.store 3 (.t 2) (.t 12))⟩]) .ret))⟩
theorem caf259 : cFunc Tryz.prog Tryz.f259 = some af259 := by kernel_rfl
def af261_l0 : AC :=
 (.seq
 (.reg [⟨(some 17), none, (.bin .lss .num (.t 16) (.t 15))⟩])
 (.seq
 (.cond (.t 17) .skip (.exit 0))
 (.seq
 (.block 1
 (.seq
 (.reg [⟨(some 18), none, (.mv (.t 16))⟩,
   ⟨(some 19), none, (.ixSlice 1 (.t 14) (.t 16))⟩,
   ⟨(some 20), none, (.load1 (.t 19))⟩,
   ⟨(some 6), none, (.mv (.t 18))⟩,
   ⟨(some 7), none, (.mv (.t 20))⟩])
 (.seq
 (.reg [⟨(some 21), none, (.mv (.t 7))⟩,
   ⟨(some 22), none, (.bin .geq .num (.t 21) (.c (.int .i64 0)))⟩,
   ⟨(some 23), none, (.mv (.t 22))⟩,
   ⟨(some 24), (some (23, true)), (.mv (.t 0))⟩,
   ⟨(some 25), (some (23, true)), (.mv (.t 6))⟩,
   ⟨(some 26), (some (23, true)), (.ixSlice 3 (.t 24) (.t 25))⟩,
   ⟨(some 27), (some (23, true)), (.loadN 3 (.t 26))⟩,
   ⟨(some 28), (some (23, true)), (.mv (.t 7))⟩,
   ⟨(some 29), (some (23, true)), (.call 229 [(.t 27), (.t 28)])⟩,
   ⟨(some 30), none, (.pick (.t 23) (.t 29) (.c (.bool false)))⟩])
 (.cond (.t 30)
 (.dreg [⟨(some 31), none, (.mv (.t 0))⟩,
   ⟨(some 32), none, (.mv (.t 6))⟩,
   ⟨(some 33), none, (.ixSlice 3 (.t 31) (.t 32))⟩,
   ⟨(some 34), none, (.fieldAddr 0 1 (.t 33))⟩,
   ⟨(some 35), none, (.load1 (.t 34))⟩,
   ⟨(some 36), none, (.ixArr 4 1 (.t 5) (.t 35))⟩,
   ⟨(some 37), none, (.load1 (.t 36))⟩,
   ⟨(some 38), none, (.mv (.t 0))⟩,
   ⟨(some 39), none, (.mv (.t 6))⟩,
   ⟨(some 40), none, (.ixSlice 3 (.t 38) (.t 39))⟩,
   ⟨(some 41), none, (.fieldAddr 2 1 (.t 40))⟩,
   ⟨(some 42), none, (.load1 (.t 41))⟩,
   ⟨(some 43), none, (.mv (.t 7))⟩,
   ⟨(some 44), none, (.ixSlice 1 (.t 42) (.t 43))⟩,
   ⟨(some 45), none, (.load1 (.t 44))⟩,
   ⟨(some 46), none, (.mn [(.t 45), (.c (.int .i64 1073741824))])⟩,
   ⟨(some 47), none, (.mx [(.c (.int .i64 0)), (.t 46)])⟩,
   ⟨(some 48), none, (.bin .add .num (.t 37) (.t 47))⟩,
   ⟨(some 49), none, (.ixArr 4 1 (.t 5) (.t 35))⟩,
   ⟨none, none, (.store 1 (.t 49) (.t 48))⟩] []) .skip))))
 (.reg [⟨(some 50), none, (.bin .add .num (.t 16) (.c (.int .i64 1)))⟩,
   ⟨(some 16), none, (.mv (.t 50))⟩]))))
/-- limelight/knap.Good -/
def af261 : AFunc := ⟨52, [(.cellN 4 4)],
 (.seq
 (.reg [⟨(some 4), none, (.alloc [(.int .i64 0), (.int .i64 0), (.int .i64 0), (.int .i64 0)])⟩])
 (.seq
 (.reg [⟨(some 5), none, (.alloc [(.int .i64 0), (.int .i64 0), (.int .i64 0), (.int .i64 0)])⟩])
 (.seq
 (.seq
 (.reg [⟨(some 8), none, (.mv (.t 1))⟩,
   ⟨(some 9), none, (.mv (.t 1))⟩,
   ⟨(some 10), none, (.len (.t 9))⟩,
   ⟨(some 11), none, (.mv (.t 0))⟩,
   ⟨(some 12), none, (.len (.t 11))⟩,
   ⟨(some 13), none, (.mn [(.t 10), (.t 12)])⟩,
   ⟨(some 14), none, (.cut 1 (.t 8) none (some (.t 13)) none)⟩,
   ⟨(some 15), none, (.len (.t 14))⟩,
   ⟨(some 16), none, (.mv (.c (.int .i64 0)))⟩])
 (.block 0
 (.loop af261_l0)))
 (.seq
 (.reg [⟨(some 51), none, (.loadN 4 (.t 5))⟩,
   ⟨none, none, (.store 4 (.t 4) (.t 51))⟩]) .ret))))⟩
theorem caf261 : cFunc Tryz.prog Tryz.f261 = some af261 := by kernel_rfl
/-- limelight/knap.Better -/
def af262 : AFunc := ⟨9, [(.tmp 4)],
 (.seq
 (.reg [⟨(some 2), none, (.box (.t 0))⟩,
   ⟨(some 3), none, (.box (.t 1))⟩,
   ⟨(some 4), none, (.mv (.c (.bool false)))⟩])
 (.seq
 (.dreg [⟨(some 5), none, (.cutArr 4 1 (.t 2) none none)⟩,
   ⟨(some 6), none, (.cutArr 4 1 (.t 3) none none)⟩,
   ⟨(some 7), none, (.call 289 [(.t 5), (.t 6)])⟩,
   ⟨(some 8), none, (.bin .gtr .num (.t 7) (.c (.int .i64 0)))⟩,
   ⟨(some 4), none, (.mv (.t 8))⟩] []) .ret))⟩
theorem caf262 : cFunc Tryz.prog Tryz.f262 = some af262 := by kernel_rfl
def af263_l0 : AC :=
 (.seq
 (.reg [⟨(some 9), none, (.bin .lss .num (.t 8) (.t 7))⟩])
 (.seq
 (.cond (.t 9) .skip (.exit 0))
 (.seq
 (.block 1
 (.seq
 (.reg [⟨(some 10), none, (.mv (.t 8))⟩,
   ⟨(some 5), none, (.mv (.t 10))⟩])
 (.seq
 (.reg [⟨(some 11), none, (.mv (.t 1))⟩,
   ⟨(some 12), none, (.mv (.t 0))⟩,
   ⟨(some 13), none, (.mv (.t 5))⟩,
   ⟨(some 14), none, (.ixSlice 3 (.t 12) (.t 13))⟩,
   ⟨(some 15), none, (.loadN 3 (.t 14))⟩,
   ⟨(some 16), none, (.callV (.t 11) [(.t 15)])⟩])
 (.cond (.t 16)
 (.seq
 (.reg [⟨(some 17), none, (.mv (.t 5))⟩,
   ⟨(some 4), none, (.mv (.t 17))⟩]) .ret) .skip))))
 (.reg [⟨(some 18), none, (.bin .add .num (.t 8) (.c (.int .i64 1)))⟩,
   ⟨(some 8), none, (.mv (.t 18))⟩]))))
/-- slices.IndexFunc[[]limelight/api.Layer,limelight/api.Layer] -/
def af263 : AFunc := ⟨19, [(.tmp 4)],
 (.seq
 (.reg [⟨(some 4), none, (.mv (.c (.int .i64 0)))⟩])
 (.seq
 (.seq
 (.reg [⟨(some 6), none, (.mv (.t 0))⟩,
   ⟨(some 7), none, (.len (.t 6))⟩,
   ⟨(some 8), none, (.mv (.c (.int .i64 0)))⟩])
 (.block 0
 (.loop af263_l0)))
 (.seq
 (.reg [⟨(some 4), none, (.mv (.c (.int .i64 (-1))))⟩]) .ret)))⟩
theorem caf263 : cFunc Tryz.prog Tryz.f263 = some af263 := by kernel_rfl
/-- cmp.isNaN[int] -/
def af265 : AFunc := ⟨6, [(.tmp 2)],
 (.seq
 (.reg [⟨(some 2), none, (.mv (.c (.bool false)))⟩])
 (.seq
 (.reg [⟨(some 3), none, (.mv (.t 0))⟩,
   ⟨(some 4), none, (.mv (.t 0))⟩,
   ⟨(some 5), none, (.bin .neq .num (.t 3) (.t 4))⟩,
   ⟨(some 2), none, (.mv (.t 5))⟩]) .ret))⟩
theorem caf265 : cFunc Tryz.prog Tryz.f265 = some af265 := by kernel_rfl
def af268_l0 : AC :=
 (.seq
 (.seq
 (.dreg [⟨(some 18), none, (.mv (.t 9))⟩,
   ⟨(some 19), none, (.mv (.t 1))⟩,
   ⟨(some 20), none, (.bin .gtr .num (.t 18) (.t 19))⟩,
   ⟨(some 21), none, (.mv (.t 20))⟩,
   ⟨(some 22), (some (21, true)), (.mv (.t 3))⟩,
   ⟨(some 23), (some (21, true)), (.mv (.t 0))⟩,
   ⟨(some 24), (some (21, true)), (.mv (.t 9))⟩,
   ⟨(some 25), (some (21, true)), (.ixSlice 1 (.t 23) (.t 24))⟩,
   ⟨(some 26), (some (21, true)), (.load1 (.t 25))⟩,
   ⟨(some 27), (some (21, true)), (.mv (.t 0))⟩,
   ⟨(some 28), (some (21, true)), (.mv (.t 9))⟩,
   ⟨(some 29), (some (21, true)), (.bin .sub .num (.t 28) (.c (.int .i64 1)))⟩,
   ⟨(some 30), (some (21, true)), (.ixSlice 1 (.t 27) (.t 29))⟩,
   ⟨(some 31), (some (21, true)), (.load1 (.t 30))⟩,
   ⟨(some 32), (some (21, true)), (.callV (.t 22) [(.t 26), (.t 31)])⟩,
   ⟨(some 33), (some (21, true)), (.bin .lss .num (.t 32) (.c (.int .i64 0)))⟩,
   ⟨(some 34), none, (.pick (.t 21) (.t 33) (.c (.bool false)))⟩] [])
 (.cond (.t 34) .skip (.exit 2)))
 (.seq
 (.block 3
 (.dreg [⟨(some 37), none, (.mv (.t 0))⟩,
   ⟨(some 38), none, (.mv (.t 9))⟩,
   ⟨(some 39), none, (.mv (.t 0))⟩,
   ⟨(some 40), none, (.mv (.t 9))⟩,
   ⟨(some 41), none, (.bin .sub .num (.t 40) (.c (.int .i64 1)))⟩,
   ⟨(some 42), none, (.mv (.t 0))⟩,
   ⟨(some 43), none, (.mv (.t 9))⟩,
   ⟨(some 44), none, (.bin .sub .num (.t 43) (.c (.int .i64 1)))⟩,
   ⟨(some 45), none, (.ixSlice 1 (.t 42) (.t 44))⟩,
   ⟨(some 46), none, (.load1 (.t 45))⟩,
   ⟨(some 47), none, (.mv (.t 0))⟩,
   ⟨(some 48), none, (.mv (.t 9))⟩,
   ⟨(some 49), none, (.ixSlice 1 (.t 47) (.t 48))⟩,
   ⟨(some 50), none, (.load1 (.t 49))⟩,
   ⟨(some 51), none, (.ixSlice 1 (.t 37) (.t 38))⟩,
   ⟨none, none, (.store 1 (.t 51) (.t 46))⟩,
   ⟨(some 52), none, (.ixSlice 1 (.t 39) (.t 41))⟩,
   ⟨none, none, (.store 1 (.t 52) (.t 50))⟩] []))
 (.reg [⟨(some 35), none, (.mv (.t 9))⟩,
   ⟨(some 36), none, (.bin .sub .num (.t 35) (.c (.int .i64 1)))⟩,
   ⟨(some 9), none, (.mv (.t 36))⟩])))
def af268_l1 : AC :=
 (.seq
 (.seq
 (.reg [⟨(some 12), none, (.mv (.t 8))⟩,
   ⟨(some 13), none, (.mv (.t 2))⟩,
   ⟨(some 14), none, (.bin .lss .num (.t 12) (.t 13))⟩])
 (.cond (.t 14) .skip (.exit 0)))
 (.seq
 (.block 1
 (.seq
 (.reg [⟨(some 17), none, (.mv (.t 8))⟩,
   ⟨(some 9), none, (.mv (.t 17))⟩])
 (.block 2
 (.loop af268_l0))))
 (.reg [⟨(some 15), none, (.mv (.t 8))⟩,
   ⟨(some 16), none, (.bin .add .num (.t 15) (.c (.int .i64 1)))⟩,
   ⟨(some 8), none, (.mv (.t 16))⟩])))
/-- slices.insertionSortCmpFunc[*limelight/sfu.sub] -/
def af268 : AFunc := ⟨53, [],
 (.seq
 (.reg [⟨(some 10), none, (.mv (.t 1))⟩,
   ⟨(some 11), none, (.bin .add .num (.t 10) (.c (.int .i64 1)))⟩,
   ⟨(some 8), none, (.mv (.t 11))⟩])
 (.block 0
 (.loop af268_l1)))⟩
theorem caf268 : cFunc Tryz.prog Tryz.f268 = some af268 := by kernel_rfl
/-- math/bits.Len64 -/
def af277 : AFunc := ⟨25, [(.tmp 2)],
 (.seq
 (.reg [⟨(some 2), none, (.mv (.c (.int .i64 0)))⟩])
 (.seq
 (.seq
 (.reg [⟨(some 3), none, (.mv (.t 0))⟩,
   ⟨(some 4), none, (.bin .geq .num (.t 3) (.c (.int .u64 4294967296)))⟩])
 (.cond (.t 4)
 (.seq
 (.reg [⟨(some 5), none, (.mv (.t 0))⟩,
   ⟨(some 6), none, (.bin .shr .num (.t 5) (.c (.int .u64 32)))⟩,
   ⟨(some 0), none, (.mv (.t 6))⟩])
 (.reg [⟨(some 2), none, (.mv (.c (.int .i64 32)))⟩])) .skip))
 (.seq
 (.seq
 (.reg [⟨(some 7), none, (.mv (.t 0))⟩,
   ⟨(some 8), none, (.bin .geq .num (.t 7) (.c (.int .u64 65536)))⟩])
 (.cond (.t 8)
 (.seq
 (.reg [⟨(some 9), none, (.mv (.t 0))⟩,
   ⟨(some 10), none, (.bin .shr .num (.t 9) (.c (.int .u64 16)))⟩,
   ⟨(some 0), none, (.mv (.t 10))⟩])
 (.reg [⟨(some 11), none, (.mv (.t 2))⟩,
   ⟨(some 12), none, (.bin .add .num (.t 11) (.c (.int .i64 16)))⟩,
   ⟨(some 2), none, (.mv (.t 12))⟩])) .skip))
 (.seq
 (.seq
 (.reg [⟨(some 13), none, (.mv (.t 0))⟩,
   ⟨(some 14), none, (.bin .geq .num (.t 13) (.c (.int .u64 256)))⟩])
 (.cond (.t 14)
 (.seq
 (.reg [⟨(some 15), none, (.mv (.t 0))⟩,
   ⟨(some 16), none, (.bin .shr .num (.t 15) (.c (.int .u64 8)))⟩,
   ⟨(some 0), none, (.mv (.t 16))⟩])
 (.reg [⟨(some 17), none, (.mv (.t 2))⟩,
   ⟨(some 18), none, (.bin .add .num (.t 17) (.c (.int .i64 8)))⟩,
   ⟨(some 2), none, (.mv (.t 18))⟩])) .skip))
 (.seq
 (.reg [⟨(some 19), none, (.mv (.t 2))⟩,
   ⟨(some 20), none, (.mv (.t 0))⟩,
   ⟨(some 21), none, (.conv (.int .u8) (.t 20))⟩,
   ⟨(some 22), none, (.ixStr (.c (.str [0, 1, 2, 2, 3, 3, 3, 3, 4, 4, 4, 4, 4, 4, 4, 4, 5, 5, 5, 5, 5, 5, 5, 5, 5, 5, 5, 5, 5, 5, 5, 5, 6, 6, 6, 6, 6, 6, 6, 6, 6, 6, 6, 6, 6, 6, 6, 6, 6, 6, 6, 6, 6, 6, 6, 6, 6, 6, 6, 6, 6, 6, 6, 6, 7, 7, 7, 7, 7, 7, 7, 7, 7, 7, 7, 7, 7, 7, 7, 7, 7, 7, 7, 7, 7, 7, 7, 7, 7, 7, 7, 7, 7, 7, 7, 7, 7, 7, 7, 7, 7, 7, 7, 7, 7, 7, 7, 7, 7, 7, 7, 7, 7, 7, 7, 7, 7, 7, 7, 7, 7, 7, 7, 7, 7, 7, 7, 7, 8, 8, 8, 8, 8, 8, 8, 8, 8, 8, 8, 8, 8, 8, 8, 8, 8, 8, 8, 8, 8, 8, 8, 8, 8, 8, 8, 8, 8, 8, 8, 8, 8, 8, 8, 8, 8, 8, 8, 8, 8, 8, 8, 8, 8, 8, 8, 8, 8, 8, 8, 8, 8, 8, 8, 8, 8, 8, 8, 8, 8, 8, 8, 8, 8, 8, 8, 8, 8, 8, 8, 8, 8, 8, 8, 8, 8, 8, 8, 8, 8, 8, 8, 8, 8, 8, 8, 8, 8, 8, 8, 8, 8, 8, 8, 8, 8, 8, 8, 8, 8, 8, 8, 8, 8, 8, 8, 8, 8, 8, 8, 8, 8, 8, 8, 8, 8, 8, 8, 8, 8, 8, 8, 8, 8, 8, 8, 8])) (.t 21))⟩,
   ⟨(some 23), none, (.conv (.int .i64) (.t 22))⟩,
   ⟨(some 24), none, (.bin .add .num (.t 19) (.t 23))⟩,
   ⟨(some 2), none, (.mv (.t 24))⟩]) .ret)))))⟩
theorem caf277 : cFunc Tryz.prog Tryz.f277 = some af277 := by kernel_rfl
def af279_l0 : AC :=
 (.seq
 (.reg [⟨(some 9), none, (.bin .lss .num (.t 8) (.t 7))⟩])
 (.seq
 (.cond (.t 9) .skip (.exit 0))
 (.seq
 (.block 1
 (.seq
 (.reg [⟨(some 10), none, (.mv (.t 8))⟩,
   ⟨(some 5), none, (.mv (.t 10))⟩])
 (.seq
 (.reg [⟨(some 11), none, (.mv (.t 1))⟩,
   ⟨(some 12), none, (.mv (.t 0))⟩,
   ⟨(some 13), none, (.mv (.t 5))⟩,
   ⟨(some 14), none, (.ixSlice 2 (.t 12) (.t 13))⟩,
   ⟨(some 15), none, (.loadN 2 (.t 14))⟩,
   ⟨(some 16), none, (.callV (.t 11) [(.t 15)])⟩])
 (.cond (.t 16)
 (.seq
 (.reg [⟨(some 17), none, (.mv (.t 5))⟩,
   ⟨(some 4), none, (.mv (.t 17))⟩]) .ret) .skip))))
 (.reg [⟨(some 18), none, (.bin .add .num (.t 8) (.c (.int .i64 1)))⟩,
   ⟨(some 8), none, (.mv (.t 18))⟩]))))
/-- slices.IndexFunc[[]limelight/alarm.Due,limelight/alarm.Due] -/
def af279 : AFunc := ⟨19, [(.tmp 4)],
 (.seq
 (.reg [⟨(some 4), none, (.mv (.c (.int .i64 0)))⟩])
 (.seq
 (.seq
 (.reg [⟨(some 6), none, (.mv (.t 0))⟩,
   ⟨(some 7), none, (.len (.t 6))⟩,
   ⟨(some 8), none, (.mv (.c (.int .i64 0)))⟩])
 (.block 0
 (.loop af279_l0)))
 (.seq
 (.reg [⟨(some 4), none, (.mv (.c (.int .i64 (-1))))⟩]) .ret)))⟩
theorem caf279 : cFunc Tryz.prog Tryz.f279 = some af279 := by kernel_rfl
def af281_l0 : AC :=
 (.seq
 (.seq
 (.dreg [⟨(some 18), none, (.mv (.t 9))⟩,
   ⟨(some 19), none, (.mv (.t 1))⟩,
   ⟨(some 20), none, (.bin .gtr .num (.t 18) (.t 19))⟩,
   ⟨(some 21), none, (.mv (.t 20))⟩,
   ⟨(some 22), (some (21, true)), (.mv (.t 3))⟩,
   ⟨(some 23), (some (21, true)), (.mv (.t 0))⟩,
   ⟨(some 24), (some (21, true)), (.mv (.t 9))⟩,
   ⟨(some 25), (some (21, true)), (.ixSlice 2 (.t 23) (.t 24))⟩,
   ⟨(some 26), (some (21, true)), (.loadN 2 (.t 25))⟩,
   ⟨(some 27), (some (21, true)), (.mv (.t 0))⟩,
   ⟨(some 28), (some (21, true)), (.mv (.t 9))⟩,
   ⟨(some 29), (some (21, true)), (.bin .sub .num (.t 28) (.c (.int .i64 1)))⟩,
   ⟨(some 30), (some (21, true)), (.ixSlice 2 (.t 27) (.t 29))⟩,
   ⟨(some 31), (some (21, true)), (.loadN 2 (.t 30))⟩,
   ⟨(some 32), (some (21, true)), (.callV (.t 22) [(.t 26), (.t 31)])⟩,
   ⟨(some 33), (some (21, true)), (.bin .lss .num (.t 32) (.c (.int .i64 0)))⟩,
   ⟨(some 34), none, (.pick (.t 21) (.t 33) (.c (.bool false)))⟩] [])
 (.cond (.t 34) .skip (.exit 2)))
 (.seq
 (.block 3
 (.dreg [⟨(some 37), none, (.mv (.t 0))⟩,
   ⟨(some 38), none, (.mv (.t 9))⟩,
   ⟨(some 39), none, (.mv (.t 0))⟩,
   ⟨(some 40), none, (.mv (.t 9))⟩,
   ⟨(some 41), none, (.bin .sub .num (.t 40) (.c (.int .i64 1)))⟩,
   ⟨(some 42), none, (.mv (.t 0))⟩,
   ⟨(some 43), none, (.mv (.t 9))⟩,
   ⟨(some 44), none, (.bin .sub .num (.t 43) (.c (.int .i64 1)))⟩,
   ⟨(some 45), none, (.ixSlice 2 (.t 42) (.t 44))⟩,
   ⟨(some 46), none, (.loadN 2 (.t 45))⟩,
   ⟨(some 47), none, (.mv (.t 0))⟩,
   ⟨(some 48), none, (.mv (.t 9))⟩,
   ⟨(some 49), none, (.ixSlice 2 (.t 47) (.t 48))⟩,
   ⟨(some 50), none, (.loadN 2 (.t 49))⟩,
   ⟨(some 51), none, (.ixSlice 2 (.t 37) (.t 38))⟩,
   ⟨none, none, (.store 2 (.t 51) (.t 46))⟩,
   ⟨(some 52), none, (.ixSlice 2 (.t 39) (.t 41))⟩,
   ⟨none, none, (.store 2 (.t 52) (.t 50))⟩] []))
 (.reg [⟨(some 35), none, (.mv (.t 9))⟩,
   ⟨(some 36), none, (.bin .sub .num (.t 35) (.c (.int .i64 1)))⟩,
   ⟨(some 9), none, (.mv (.t 36))⟩])))
def af281_l1 : AC :=
 (.seq
 (.seq
 (.reg [⟨(some 12), none, (.mv (.t 8))⟩,
   ⟨(some 13), none, (.mv (.t 2))⟩,
   ⟨(some 14), none, (.bin .lss .num (.t 12) (.t 13))⟩])
 (.cond (.t 14) .skip (.exit 0)))
 (.seq
 (.block 1
 (.seq
 (.reg [⟨(some 17), none, (.mv (.t 8))⟩,
   ⟨(some 9), none, (.mv (.t 17))⟩])
 (.block 2
 (.loop af281_l0))))
 (.reg [⟨(some 15), none, (.mv (.t 8))⟩,
   ⟨(some 16), none, (.bin .add .num (.t 15) (.c (.int .i64 1)))⟩,
   ⟨(some 8), none, (.mv (.t 16))⟩])))
/-- slices.insertionSortCmpFunc[limelight/alarm.Due] -/
def af281 : AFunc := ⟨53, [],
 (.seq
 (.reg [⟨(some 10), none, (.mv (.t 1))⟩,
   ⟨(some 11), none, (.bin .add .num (.t 10) (.c (.int .i64 1)))⟩,
   ⟨(some 8), none, (.mv (.t 11))⟩])
 (.block 0
 (.loop af281_l1)))⟩
theorem caf281 : cFunc Tryz.prog Tryz.f281 = some af281 := by kernel_rfl
def af289_l0 : AC :=
 (.seq
 (.reg [⟨(some 12), none, (.bin .lss .num (.t 11) (.t 10))⟩])
 (.seq
 (.cond (.t 12) .skip (.exit 0))
 (.seq
 (.block 1
 (.seq
 (.reg [⟨(some 13), none, (.mv (.t 11))⟩,
   ⟨(some 14), none, (.ixSlice 1 (.t 9) (.t 11))⟩,
   ⟨(some 15), none, (.load1 (.t 14))⟩,
   ⟨(some 5), none, (.mv (.t 13))⟩,
   ⟨(some 6), none, (.mv (.t 15))⟩])
 (.seq
 (.seq
 (.reg [⟨(some 16), none, (.mv (.t 5))⟩,
   ⟨(some 17), none, (.mv (.t 1))⟩,
   ⟨(some 18), none, (.len (.t 17))⟩,
   ⟨(some 19), none, (.bin .geq .num (.t 16) (.t 18))⟩])
 (.cond (.t 19)
 (.seq
 (.reg [⟨(some 4), none, (.mv (.c (.int .i64 1)))⟩]) .ret) .skip))
 (.seq
 (.reg [⟨(some 20), none, (.mv (.t 1))⟩,
   ⟨(some 21), none, (.mv (.t 5))⟩,
   ⟨(some 22), none, (.ixSlice 1 (.t 20) (.t 21))⟩,
   ⟨(some 23), none, (.load1 (.t 22))⟩,
   ⟨(some 7), none, (.mv (.t 23))⟩])
 (.seq
 (.reg [⟨(some 24), none, (.mv (.t 6))⟩,
   ⟨(some 25), none, (.mv (.t 7))⟩,
   ⟨(some 26), none, (.call 245 [(.t 24), (.t 25)])⟩,
   ⟨(some 8), none, (.mv (.t 26))⟩])
 (.seq
 (.reg [⟨(some 27), none, (.mv (.t 8))⟩,
   ⟨(some 28), none, (.bin .neq .num (.t 27) (.c (.int .i64 0)))⟩])
 (.cond (.t 28)
 (.seq
 (.reg [⟨(some 29), none, (.mv (.t 8))⟩,
   ⟨(some 4), none, (.mv (.t 29))⟩]) .ret) .skip)))))))
 (.reg [⟨(some 30), none, (.bin .add .num (.t 11) (.c (.int .i64 1)))⟩,
   ⟨(some 11), none, (.mv (.t 30))⟩]))))
/-- slices.Compare[[]int,int] -/
def af289 : AFunc := ⟨36, [(.tmp 4)],
 (.seq
 (.reg [⟨(some 4), none, (.mv (.c (.int .i64 0)))⟩])
 (.seq
 (.seq
 (.reg [⟨(some 9), none, (.mv (.t 0))⟩,
   ⟨(some 10), none, (.len (.t 9))⟩,
   ⟨(some 11), none, (.mv (.c (.int .i64 0)))⟩])
 (.block 0
 (.loop af289_l0)))
 (.seq
 (.seq
 (.reg [⟨(some 31), none, (.mv (.t 0))⟩,
   ⟨(some 32), none, (.len (.t 31))⟩,
   ⟨(some 33), none, (.mv (.t 1))⟩,
   ⟨(some 34), none, (.len (.t 33))⟩,
   ⟨(some 35), none, (.bin .lss .num (.t 32) (.t 34))⟩])
 (.cond (.t 35)
 (.seq
 (.reg [⟨(some 4), none, (.mv (.c (.int .i64 (-1))))⟩]) .ret) .skip))
 (.seq
 (.reg [⟨(some 4), none, (.mv (.c (.int .i64 0)))⟩]) .ret))))⟩
theorem caf289 : cFunc Tryz.prog Tryz.f289 = some af289 := by kernel_rfl
def apL : List (Nat × AFunc) := [(3, af3), (4, af4), (5, af5), (6, af6), (7, af7), (8, af8), (9, af9), (10, af10), (11, af11), (12, af12), (13, af13), (14, af14), (15, af15), (16, af16), (17, af17), (18, af18), (19, af19), (20, af20), (21, af21), (22, af22), (23, af23), (24, af24), (25, af25), (26, af26), (27, af27), (28, af28), (29, af29), (30, af30), (31, af31), (32, af32), (33, af33), (34, af34), (35, af35), (36, af36), (37, af37), (38, af38), (39, af39), (40, af40), (41, af41), (42, af42), (43, af43), (44, af44), (45, af45), (46, af46), (47, af47), (48, af48), (49, af49), (50, af50), (51, af51), (52, af52), (53, af53), (54, af54), (55, af55), (56, af56), (57, af57), (58, af58), (59, af59), (60, af60), (61, af61), (62, af62), (63, af63), (64, af64), (65, af65), (66, af66), (67, af67), (68, af68), (69, af69), (70, af70), (71, af71), (72, af72), (74, af74), (76, af76), (77, af77), (78, af78), (80, af80), (81, af81), (82, af82), (83, af83), (84, af84), (85, af85), (86, af86), (87, af87), (88, af88), (89, af89), (90, af90), (91, af91), (92, af92), (93, af93), (94, af94), (96, af96), (97, af97), (98, af98), (99, af99), (100, af100), (101, af101), (102, af102), (103, af103), (104, af104), (105, af105), (106, af106), (107, af107), (108, af108), (109, af109), (110, af110), (111, af111), (112, af112), (113, af113), (114, af114), (115, af115), (116, af116), (117, af117), (118, af118), (119, af119), (120, af120), (121, af121), (122, af122), (124, af124), (125, af125), (126, af126), (127, af127), (128, af128), (129, af129), (130, af130), (131, af131), (132, af132), (133, af133), (134, af134), (135, af135), (136, af136), (137, af137), (138, af138), (140, af140), (141, af141), (144, af144), (145, af145), (146, af146), (149, af149), (150, af150), (151, af151), (152, af152), (154, af154), (155, af155), (156, af156), (157, af157), (158, af158), (159, af159), (160, af160), (161, af161), (162, af162), (163, af163), (164, af164), (165, af165), (166, af166), (167, af167), (168, af168), (169, af169), (170, af170), (171, af171), (172, af172), (173, af173), (174, af174), (175, af175), (176, af176), (177, af177), (178, af178), (179, af179), (182, af182), (183, af183), (184, af184), (185, af185), (186, af186), (187, af187), (188, af188), (189, af189), (190, af190), (192, af192), (193, af193), (194, af194), (195, af195), (197, af197), (198, af198), (199, af199), (200, af200), (207, af207), (208, af208), (213, af213), (214, af214), (217, af217), (218, af218), (219, af219), (220, af220), (221, af221), (222, af222), (223, af223), (224, af224), (225, af225), (226, af226), (227, af227), (228, af228), (229, af229), (230, af230), (231, af231), (232, af232), (233, af233), (234, af234), (235, af235), (236, af236), (238, af238), (239, af239), (240, af240), (243, af243), (245, af245), (246, af246), (248, af248), (249, af249), (250, af250), (251, af251), (254, af254), (256, af256), (259, af259), (261, af261), (262, af262), (263, af263), (265, af265), (268, af268), (277, af277), (279, af279), (281, af281), (289, af289)]
theorem apAll : AllAP Tryz.prog apL := ⟨⟨_, Tryz.func3, caf3⟩, ⟨_, Tryz.func4, caf4⟩, ⟨_, Tryz.func5, caf5⟩, ⟨_, Tryz.func6, caf6⟩, ⟨_, Tryz.func7, caf7⟩, ⟨_, Tryz.func8, caf8⟩, ⟨_, Tryz.func9, caf9⟩, ⟨_, Tryz.func10, caf10⟩, ⟨_, Tryz.func11, caf11⟩, ⟨_, Tryz.func12, caf12⟩, ⟨_, Tryz.func13, caf13⟩, ⟨_, Tryz.func14, caf14⟩, ⟨_, Tryz.func15, caf15⟩, ⟨_, Tryz.func16, caf16⟩, ⟨_, Tryz.func17, caf17⟩, ⟨_, Tryz.func18, caf18⟩, ⟨_, Tryz.func19, caf19⟩, ⟨_, Tryz.func20, caf20⟩, ⟨_, Tryz.func21, caf21⟩, ⟨_, Tryz.func22, caf22⟩, ⟨_, Tryz.func23, caf23⟩, ⟨_, Tryz.func24, caf24⟩, ⟨_, Tryz.func25, caf25⟩, ⟨_, Tryz.func26, caf26⟩, ⟨_, Tryz.func27, caf27⟩, ⟨_, Tryz.func28, caf28⟩, ⟨_, Tryz.func29, caf29⟩, ⟨_, Tryz.func30, caf30⟩, ⟨_, Tryz.func31, caf31⟩, ⟨_, Tryz.func32, caf32⟩, ⟨_, Tryz.func33, caf33⟩, ⟨_, Tryz.func34, caf34⟩, ⟨_, Tryz.func35, caf35⟩, ⟨_, Tryz.func36, caf36⟩, ⟨_, Tryz.func37, caf37⟩, ⟨_, Tryz.func38, caf38⟩, ⟨_, Tryz.func39, caf39⟩, ⟨_, Tryz.func40, caf40⟩, ⟨_, Tryz.func41, caf41⟩, ⟨_, Tryz.func42, caf42⟩, ⟨_, Tryz.func43, caf43⟩, ⟨_, Tryz.func44, caf44⟩, ⟨_, Tryz.func45, caf45⟩, ⟨_, Tryz.func46, caf46⟩, ⟨_, Tryz.func47, caf47⟩, ⟨_, Tryz.func48, caf48⟩, ⟨_, Tryz.func49, caf49⟩, ⟨_, Tryz.func50, caf50⟩, ⟨_, Tryz.func51, caf51⟩, ⟨_, Tryz.func52, caf52⟩, ⟨_, Tryz.func53, caf53⟩, ⟨_, Tryz.func54, caf54⟩, ⟨_, Tryz.func55, caf55⟩, ⟨_, Tryz.func56, caf56⟩, ⟨_, Tryz.func57, caf57⟩, ⟨_, Tryz.func58, caf58⟩, ⟨_, Tryz.func59, caf59⟩, ⟨_, Tryz.func60, caf60⟩, ⟨_, Tryz.func61, caf61⟩, ⟨_, Tryz.func62, caf62⟩, ⟨_, Tryz.func63, caf63⟩, ⟨_, Tryz.func64, caf64⟩, ⟨_, Tryz.func65, caf65⟩, ⟨_, Tryz.func66, caf66⟩, ⟨_, Tryz.func67, caf67⟩, ⟨_, Tryz.func68, caf68⟩, ⟨_, Tryz.func69, caf69⟩, ⟨_, Tryz.func70, caf70⟩, ⟨_, Tryz.func71, caf71⟩, ⟨_, Tryz.func72, caf72⟩, ⟨_, Tryz.func74, caf74⟩, ⟨_, Tryz.func76, caf76⟩, ⟨_, Tryz.func77, caf77⟩, ⟨_, Tryz.func78, caf78⟩, ⟨_, Tryz.func80, caf80⟩, ⟨_, Tryz.func81, caf81⟩, ⟨_, Tryz.func82, caf82⟩, ⟨_, Tryz.func83, caf83⟩, ⟨_, Tryz.func84, caf84⟩, ⟨_, Tryz.func85, caf85⟩, ⟨_, Tryz.func86, caf86⟩, ⟨_, Tryz.func87, caf87⟩, ⟨_, Tryz.func88, caf88⟩, ⟨_, Tryz.func89, caf89⟩, ⟨_, Tryz.func90, caf90⟩, ⟨_, Tryz.func91, caf91⟩, ⟨_, Tryz.func92, caf92⟩, ⟨_, Tryz.func93, caf93⟩, ⟨_, Tryz.func94, caf94⟩, ⟨_, Tryz.func96, caf96⟩, ⟨_, Tryz.func97, caf97⟩, ⟨_, Tryz.func98, caf98⟩, ⟨_, Tryz.func99, caf99⟩, ⟨_, Tryz.func100, caf100⟩, ⟨_, Tryz.func101, caf101⟩, ⟨_, Tryz.func102, caf102⟩, ⟨_, Tryz.func103, caf103⟩, ⟨_, Tryz.func104, caf104⟩, ⟨_, Tryz.func105, caf105⟩, ⟨_, Tryz.func106, caf106⟩, ⟨_, Tryz.func107, caf107⟩, ⟨_, Tryz.func108, caf108⟩, ⟨_, Tryz.func109, caf109⟩, ⟨_, Tryz.func110, caf110⟩, ⟨_, Tryz.func111, caf111⟩, ⟨_, Tryz.func112, caf112⟩, ⟨_, Tryz.func113, caf113⟩, ⟨_, Tryz.func114, caf114⟩, ⟨_, Tryz.func115, caf115⟩, ⟨_, Tryz.func116, caf116⟩, ⟨_, Tryz.func117, caf117⟩, ⟨_, Tryz.func118, caf118⟩, ⟨_, Tryz.func119, caf119⟩, ⟨_, Tryz.func120, caf120⟩, ⟨_, Tryz.func121, caf121⟩, ⟨_, Tryz.func122, caf122⟩, ⟨_, Tryz.func124, caf124⟩, ⟨_, Tryz.func125, caf125⟩, ⟨_, Tryz.func126, caf126⟩, ⟨_, Tryz.func127, caf127⟩, ⟨_, Tryz.func128, caf128⟩, ⟨_, Tryz.func129, caf129⟩, ⟨_, Tryz.func130, caf130⟩, ⟨_, Tryz.func131, caf131⟩, ⟨_, Tryz.func132, caf132⟩, ⟨_, Tryz.func133, caf133⟩, ⟨_, Tryz.func134, caf134⟩, ⟨_, Tryz.func135, caf135⟩, ⟨_, Tryz.func136, caf136⟩, ⟨_, Tryz.func137, caf137⟩, ⟨_, Tryz.func138, caf138⟩, ⟨_, Tryz.func140, caf140⟩, ⟨_, Tryz.func141, caf141⟩, ⟨_, Tryz.func144, caf144⟩, ⟨_, Tryz.func145, caf145⟩, ⟨_, Tryz.func146, caf146⟩, ⟨_, Tryz.func149, caf149⟩, ⟨_, Tryz.func150, caf150⟩, ⟨_, Tryz.func151, caf151⟩, ⟨_, Tryz.func152, caf152⟩, ⟨_, Tryz.func154, caf154⟩, ⟨_, Tryz.func155, caf155⟩, ⟨_, Tryz.func156, caf156⟩, ⟨_, Tryz.func157, caf157⟩, ⟨_, Tryz.func158, caf158⟩, ⟨_, Tryz.func159, caf159⟩, ⟨_, Tryz.func160, caf160⟩, ⟨_, Tryz.func161, caf161⟩, ⟨_, Tryz.func162, caf162⟩, ⟨_, Tryz.func163, caf163⟩, ⟨_, Tryz.func164, caf164⟩, ⟨_, Tryz.func165, caf165⟩, ⟨_, Tryz.func166, caf166⟩, ⟨_, Tryz.func167, caf167⟩, ⟨_, Tryz.func168, caf168⟩, ⟨_, Tryz.func169, caf169⟩, ⟨_, Tryz.func170, caf170⟩, ⟨_, Tryz.func171, caf171⟩, ⟨_, Tryz.func172, caf172⟩, ⟨_, Tryz.func173, caf173⟩, ⟨_, Tryz.func174, caf174⟩, ⟨_, Tryz.func175, caf175⟩, ⟨_, Tryz.func176, caf176⟩, ⟨_, Tryz.func177, caf177⟩, ⟨_, Tryz.func178, caf178⟩, ⟨_, Tryz.func179, caf179⟩, ⟨_, Tryz.func182, caf182⟩, ⟨_, Tryz.func183, caf183⟩, ⟨_, Tryz.func184, caf184⟩, ⟨_, Tryz.func185, caf185⟩, ⟨_, Tryz.func186, caf186⟩, ⟨_, Tryz.func187, caf187⟩, ⟨_, Tryz.func188, caf188⟩, ⟨_, Tryz.func189, caf189⟩, ⟨_, Tryz.func190, caf190⟩, ⟨_, Tryz.func192, caf192⟩, ⟨_, Tryz.func193, caf193⟩, ⟨_, Tryz.func194, caf194⟩, ⟨_, Tryz.func195, caf195⟩, ⟨_, Tryz.func197, caf197⟩, ⟨_, Tryz.func198, caf198⟩, ⟨_, Tryz.func199, caf199⟩, ⟨_, Tryz.func200, caf200⟩, ⟨_, Tryz.func207, caf207⟩, ⟨_, Tryz.func208, caf208⟩, ⟨_, Tryz.func213, caf213⟩, ⟨_, Tryz.func214, caf214⟩, ⟨_, Tryz.func217, caf217⟩, ⟨_, Tryz.func218, caf218⟩, ⟨_, Tryz.func219, caf219⟩, ⟨_, Tryz.func220, caf220⟩, ⟨_, Tryz.func221, caf221⟩, ⟨_, Tryz.func222, caf222⟩, ⟨_, Tryz.func223, caf223⟩, ⟨_, Tryz.func224, caf224⟩, ⟨_, Tryz.func225, caf225⟩, ⟨_, Tryz.func226, caf226⟩, ⟨_, Tryz.func227, caf227⟩, ⟨_, Tryz.func228, caf228⟩, ⟨_, Tryz.func229, caf229⟩, ⟨_, Tryz.func230, caf230⟩, ⟨_, Tryz.func231, caf231⟩, ⟨_, Tryz.func232, caf232⟩, ⟨_, Tryz.func233, caf233⟩, ⟨_, Tryz.func234, caf234⟩, ⟨_, Tryz.func235, caf235⟩, ⟨_, Tryz.func236, caf236⟩, ⟨_, Tryz.func238, caf238⟩, ⟨_, Tryz.func239, caf239⟩, ⟨_, Tryz.func240, caf240⟩, ⟨_, Tryz.func243, caf243⟩, ⟨_, Tryz.func245, caf245⟩, ⟨_, Tryz.func246, caf246⟩, ⟨_, Tryz.func248, caf248⟩, ⟨_, Tryz.func249, caf249⟩, ⟨_, Tryz.func250, caf250⟩, ⟨_, Tryz.func251, caf251⟩, ⟨_, Tryz.func254, caf254⟩, ⟨_, Tryz.func256, caf256⟩, ⟨_, Tryz.func259, caf259⟩, ⟨_, Tryz.func261, caf261⟩, ⟨_, Tryz.func262, caf262⟩, ⟨_, Tryz.func263, caf263⟩, ⟨_, Tryz.func265, caf265⟩, ⟨_, Tryz.func268, caf268⟩, ⟨_, Tryz.func277, caf277⟩, ⟨_, Tryz.func279, caf279⟩, ⟨_, Tryz.func281, caf281⟩, ⟨_, Tryz.func289, caf289⟩, trivial⟩
noncomputable def apT : Tr AFunc := treeOf apL
noncomputable def AP : Nat → Option AFunc := fun f => apT.getK f
theorem apOk : APOk Tryz.prog AP := apOk_of apAll
theorem mixed : Tryz.prog.follows .mixedOrders = true := by kernel_rfl
end Go.Proofs.YtajoogahcgbohaaGreatA
