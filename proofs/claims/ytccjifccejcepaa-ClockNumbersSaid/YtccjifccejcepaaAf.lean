/- The loaded functions of this seat, their types resolved: printed by a program of this claim; each is held against the loaded one. -/
import Derived.Test.YtccjifccejcepaaAeZ
import Derived.Test.YtccjifccejcepaaProg
set_option maxRecDepth 100000
namespace Go.Proofs.YtccjifccejcepaaA
open Go.RowKit
def af3_l0 : AC :=
 (.seq
 (.reg [⟨(some 24), none, (.bin .lss .num (.t 23) (.t 22))⟩])
 (.seq
 (.cond (.t 24) .skip (.exit 4))
 (.seq
 (.block 5
 (.seq
 (.reg [⟨(some 25), none, (.ixSlice 1 (.t 21) (.t 23))⟩,
   ⟨(some 26), none, (.load1 (.t 25))⟩,
   ⟨(some 7), none, (.mv (.t 26))⟩])
 (.seq
 (.reg [⟨(some 27), none, (.mv (.t 3))⟩,
   ⟨(some 28), none, (.mv (.t 5))⟩,
   ⟨(some 29), none, (.mv (.t 7))⟩,
   ⟨(some 30), none, (.mv (.t 5))⟩,
   ⟨(some 31), none, (.call 7 [(.t 27), (.t 28), (.t 29), (.t 30)])⟩,
   ⟨(some 32), none, (.un .not (.t 31))⟩,
   ⟨(some 33), none, (.mv (.t 32))⟩,
   ⟨(some 34), (some (33, false)), (.mv (.t 3))⟩,
   ⟨(some 35), (some (33, false)), (.mv (.t 5))⟩,
   ⟨(some 36), (some (33, false)), (.mv (.t 5))⟩,
   ⟨(some 37), (some (33, false)), (.mv (.t 7))⟩,
   ⟨(some 38), (some (33, false)), (.call 7 [(.t 34), (.t 35), (.t 36), (.t 37)])⟩,
   ⟨(some 39), (some (33, false)), (.un .not (.t 38))⟩,
   ⟨(some 40), none, (.pick (.t 33) (.c (.bool true)) (.t 39))⟩,
   ⟨(some 41), none, (.mv (.t 40))⟩,
   ⟨(some 42), (some (41, false)), (.mv (.t 5))⟩,
   ⟨(some 43), (some (41, false)), (.mv (.t 7))⟩,
   ⟨(some 44), (some (41, false)), (.mv (.t 3))⟩,
   ⟨(some 45), (some (41, false)), (.call 7 [(.t 42), (.t 43), (.t 44), (.c (.int .i64 3))])⟩,
   ⟨(some 46), (some (41, false)), (.un .not (.t 45))⟩,
   ⟨(some 47), none, (.pick (.t 41) (.c (.bool true)) (.t 46))⟩])
 (.cond (.t 47)
 (.seq
 (.reg [⟨(some 0), none, (.mv (.c (.bool false)))⟩]) .ret) .skip))))
 (.reg [⟨(some 48), none, (.bin .add .num (.t 23) (.c (.int .i64 1)))⟩,
   ⟨(some 23), none, (.mv (.t 48))⟩]))))
def af3_l1 : AC :=
 (.seq
 (.reg [⟨(some 18), none, (.bin .lss .num (.t 17) (.t 16))⟩])
 (.seq
 (.cond (.t 18) .skip (.exit 2))
 (.seq
 (.block 3
 (.seq
 (.reg [⟨(some 19), none, (.ixSlice 1 (.t 15) (.t 17))⟩,
   ⟨(some 20), none, (.load1 (.t 19))⟩,
   ⟨(some 5), none, (.mv (.t 20))⟩])
 (.seq
 (.reg [⟨(some 21), none, (.mv (.t 1))⟩,
   ⟨(some 22), none, (.len (.t 21))⟩,
   ⟨(some 23), none, (.mv (.c (.int .i64 0)))⟩])
 (.block 4
 (.loop af3_l0)))))
 (.reg [⟨(some 49), none, (.bin .add .num (.t 17) (.c (.int .i64 1)))⟩,
   ⟨(some 17), none, (.mv (.t 49))⟩]))))
def af3_l2 : AC :=
 (.seq
 (.reg [⟨(some 12), none, (.bin .lss .num (.t 11) (.t 10))⟩])
 (.seq
 (.cond (.t 12) .skip (.exit 0))
 (.seq
 (.block 1
 (.seq
 (.reg [⟨(some 13), none, (.ixSlice 1 (.t 9) (.t 11))⟩,
   ⟨(some 14), none, (.load1 (.t 13))⟩,
   ⟨(some 3), none, (.mv (.t 14))⟩])
 (.seq
 (.reg [⟨(some 15), none, (.mv (.t 1))⟩,
   ⟨(some 16), none, (.len (.t 15))⟩,
   ⟨(some 17), none, (.mv (.c (.int .i64 0)))⟩])
 (.block 2
 (.loop af3_l1)))))
 (.reg [⟨(some 50), none, (.bin .add .num (.t 11) (.c (.int .i64 1)))⟩,
   ⟨(some 11), none, (.mv (.t 50))⟩]))))
/-- limelight/limelightlaw9.ClockNumbers -/
def af3 : AFunc := ⟨52, [(.tmp 0)],
 (.seq
 (.reg [⟨(some 0), none, (.mv (.c (.bool false)))⟩])
 (.seq
 (.reg [⟨(some 8), none, (.buildSlice 1 [(.int .i64 0)] 15 [(0, (1, (.c (.int .i64 (-9223372036854775808))))), (1, (1, (.c (.int .i64 (-1))))), (2, (1, (.c (.int .i64 0)))), (3, (1, (.c (.int .i64 1)))), (4, (1, (.c (.int .i64 2)))), (5, (1, (.c (.int .i64 3)))), (6, (1, (.c (.int .i64 7)))), (7, (1, (.c (.int .i64 1048576)))), (8, (1, (.c (.int .i64 2147483647)))), (9, (1, (.c (.int .i64 4294967296)))), (10, (1, (.c (.int .i64 3037000499)))), (11, (1, (.c (.int .i64 3037000500)))), (12, (1, (.c (.int .i64 4611686018427387904)))), (13, (1, (.c (.int .i64 9223372036854775806)))), (14, (1, (.c (.int .i64 9223372036854775807))))])⟩,
   ⟨(some 1), none, (.mv (.t 8))⟩])
 (.seq
 (.seq
 (.reg [⟨(some 9), none, (.mv (.t 1))⟩,
   ⟨(some 10), none, (.len (.t 9))⟩,
   ⟨(some 11), none, (.mv (.c (.int .i64 0)))⟩])
 (.block 0
 (.loop af3_l2)))
 (.seq
 (.reg [⟨(some 51), none, (.call 8 [])⟩,
   ⟨(some 0), none, (.mv (.t 51))⟩]) .ret))))⟩
theorem caf3 : cFunc Try.prog Try.f3 = some af3 := by kernel_rfl
/-- limelight/limelightlaw9.ClockTells -/
def af4 : AFunc := ⟨53, [(.tmp 8)],
 (.seq
 (.reg [⟨(some 8), none, (.mv (.c (.bool false)))⟩])
 (.seq
 (.reg [⟨(some 9), none, (.mv (.t 0))⟩,
   ⟨(some 10), none, (.mv (.t 1))⟩,
   ⟨(some 11), none, (.mv (.t 2))⟩,
   ⟨(some 12), none, (.mv (.t 3))⟩,
   ⟨(some 13), none, (.call 7 [(.t 9), (.t 10), (.t 11), (.t 12)])⟩,
   ⟨(some 14), none, (.mv (.t 13))⟩,
   ⟨(some 15), (some (14, true)), (.mv (.t 0))⟩,
   ⟨(some 16), (some (14, true)), (.mv (.t 1))⟩,
   ⟨(some 17), (some (14, true)), (.bin .and .num (.t 16) (.c (.int .i64 65535)))⟩,
   ⟨(some 18), (some (14, true)), (.mv (.t 2))⟩,
   ⟨(some 19), (some (14, true)), (.mv (.t 3))⟩,
   ⟨(some 20), (some (14, true)), (.bin .and .num (.t 19) (.c (.int .i64 65535)))⟩,
   ⟨(some 21), (some (14, true)), (.call 7 [(.t 15), (.t 17), (.t 18), (.t 20)])⟩,
   ⟨(some 22), none, (.pick (.t 14) (.t 21) (.c (.bool false)))⟩,
   ⟨(some 23), none, (.mv (.t 22))⟩,
   ⟨(some 24), (some (23, true)), (.mv (.t 0))⟩,
   ⟨(some 25), (some (23, true)), (.bin .and .num (.t 24) (.c (.int .i64 4294967295)))⟩,
   ⟨(some 26), (some (23, true)), (.mv (.t 1))⟩,
   ⟨(some 27), (some (23, true)), (.bin .and .num (.t 26) (.c (.int .i64 4294967295)))⟩,
   ⟨(some 28), (some (23, true)), (.mv (.t 2))⟩,
   ⟨(some 29), (some (23, true)), (.bin .and .num (.t 28) (.c (.int .i64 4294967295)))⟩,
   ⟨(some 30), (some (23, true)), (.mv (.t 3))⟩,
   ⟨(some 31), (some (23, true)), (.bin .and .num (.t 30) (.c (.int .i64 4294967295)))⟩,
   ⟨(some 32), (some (23, true)), (.call 7 [(.t 25), (.t 27), (.t 29), (.t 31)])⟩,
   ⟨(some 33), none, (.pick (.t 23) (.t 32) (.c (.bool false)))⟩,
   ⟨(some 34), none, (.mv (.t 33))⟩,
   ⟨(some 35), (some (34, true)), (.mv (.t 0))⟩,
   ⟨(some 36), (some (34, true)), (.mv (.t 1))⟩,
   ⟨(some 37), (some (34, true)), (.mv (.t 1))⟩,
   ⟨(some 38), (some (34, true)), (.mv (.t 0))⟩,
   ⟨(some 39), (some (34, true)), (.call 7 [(.t 35), (.t 36), (.t 37), (.t 38)])⟩,
   ⟨(some 40), none, (.pick (.t 34) (.t 39) (.c (.bool false)))⟩,
   ⟨(some 41), none, (.mv (.t 40))⟩,
   ⟨(some 42), (some (41, true)), (.mv (.t 0))⟩,
   ⟨(some 43), (some (41, true)), (.bin .shr .num (.t 42) (.c (.int .u64 20)))⟩,
   ⟨(some 44), (some (41, true)), (.mv (.t 1))⟩,
   ⟨(some 45), (some (41, true)), (.mv (.t 0))⟩,
   ⟨(some 46), (some (41, true)), (.mv (.t 1))⟩,
   ⟨(some 47), (some (41, true)), (.bin .shr .num (.t 46) (.c (.int .u64 20)))⟩,
   ⟨(some 48), (some (41, true)), (.call 7 [(.t 43), (.t 44), (.t 45), (.t 47)])⟩,
   ⟨(some 49), none, (.pick (.t 41) (.t 48) (.c (.bool false)))⟩,
   ⟨(some 50), none, (.mv (.t 49))⟩,
   ⟨(some 51), (some (50, true)), (.call 8 [])⟩,
   ⟨(some 52), none, (.pick (.t 50) (.t 51) (.c (.bool false)))⟩,
   ⟨(some 8), none, (.mv (.t 52))⟩]) .ret))⟩
theorem caf4 : cFunc Try.prog Try.f4 = some af4 := by kernel_rfl
/-- limelight/limelightlaw9.ClockOrder -/
def af5 : AFunc := ⟨98, [(.tmp 8)],
 (.seq
 (.reg [⟨(some 8), none, (.mv (.c (.bool false)))⟩])
 (.seq
 (.reg [⟨(some 12), none, (.mv (.t 0))⟩,
   ⟨(some 13), none, (.bin .and .num (.t 12) (.c (.int .i64 1099511627775)))⟩,
   ⟨(some 14), none, (.mv (.t 1))⟩,
   ⟨(some 15), none, (.bin .and .num (.t 14) (.c (.int .i64 1048575)))⟩,
   ⟨(some 16), none, (.bin .add .num (.c (.int .i64 1)) (.t 15))⟩,
   ⟨(some 9), none, (.mv (.t 13))⟩,
   ⟨(some 10), none, (.mv (.t 16))⟩])
 (.seq
 (.reg [⟨(some 17), none, (.mv (.t 9))⟩,
   ⟨(some 18), none, (.mv (.t 10))⟩,
   ⟨(some 19), none, (.call 9 [(.t 17), (.t 18)])⟩,
   ⟨(some 11), none, (.mv (.t 19))⟩])
 (.seq
 (.reg [⟨(some 20), none, (.mv (.t 0))⟩,
   ⟨(some 21), none, (.mv (.t 1))⟩,
   ⟨(some 22), none, (.call 10 [(.t 20), (.t 21)])⟩,
   ⟨(some 23), none, (.mv (.t 0))⟩,
   ⟨(some 24), none, (.mv (.t 1))⟩,
   ⟨(some 25), none, (.mx [(.t 23), (.t 24), (.c (.int .i64 0))])⟩,
   ⟨(some 26), none, (.bin .geq .num (.t 22) (.t 25))⟩,
   ⟨(some 27), none, (.mv (.t 26))⟩,
   ⟨(some 28), (some (27, true)), (.mv (.t 0))⟩,
   ⟨(some 29), (some (27, true)), (.mv (.t 1))⟩,
   ⟨(some 30), (some (27, true)), (.call 10 [(.t 28), (.t 29)])⟩,
   ⟨(some 31), (some (27, true)), (.mv (.t 1))⟩,
   ⟨(some 32), (some (27, true)), (.mv (.t 0))⟩,
   ⟨(some 33), (some (27, true)), (.call 10 [(.t 31), (.t 32)])⟩,
   ⟨(some 34), (some (27, true)), (.bin .eql .num (.t 30) (.t 33))⟩,
   ⟨(some 35), none, (.pick (.t 27) (.t 34) (.c (.bool false)))⟩,
   ⟨(some 36), none, (.mv (.t 35))⟩,
   ⟨(some 37), (some (36, true)), (.mv (.t 0))⟩,
   ⟨(some 38), (some (36, true)), (.mv (.t 1))⟩,
   ⟨(some 39), (some (36, true)), (.call 11 [(.t 37), (.t 38)])⟩,
   ⟨(some 40), (some (36, true)), (.mv (.t 1))⟩,
   ⟨(some 41), (some (36, true)), (.mv (.t 0))⟩,
   ⟨(some 42), (some (36, true)), (.call 11 [(.t 40), (.t 41)])⟩,
   ⟨(some 43), (some (36, true)), (.bin .eql .num (.t 39) (.t 42))⟩,
   ⟨(some 44), none, (.pick (.t 36) (.t 43) (.c (.bool false)))⟩,
   ⟨(some 45), none, (.mv (.t 44))⟩,
   ⟨(some 46), (some (45, true)), (.mv (.t 11))⟩,
   ⟨(some 47), (some (45, true)), (.mv (.t 10))⟩,
   ⟨(some 48), (some (45, true)), (.bin .mul .num (.t 46) (.t 47))⟩,
   ⟨(some 49), (some (45, true)), (.mv (.t 9))⟩,
   ⟨(some 50), (some (45, true)), (.bin .geq .num (.t 48) (.t 49))⟩,
   ⟨(some 51), none, (.pick (.t 45) (.t 50) (.c (.bool false)))⟩,
   ⟨(some 52), none, (.mv (.t 51))⟩,
   ⟨(some 53), (some (52, true)), (.mv (.t 11))⟩,
   ⟨(some 54), (some (52, true)), (.mv (.t 10))⟩,
   ⟨(some 55), (some (52, true)), (.bin .mul .num (.t 53) (.t 54))⟩,
   ⟨(some 56), (some (52, true)), (.mv (.t 9))⟩,
   ⟨(some 57), (some (52, true)), (.mv (.t 10))⟩,
   ⟨(some 58), (some (52, true)), (.bin .add .num (.t 56) (.t 57))⟩,
   ⟨(some 59), (some (52, true)), (.bin .lss .num (.t 55) (.t 58))⟩,
   ⟨(some 60), none, (.pick (.t 52) (.t 59) (.c (.bool false)))⟩,
   ⟨(some 61), none, (.mv (.t 60))⟩,
   ⟨(some 62), (some (61, true)), (.mv (.t 0))⟩,
   ⟨(some 63), (some (61, true)), (.mv (.t 1))⟩,
   ⟨(some 64), (some (61, true)), (.mv (.t 2))⟩,
   ⟨(some 65), (some (61, true)), (.mv (.t 3))⟩,
   ⟨(some 66), (some (61, true)), (.call 12 [(.t 62), (.t 63), (.t 64), (.t 65)])⟩,
   ⟨(some 67), (some (61, true)), (.mv (.t 66))⟩,
   ⟨(some 68), (some (67, true)), (.mv (.t 2))⟩,
   ⟨(some 69), (some (67, true)), (.mv (.t 3))⟩,
   ⟨(some 70), (some (67, true)), (.mv (.t 0))⟩,
   ⟨(some 71), (some (67, true)), (.mv (.t 1))⟩,
   ⟨(some 72), (some (67, true)), (.call 12 [(.t 68), (.t 69), (.t 70), (.t 71)])⟩,
   ⟨(some 73), (some (61, true)), (.pick (.t 67) (.t 72) (.c (.bool false)))⟩,
   ⟨(some 74), (some (61, true)), (.un .not (.t 73))⟩,
   ⟨(some 75), none, (.pick (.t 61) (.t 74) (.c (.bool false)))⟩,
   ⟨(some 76), none, (.mv (.t 75))⟩,
   ⟨(some 77), (some (76, true)), (.mv (.t 0))⟩,
   ⟨(some 78), (some (76, true)), (.mv (.t 1))⟩,
   ⟨(some 79), (some (76, true)), (.mv (.t 1))⟩,
   ⟨(some 80), (some (76, true)), (.mv (.t 0))⟩,
   ⟨(some 81), (some (76, true)), (.call 12 [(.t 77), (.t 78), (.t 79), (.t 80)])⟩,
   ⟨(some 82), (some (76, true)), (.un .not (.t 81))⟩,
   ⟨(some 83), none, (.pick (.t 76) (.t 82) (.c (.bool false)))⟩,
   ⟨(some 84), none, (.mv (.t 83))⟩,
   ⟨(some 85), (some (84, true)), (.mv (.t 9))⟩,
   ⟨(some 86), (some (84, true)), (.mv (.t 10))⟩,
   ⟨(some 87), (some (84, true)), (.mv (.t 9))⟩,
   ⟨(some 88), (some (84, true)), (.mv (.t 10))⟩,
   ⟨(some 89), (some (84, true)), (.bin .add .num (.t 88) (.c (.int .i64 1)))⟩,
   ⟨(some 90), (some (84, true)), (.call 12 [(.t 85), (.t 86), (.t 87), (.t 89)])⟩,
   ⟨(some 91), (some (84, true)), (.mv (.t 9))⟩,
   ⟨(some 92), (some (84, true)), (.bin .gtr .num (.t 91) (.c (.int .i64 0)))⟩,
   ⟨(some 93), (some (84, true)), (.bin .eql .bool (.t 90) (.t 92))⟩,
   ⟨(some 94), none, (.pick (.t 84) (.t 93) (.c (.bool false)))⟩,
   ⟨(some 95), none, (.mv (.t 94))⟩,
   ⟨(some 96), (some (95, true)), (.call 8 [])⟩,
   ⟨(some 97), none, (.pick (.t 95) (.t 96) (.c (.bool false)))⟩,
   ⟨(some 8), none, (.mv (.t 97))⟩]) .ret))))⟩
theorem caf5 : cFunc Try.prog Try.f5 = some af5 := by kernel_rfl
/-- limelight/limelightlaw9.ClockExact -/
def af6 : AFunc := ⟨95, [(.tmp 8)],
 (.seq
 (.reg [⟨(some 8), none, (.mv (.c (.bool false)))⟩])
 (.seq
 (.reg [⟨(some 13), none, (.mv (.t 0))⟩,
   ⟨(some 14), none, (.bin .and .num (.t 13) (.c (.int .i64 2147483647)))⟩,
   ⟨(some 15), none, (.mv (.t 1))⟩,
   ⟨(some 16), none, (.bin .and .num (.t 15) (.c (.int .i64 2147483647)))⟩,
   ⟨(some 17), none, (.mv (.t 2))⟩,
   ⟨(some 18), none, (.bin .and .num (.t 17) (.c (.int .i64 2147483647)))⟩,
   ⟨(some 19), none, (.mv (.t 3))⟩,
   ⟨(some 20), none, (.bin .and .num (.t 19) (.c (.int .i64 2147483647)))⟩,
   ⟨(some 9), none, (.mv (.t 14))⟩,
   ⟨(some 10), none, (.mv (.t 16))⟩,
   ⟨(some 11), none, (.mv (.t 18))⟩,
   ⟨(some 12), none, (.mv (.t 20))⟩])
 (.seq
 (.reg [⟨(some 21), none, (.mv (.t 9))⟩,
   ⟨(some 22), none, (.mv (.t 10))⟩,
   ⟨(some 23), none, (.mv (.t 11))⟩,
   ⟨(some 24), none, (.mv (.t 12))⟩,
   ⟨(some 25), none, (.call 12 [(.t 21), (.t 22), (.t 23), (.t 24)])⟩,
   ⟨(some 26), none, (.mv (.t 9))⟩,
   ⟨(some 27), none, (.mv (.t 10))⟩,
   ⟨(some 28), none, (.bin .mul .num (.t 26) (.t 27))⟩,
   ⟨(some 29), none, (.mv (.t 11))⟩,
   ⟨(some 30), none, (.mv (.t 12))⟩,
   ⟨(some 31), none, (.bin .mul .num (.t 29) (.t 30))⟩,
   ⟨(some 32), none, (.bin .lss .num (.t 28) (.t 31))⟩,
   ⟨(some 33), none, (.bin .eql .bool (.t 25) (.t 32))⟩,
   ⟨(some 34), none, (.mv (.t 33))⟩,
   ⟨(some 35), (some (34, true)), (.mv (.t 9))⟩,
   ⟨(some 36), (some (34, true)), (.mv (.t 10))⟩,
   ⟨(some 37), (some (34, true)), (.call 11 [(.t 35), (.t 36)])⟩,
   ⟨(some 38), (some (34, true)), (.mv (.t 9))⟩,
   ⟨(some 39), (some (34, true)), (.mv (.t 10))⟩,
   ⟨(some 40), (some (34, true)), (.bin .mul .num (.t 38) (.t 39))⟩,
   ⟨(some 41), (some (34, true)), (.bin .eql .num (.t 37) (.t 40))⟩,
   ⟨(some 42), none, (.pick (.t 34) (.t 41) (.c (.bool false)))⟩,
   ⟨(some 43), none, (.mv (.t 42))⟩,
   ⟨(some 44), (some (43, true)), (.mv (.t 9))⟩,
   ⟨(some 45), (some (43, true)), (.mv (.t 10))⟩,
   ⟨(some 46), (some (43, true)), (.bin .mul .num (.t 44) (.t 45))⟩,
   ⟨(some 47), (some (43, true)), (.mv (.t 11))⟩,
   ⟨(some 48), (some (43, true)), (.call 10 [(.t 46), (.t 47)])⟩,
   ⟨(some 49), (some (43, true)), (.mv (.t 9))⟩,
   ⟨(some 50), (some (43, true)), (.mv (.t 10))⟩,
   ⟨(some 51), (some (43, true)), (.bin .mul .num (.t 49) (.t 50))⟩,
   ⟨(some 52), (some (43, true)), (.mv (.t 11))⟩,
   ⟨(some 53), (some (43, true)), (.bin .add .num (.t 51) (.t 52))⟩,
   ⟨(some 54), (some (43, true)), (.bin .eql .num (.t 48) (.t 53))⟩,
   ⟨(some 55), none, (.pick (.t 43) (.t 54) (.c (.bool false)))⟩,
   ⟨(some 56), none, (.mv (.t 55))⟩,
   ⟨(some 57), (some (56, true)), (.mv (.t 9))⟩,
   ⟨(some 58), (some (56, true)), (.bin .shl .num (.t 57) (.c (.int .u64 32)))⟩,
   ⟨(some 59), (some (56, true)), (.mv (.t 10))⟩,
   ⟨(some 60), (some (56, true)), (.mv (.t 11))⟩,
   ⟨(some 61), (some (56, true)), (.bin .shl .num (.t 60) (.c (.int .u64 32)))⟩,
   ⟨(some 62), (some (56, true)), (.mv (.t 12))⟩,
   ⟨(some 63), (some (56, true)), (.call 12 [(.t 58), (.t 59), (.t 61), (.t 62)])⟩,
   ⟨(some 64), (some (56, true)), (.mv (.t 9))⟩,
   ⟨(some 65), (some (56, true)), (.mv (.t 10))⟩,
   ⟨(some 66), (some (56, true)), (.bin .mul .num (.t 64) (.t 65))⟩,
   ⟨(some 67), (some (56, true)), (.mv (.t 11))⟩,
   ⟨(some 68), (some (56, true)), (.mv (.t 12))⟩,
   ⟨(some 69), (some (56, true)), (.bin .mul .num (.t 67) (.t 68))⟩,
   ⟨(some 70), (some (56, true)), (.bin .lss .num (.t 66) (.t 69))⟩,
   ⟨(some 71), (some (56, true)), (.bin .eql .bool (.t 63) (.t 70))⟩,
   ⟨(some 72), none, (.pick (.t 56) (.t 71) (.c (.bool false)))⟩,
   ⟨(some 73), none, (.mv (.t 72))⟩,
   ⟨(some 74), (some (73, true)), (.mv (.t 9))⟩,
   ⟨(some 75), (some (73, true)), (.bin .shl .num (.t 74) (.c (.int .u64 31)))⟩,
   ⟨(some 76), (some (73, true)), (.mv (.t 10))⟩,
   ⟨(some 77), (some (73, true)), (.bin .shl .num (.t 76) (.c (.int .u64 31)))⟩,
   ⟨(some 78), (some (73, true)), (.mv (.t 11))⟩,
   ⟨(some 79), (some (73, true)), (.bin .shl .num (.t 78) (.c (.int .u64 31)))⟩,
   ⟨(some 80), (some (73, true)), (.mv (.t 12))⟩,
   ⟨(some 81), (some (73, true)), (.bin .shl .num (.t 80) (.c (.int .u64 31)))⟩,
   ⟨(some 82), (some (73, true)), (.call 12 [(.t 75), (.t 77), (.t 79), (.t 81)])⟩,
   ⟨(some 83), (some (73, true)), (.mv (.t 9))⟩,
   ⟨(some 84), (some (73, true)), (.mv (.t 10))⟩,
   ⟨(some 85), (some (73, true)), (.bin .mul .num (.t 83) (.t 84))⟩,
   ⟨(some 86), (some (73, true)), (.mv (.t 11))⟩,
   ⟨(some 87), (some (73, true)), (.mv (.t 12))⟩,
   ⟨(some 88), (some (73, true)), (.bin .mul .num (.t 86) (.t 87))⟩,
   ⟨(some 89), (some (73, true)), (.bin .lss .num (.t 85) (.t 88))⟩,
   ⟨(some 90), (some (73, true)), (.bin .eql .bool (.t 82) (.t 89))⟩,
   ⟨(some 91), none, (.pick (.t 73) (.t 90) (.c (.bool false)))⟩,
   ⟨(some 92), none, (.mv (.t 91))⟩,
   ⟨(some 93), (some (92, true)), (.call 8 [])⟩,
   ⟨(some 94), none, (.pick (.t 92) (.t 93) (.c (.bool false)))⟩,
   ⟨(some 8), none, (.mv (.t 94))⟩]) .ret)))⟩
theorem caf6 : cFunc Try.prog Try.f6 = some af6 := by kernel_rfl
/-- limelight/limelightlaw9.same -/
def af7 : AFunc := ⟨47, [(.tmp 8)],
 (.seq
 (.reg [⟨(some 8), none, (.mv (.c (.bool false)))⟩])
 (.seq
 (.reg [⟨(some 9), none, (.mv (.t 0))⟩,
   ⟨(some 10), none, (.mv (.t 1))⟩,
   ⟨(some 11), none, (.call 10 [(.t 9), (.t 10)])⟩,
   ⟨(some 12), none, (.mv (.t 0))⟩,
   ⟨(some 13), none, (.mv (.t 1))⟩,
   ⟨(some 14), none, (.call 13 [(.t 12), (.t 13)])⟩,
   ⟨(some 15), none, (.bin .eql .num (.t 11) (.t 14))⟩,
   ⟨(some 16), none, (.mv (.t 15))⟩,
   ⟨(some 17), (some (16, true)), (.mv (.t 0))⟩,
   ⟨(some 18), (some (16, true)), (.mv (.t 1))⟩,
   ⟨(some 19), (some (16, true)), (.call 11 [(.t 17), (.t 18)])⟩,
   ⟨(some 20), (some (16, true)), (.mv (.t 0))⟩,
   ⟨(some 21), (some (16, true)), (.mv (.t 1))⟩,
   ⟨(some 22), (some (16, true)), (.call 14 [(.t 20), (.t 21)])⟩,
   ⟨(some 23), (some (16, true)), (.bin .eql .num (.t 19) (.t 22))⟩,
   ⟨(some 24), none, (.pick (.t 16) (.t 23) (.c (.bool false)))⟩,
   ⟨(some 25), none, (.mv (.t 24))⟩,
   ⟨(some 26), (some (25, true)), (.mv (.t 0))⟩,
   ⟨(some 27), (some (25, true)), (.mv (.t 1))⟩,
   ⟨(some 28), (some (25, true)), (.call 9 [(.t 26), (.t 27)])⟩,
   ⟨(some 29), (some (25, true)), (.mv (.t 0))⟩,
   ⟨(some 30), (some (25, true)), (.mv (.t 1))⟩,
   ⟨(some 31), (some (25, true)), (.call 15 [(.t 29), (.t 30)])⟩,
   ⟨(some 32), (some (25, true)), (.bin .eql .num (.t 28) (.t 31))⟩,
   ⟨(some 33), none, (.pick (.t 25) (.t 32) (.c (.bool false)))⟩,
   ⟨(some 34), none, (.mv (.t 33))⟩,
   ⟨(some 35), (some (34, true)), (.mv (.t 0))⟩,
   ⟨(some 36), (some (34, true)), (.mv (.t 1))⟩,
   ⟨(some 37), (some (34, true)), (.mv (.t 2))⟩,
   ⟨(some 38), (some (34, true)), (.mv (.t 3))⟩,
   ⟨(some 39), (some (34, true)), (.call 12 [(.t 35), (.t 36), (.t 37), (.t 38)])⟩,
   ⟨(some 40), (some (34, true)), (.mv (.t 0))⟩,
   ⟨(some 41), (some (34, true)), (.mv (.t 1))⟩,
   ⟨(some 42), (some (34, true)), (.mv (.t 2))⟩,
   ⟨(some 43), (some (34, true)), (.mv (.t 3))⟩,
   ⟨(some 44), (some (34, true)), (.call 16 [(.t 40), (.t 41), (.t 42), (.t 43)])⟩,
   ⟨(some 45), (some (34, true)), (.bin .eql .bool (.t 39) (.t 44))⟩,
   ⟨(some 46), none, (.pick (.t 34) (.t 45) (.c (.bool false)))⟩,
   ⟨(some 8), none, (.mv (.t 46))⟩]) .ret))⟩
theorem caf7 : cFunc Try.prog Try.f7 = some af7 := by kernel_rfl
/-- limelight/limelightlaw9.known -/
def af8 : AFunc := ⟨34, [(.tmp 0)],
 (.seq
 (.reg [⟨(some 0), none, (.mv (.c (.bool false)))⟩])
 (.seq
 (.reg [⟨(some 1), none, (.call 10 [(.c (.int .i64 9223372036854775807)), (.c (.int .i64 5))])⟩,
   ⟨(some 2), none, (.bin .eql .num (.t 1) (.c (.int .i64 9223372036854775807)))⟩,
   ⟨(some 3), none, (.mv (.t 2))⟩,
   ⟨(some 4), (some (3, true)), (.call 9 [(.c (.int .i64 7)), (.c (.int .i64 2))])⟩,
   ⟨(some 5), (some (3, true)), (.bin .eql .num (.t 4) (.c (.int .i64 4)))⟩,
   ⟨(some 6), none, (.pick (.t 3) (.t 5) (.c (.bool false)))⟩,
   ⟨(some 7), none, (.mv (.t 6))⟩,
   ⟨(some 8), (some (7, true)), (.call 12 [(.c (.int .i64 4611686018427387904)), (.c (.int .i64 4)), (.c (.int .i64 4611686018427387904)), (.c (.int .i64 5))])⟩,
   ⟨(some 9), none, (.pick (.t 7) (.t 8) (.c (.bool false)))⟩,
   ⟨(some 10), none, (.mv (.t 9))⟩,
   ⟨(some 11), (some (10, true)), (.call 12 [(.c (.int .i64 4611686018427387904)), (.c (.int .i64 5)), (.c (.int .i64 4611686018427387904)), (.c (.int .i64 5))])⟩,
   ⟨(some 12), (some (10, true)), (.un .not (.t 11))⟩,
   ⟨(some 13), none, (.pick (.t 10) (.t 12) (.c (.bool false)))⟩,
   ⟨(some 14), none, (.mv (.t 13))⟩,
   ⟨(some 15), (some (14, true)), (.call 11 [(.c (.int .i64 1099511627776)), (.c (.int .i64 1099511627776))])⟩,
   ⟨(some 16), (some (14, true)), (.bin .eql .num (.t 15) (.c (.int .i64 9223372036854775807)))⟩,
   ⟨(some 17), none, (.pick (.t 14) (.t 16) (.c (.bool false)))⟩,
   ⟨(some 18), none, (.mv (.t 17))⟩,
   ⟨(some 19), (some (18, true)), (.call 10 [(.c (.int .i64 (-5))), (.c (.int .i64 3))])⟩,
   ⟨(some 20), (some (18, true)), (.bin .eql .num (.t 19) (.c (.int .i64 3)))⟩,
   ⟨(some 21), none, (.pick (.t 18) (.t 20) (.c (.bool false)))⟩,
   ⟨(some 22), none, (.mv (.t 21))⟩,
   ⟨(some 23), (some (22, true)), (.call 9 [(.c (.int .i64 5)), (.c (.int .i64 0))])⟩,
   ⟨(some 24), (some (22, true)), (.bin .eql .num (.t 23) (.c (.int .i64 0)))⟩,
   ⟨(some 25), none, (.pick (.t 22) (.t 24) (.c (.bool false)))⟩,
   ⟨(some 26), none, (.mv (.t 25))⟩,
   ⟨(some 27), (some (26, true)), (.call 11 [(.c (.int .i64 (-1))), (.c (.int .i64 9))])⟩,
   ⟨(some 28), (some (26, true)), (.bin .eql .num (.t 27) (.c (.int .i64 0)))⟩,
   ⟨(some 29), none, (.pick (.t 26) (.t 28) (.c (.bool false)))⟩,
   ⟨(some 30), none, (.mv (.t 29))⟩,
   ⟨(some 31), (some (30, true)), (.call 11 [(.c (.int .i64 3)), (.c (.int .i64 4))])⟩,
   ⟨(some 32), (some (30, true)), (.bin .eql .num (.t 31) (.c (.int .i64 12)))⟩,
   ⟨(some 33), none, (.pick (.t 30) (.t 32) (.c (.bool false)))⟩,
   ⟨(some 0), none, (.mv (.t 33))⟩]) .ret))⟩
theorem caf8 : cFunc Try.prog Try.f8 = some af8 := by kernel_rfl
/-- limelight/clock.Over -/
def af9 : AFunc := ⟨25, [(.tmp 4)],
 (.seq
 (.reg [⟨(some 4), none, (.mv (.c (.int .i64 0)))⟩])
 (.seq
 (.reg [⟨(some 8), none, (.mv (.t 0))⟩,
   ⟨(some 9), none, (.call 17 [(.t 8)])⟩,
   ⟨(some 10), none, (.mv (.t 1))⟩,
   ⟨(some 11), none, (.call 17 [(.t 10)])⟩,
   ⟨(some 5), none, (.mv (.t 9))⟩,
   ⟨(some 6), none, (.mv (.t 11))⟩])
 (.seq
 (.seq
 (.reg [⟨(some 12), none, (.mv (.t 6))⟩,
   ⟨(some 13), none, (.bin .eql .num (.t 12) (.c (.int .u64 0)))⟩])
 (.cond (.t 13)
 (.seq
 (.reg [⟨(some 4), none, (.mv (.c (.int .i64 0)))⟩]) .ret) .skip))
 (.seq
 (.reg [⟨(some 14), none, (.mv (.t 5))⟩,
   ⟨(some 15), none, (.mv (.t 6))⟩,
   ⟨(some 16), none, (.bin .quo .num (.t 14) (.t 15))⟩,
   ⟨(some 7), none, (.mv (.t 16))⟩])
 (.seq
 (.seq
 (.reg [⟨(some 17), none, (.mv (.t 5))⟩,
   ⟨(some 18), none, (.mv (.t 6))⟩,
   ⟨(some 19), none, (.bin .rem .num (.t 17) (.t 18))⟩,
   ⟨(some 20), none, (.bin .gtr .num (.t 19) (.c (.int .u64 0)))⟩])
 (.cond (.t 20)
 (.reg [⟨(some 21), none, (.mv (.t 7))⟩,
   ⟨(some 22), none, (.bin .add .num (.t 21) (.c (.int .u64 1)))⟩,
   ⟨(some 7), none, (.mv (.t 22))⟩]) .skip))
 (.seq
 (.reg [⟨(some 23), none, (.mv (.t 7))⟩,
   ⟨(some 24), none, (.conv (.int .i64) (.t 23))⟩,
   ⟨(some 4), none, (.mv (.t 24))⟩]) .ret))))))⟩
theorem caf9 : cFunc Try.prog Try.f9 = some af9 := by kernel_rfl
/-- limelight/clock.Add -/
def af10 : AFunc := ⟨12, [(.tmp 4)],
 (.seq
 (.reg [⟨(some 4), none, (.mv (.c (.int .i64 0)))⟩])
 (.seq
 (.reg [⟨(some 5), none, (.mv (.t 0))⟩,
   ⟨(some 6), none, (.call 17 [(.t 5)])⟩,
   ⟨(some 7), none, (.mv (.t 1))⟩,
   ⟨(some 8), none, (.call 17 [(.t 7)])⟩,
   ⟨(some 9), none, (.bin .add .num (.t 6) (.t 8))⟩,
   ⟨(some 10), none, (.mn [(.t 9), (.c (.int .u64 9223372036854775807))])⟩,
   ⟨(some 11), none, (.conv (.int .i64) (.t 10))⟩,
   ⟨(some 4), none, (.mv (.t 11))⟩]) .ret))⟩
theorem caf10 : cFunc Try.prog Try.f10 = some af10 := by kernel_rfl
/-- limelight/clock.Mul -/
def af11 : AFunc := ⟨20, [(.tmp 4)],
 (.seq
 (.reg [⟨(some 4), none, (.mv (.c (.int .i64 0)))⟩])
 (.seq
 (.reg [⟨(some 8), none, (.mv (.t 0))⟩,
   ⟨(some 9), none, (.call 17 [(.t 8)])⟩,
   ⟨(some 10), none, (.mv (.t 1))⟩,
   ⟨(some 11), none, (.call 17 [(.t 10)])⟩,
   ⟨(some 12), none, (.call 18 [(.t 9), (.t 11)])⟩,
   ⟨(some 7), none, (.mv (.t 12))⟩,
   ⟨(some 13), none, (.extract 0 (.t 7))⟩,
   ⟨(some 14), none, (.extract 1 (.t 7))⟩,
   ⟨(some 5), none, (.mv (.t 13))⟩,
   ⟨(some 6), none, (.mv (.t 14))⟩])
 (.seq
 (.seq
 (.reg [⟨(some 15), none, (.mv (.t 5))⟩,
   ⟨(some 16), none, (.bin .gtr .num (.t 15) (.c (.int .u64 0)))⟩])
 (.cond (.t 16)
 (.seq
 (.reg [⟨(some 4), none, (.mv (.c (.int .i64 9223372036854775807)))⟩]) .ret) .skip))
 (.seq
 (.reg [⟨(some 17), none, (.mv (.t 6))⟩,
   ⟨(some 18), none, (.mn [(.t 17), (.c (.int .u64 9223372036854775807))])⟩,
   ⟨(some 19), none, (.conv (.int .i64) (.t 18))⟩,
   ⟨(some 4), none, (.mv (.t 19))⟩]) .ret))))⟩
theorem caf11 : cFunc Try.prog Try.f11 = some af11 := by kernel_rfl
/-- limelight/clock.Less -/
def af12 : AFunc := ⟨42, [(.tmp 8)],
 (.seq
 (.reg [⟨(some 8), none, (.mv (.c (.bool false)))⟩])
 (.seq
 (.reg [⟨(some 14), none, (.mv (.t 0))⟩,
   ⟨(some 15), none, (.call 17 [(.t 14)])⟩,
   ⟨(some 16), none, (.mv (.t 1))⟩,
   ⟨(some 17), none, (.call 17 [(.t 16)])⟩,
   ⟨(some 18), none, (.call 18 [(.t 15), (.t 17)])⟩,
   ⟨(some 13), none, (.mv (.t 18))⟩,
   ⟨(some 19), none, (.extract 0 (.t 13))⟩,
   ⟨(some 20), none, (.extract 1 (.t 13))⟩,
   ⟨(some 9), none, (.mv (.t 19))⟩,
   ⟨(some 10), none, (.mv (.t 20))⟩])
 (.seq
 (.reg [⟨(some 22), none, (.mv (.t 2))⟩,
   ⟨(some 23), none, (.call 17 [(.t 22)])⟩,
   ⟨(some 24), none, (.mv (.t 3))⟩,
   ⟨(some 25), none, (.call 17 [(.t 24)])⟩,
   ⟨(some 26), none, (.call 18 [(.t 23), (.t 25)])⟩,
   ⟨(some 21), none, (.mv (.t 26))⟩,
   ⟨(some 27), none, (.extract 0 (.t 21))⟩,
   ⟨(some 28), none, (.extract 1 (.t 21))⟩,
   ⟨(some 11), none, (.mv (.t 27))⟩,
   ⟨(some 12), none, (.mv (.t 28))⟩])
 (.seq
 (.reg [⟨(some 29), none, (.mv (.t 9))⟩,
   ⟨(some 30), none, (.mv (.t 11))⟩,
   ⟨(some 31), none, (.bin .lss .num (.t 29) (.t 30))⟩,
   ⟨(some 32), none, (.mv (.t 31))⟩,
   ⟨(some 33), (some (32, false)), (.mv (.t 9))⟩,
   ⟨(some 34), (some (32, false)), (.mv (.t 11))⟩,
   ⟨(some 35), (some (32, false)), (.bin .eql .num (.t 33) (.t 34))⟩,
   ⟨(some 36), (some (32, false)), (.mv (.t 35))⟩,
   ⟨(some 37), (some (36, true)), (.mv (.t 10))⟩,
   ⟨(some 38), (some (36, true)), (.mv (.t 12))⟩,
   ⟨(some 39), (some (36, true)), (.bin .lss .num (.t 37) (.t 38))⟩,
   ⟨(some 40), (some (32, false)), (.pick (.t 36) (.t 39) (.c (.bool false)))⟩,
   ⟨(some 41), none, (.pick (.t 32) (.c (.bool true)) (.t 40))⟩,
   ⟨(some 8), none, (.mv (.t 41))⟩]) .ret))))⟩
theorem caf12 : cFunc Try.prog Try.f12 = some af12 := by kernel_rfl
/-- limelight/limelightref9.Add -/
def af13 : AFunc := ⟨16, [(.tmp 4)],
 (.seq
 (.reg [⟨(some 4), none, (.mv (.c (.int .i64 0)))⟩])
 (.seq
 (.reg [⟨(some 5), none, (.mv (.t 0))⟩,
   ⟨(some 6), none, (.mx [(.t 5), (.c (.int .i64 0))])⟩,
   ⟨(some 7), none, (.mv (.t 1))⟩,
   ⟨(some 8), none, (.mx [(.t 7), (.c (.int .i64 0))])⟩,
   ⟨(some 0), none, (.mv (.t 6))⟩,
   ⟨(some 1), none, (.mv (.t 8))⟩])
 (.seq
 (.seq
 (.reg [⟨(some 9), none, (.mv (.t 0))⟩,
   ⟨(some 10), none, (.mv (.t 1))⟩,
   ⟨(some 11), none, (.bin .sub .num (.c (.int .i64 9223372036854775807)) (.t 10))⟩,
   ⟨(some 12), none, (.bin .gtr .num (.t 9) (.t 11))⟩])
 (.cond (.t 12)
 (.seq
 (.reg [⟨(some 4), none, (.mv (.c (.int .i64 9223372036854775807)))⟩]) .ret) .skip))
 (.seq
 (.reg [⟨(some 13), none, (.mv (.t 0))⟩,
   ⟨(some 14), none, (.mv (.t 1))⟩,
   ⟨(some 15), none, (.bin .add .num (.t 13) (.t 14))⟩,
   ⟨(some 4), none, (.mv (.t 15))⟩]) .ret))))⟩
theorem caf13 : cFunc Try.prog Try.f13 = some af13 := by kernel_rfl
/-- limelight/limelightref9.Mul -/
def af14 : AFunc := ⟨20, [(.tmp 4)],
 (.seq
 (.reg [⟨(some 4), none, (.mv (.c (.int .i64 0)))⟩])
 (.seq
 (.reg [⟨(some 5), none, (.mv (.t 0))⟩,
   ⟨(some 6), none, (.mx [(.t 5), (.c (.int .i64 0))])⟩,
   ⟨(some 7), none, (.mv (.t 1))⟩,
   ⟨(some 8), none, (.mx [(.t 7), (.c (.int .i64 0))])⟩,
   ⟨(some 0), none, (.mv (.t 6))⟩,
   ⟨(some 1), none, (.mv (.t 8))⟩])
 (.seq
 (.seq
 (.reg [⟨(some 9), none, (.mv (.t 0))⟩,
   ⟨(some 10), none, (.bin .gtr .num (.t 9) (.c (.int .i64 0)))⟩,
   ⟨(some 11), none, (.mv (.t 10))⟩,
   ⟨(some 12), (some (11, true)), (.mv (.t 1))⟩,
   ⟨(some 13), (some (11, true)), (.mv (.t 0))⟩,
   ⟨(some 14), (some (11, true)), (.bin .quo .num (.c (.int .i64 9223372036854775807)) (.t 13))⟩,
   ⟨(some 15), (some (11, true)), (.bin .gtr .num (.t 12) (.t 14))⟩,
   ⟨(some 16), none, (.pick (.t 11) (.t 15) (.c (.bool false)))⟩])
 (.cond (.t 16)
 (.seq
 (.reg [⟨(some 4), none, (.mv (.c (.int .i64 9223372036854775807)))⟩]) .ret) .skip))
 (.seq
 (.reg [⟨(some 17), none, (.mv (.t 0))⟩,
   ⟨(some 18), none, (.mv (.t 1))⟩,
   ⟨(some 19), none, (.bin .mul .num (.t 17) (.t 18))⟩,
   ⟨(some 4), none, (.mv (.t 19))⟩]) .ret))))⟩
theorem caf14 : cFunc Try.prog Try.f14 = some af14 := by kernel_rfl
/-- limelight/limelightref9.Over -/
def af15 : AFunc := ⟨22, [(.tmp 4)],
 (.seq
 (.reg [⟨(some 4), none, (.mv (.c (.int .i64 0)))⟩])
 (.seq
 (.reg [⟨(some 6), none, (.mv (.t 0))⟩,
   ⟨(some 7), none, (.mx [(.t 6), (.c (.int .i64 0))])⟩,
   ⟨(some 8), none, (.mv (.t 1))⟩,
   ⟨(some 9), none, (.mx [(.t 8), (.c (.int .i64 0))])⟩,
   ⟨(some 0), none, (.mv (.t 7))⟩,
   ⟨(some 1), none, (.mv (.t 9))⟩])
 (.seq
 (.seq
 (.reg [⟨(some 10), none, (.mv (.t 1))⟩,
   ⟨(some 11), none, (.bin .eql .num (.t 10) (.c (.int .i64 0)))⟩])
 (.cond (.t 11)
 (.seq
 (.reg [⟨(some 4), none, (.mv (.c (.int .i64 0)))⟩]) .ret) .skip))
 (.seq
 (.reg [⟨(some 12), none, (.mv (.t 0))⟩,
   ⟨(some 13), none, (.mv (.t 1))⟩,
   ⟨(some 14), none, (.bin .quo .num (.t 12) (.t 13))⟩,
   ⟨(some 5), none, (.mv (.t 14))⟩])
 (.seq
 (.seq
 (.reg [⟨(some 15), none, (.mv (.t 0))⟩,
   ⟨(some 16), none, (.mv (.t 1))⟩,
   ⟨(some 17), none, (.bin .rem .num (.t 15) (.t 16))⟩,
   ⟨(some 18), none, (.bin .gtr .num (.t 17) (.c (.int .i64 0)))⟩])
 (.cond (.t 18)
 (.reg [⟨(some 19), none, (.mv (.t 5))⟩,
   ⟨(some 20), none, (.bin .add .num (.t 19) (.c (.int .i64 1)))⟩,
   ⟨(some 5), none, (.mv (.t 20))⟩]) .skip))
 (.seq
 (.reg [⟨(some 21), none, (.mv (.t 5))⟩,
   ⟨(some 4), none, (.mv (.t 21))⟩]) .ret))))))⟩
theorem caf15 : cFunc Try.prog Try.f15 = some af15 := by kernel_rfl
/-- limelight/limelightref9.Less -/
def af16 : AFunc := ⟨46, [(.tmp 8)],
 (.seq
 (.reg [⟨(some 8), none, (.mv (.c (.bool false)))⟩])
 (.seq
 (.reg [⟨(some 14), none, (.mv (.t 0))⟩,
   ⟨(some 15), none, (.mx [(.t 14), (.c (.int .i64 0))])⟩,
   ⟨(some 16), none, (.conv (.int .u64) (.t 15))⟩,
   ⟨(some 17), none, (.mv (.t 1))⟩,
   ⟨(some 18), none, (.mx [(.t 17), (.c (.int .i64 0))])⟩,
   ⟨(some 19), none, (.conv (.int .u64) (.t 18))⟩,
   ⟨(some 20), none, (.call 19 [(.t 16), (.t 19)])⟩,
   ⟨(some 13), none, (.mv (.t 20))⟩,
   ⟨(some 21), none, (.extract 0 (.t 13))⟩,
   ⟨(some 22), none, (.extract 1 (.t 13))⟩,
   ⟨(some 9), none, (.mv (.t 21))⟩,
   ⟨(some 10), none, (.mv (.t 22))⟩])
 (.seq
 (.reg [⟨(some 24), none, (.mv (.t 2))⟩,
   ⟨(some 25), none, (.mx [(.t 24), (.c (.int .i64 0))])⟩,
   ⟨(some 26), none, (.conv (.int .u64) (.t 25))⟩,
   ⟨(some 27), none, (.mv (.t 3))⟩,
   ⟨(some 28), none, (.mx [(.t 27), (.c (.int .i64 0))])⟩,
   ⟨(some 29), none, (.conv (.int .u64) (.t 28))⟩,
   ⟨(some 30), none, (.call 19 [(.t 26), (.t 29)])⟩,
   ⟨(some 23), none, (.mv (.t 30))⟩,
   ⟨(some 31), none, (.extract 0 (.t 23))⟩,
   ⟨(some 32), none, (.extract 1 (.t 23))⟩,
   ⟨(some 11), none, (.mv (.t 31))⟩,
   ⟨(some 12), none, (.mv (.t 32))⟩])
 (.seq
 (.reg [⟨(some 33), none, (.mv (.t 9))⟩,
   ⟨(some 34), none, (.mv (.t 11))⟩,
   ⟨(some 35), none, (.bin .lss .num (.t 33) (.t 34))⟩,
   ⟨(some 36), none, (.mv (.t 35))⟩,
   ⟨(some 37), (some (36, false)), (.mv (.t 9))⟩,
   ⟨(some 38), (some (36, false)), (.mv (.t 11))⟩,
   ⟨(some 39), (some (36, false)), (.bin .eql .num (.t 37) (.t 38))⟩,
   ⟨(some 40), (some (36, false)), (.mv (.t 39))⟩,
   ⟨(some 41), (some (40, true)), (.mv (.t 10))⟩,
   ⟨(some 42), (some (40, true)), (.mv (.t 12))⟩,
   ⟨(some 43), (some (40, true)), (.bin .lss .num (.t 41) (.t 42))⟩,
   ⟨(some 44), (some (36, false)), (.pick (.t 40) (.t 43) (.c (.bool false)))⟩,
   ⟨(some 45), none, (.pick (.t 36) (.c (.bool true)) (.t 44))⟩,
   ⟨(some 8), none, (.mv (.t 45))⟩]) .ret))))⟩
theorem caf16 : cFunc Try.prog Try.f16 = some af16 := by kernel_rfl
/-- limelight/clock.up -/
def af17 : AFunc := ⟨6, [(.tmp 2)],
 (.seq
 (.reg [⟨(some 2), none, (.mv (.c (.int .u64 0)))⟩])
 (.seq
 (.reg [⟨(some 3), none, (.mv (.t 0))⟩,
   ⟨(some 4), none, (.mx [(.c (.int .i64 0)), (.t 3)])⟩,
   ⟨(some 5), none, (.conv (.int .u64) (.t 4))⟩,
   ⟨(some 2), none, (.mv (.t 5))⟩]) .ret))⟩
theorem caf17 : cFunc Try.prog Try.f17 = some af17 := by kernel_rfl
/-- math/bits.Mul64 -/
def af18 : AFunc := ⟨51, [(.tmp 4), (.tmp 5)],
 (.seq
 (.reg [⟨(some 4), none, (.mv (.c (.int .u64 0)))⟩,
   ⟨(some 5), none, (.mv (.c (.int .u64 0)))⟩])
 (.seq
 (.reg [⟨(some 14), none, (.mv (.t 0))⟩,
   ⟨(some 15), none, (.bin .and .num (.t 14) (.c (.int .u64 4294967295)))⟩,
   ⟨(some 6), none, (.mv (.t 15))⟩])
 (.seq
 (.reg [⟨(some 16), none, (.mv (.t 0))⟩,
   ⟨(some 17), none, (.bin .shr .num (.t 16) (.c (.int .u64 32)))⟩,
   ⟨(some 7), none, (.mv (.t 17))⟩])
 (.seq
 (.reg [⟨(some 18), none, (.mv (.t 1))⟩,
   ⟨(some 19), none, (.bin .and .num (.t 18) (.c (.int .u64 4294967295)))⟩,
   ⟨(some 8), none, (.mv (.t 19))⟩])
 (.seq
 (.reg [⟨(some 20), none, (.mv (.t 1))⟩,
   ⟨(some 21), none, (.bin .shr .num (.t 20) (.c (.int .u64 32)))⟩,
   ⟨(some 9), none, (.mv (.t 21))⟩])
 (.seq
 (.reg [⟨(some 22), none, (.mv (.t 6))⟩,
   ⟨(some 23), none, (.mv (.t 8))⟩,
   ⟨(some 24), none, (.bin .mul .num (.t 22) (.t 23))⟩,
   ⟨(some 10), none, (.mv (.t 24))⟩])
 (.seq
 (.reg [⟨(some 25), none, (.mv (.t 7))⟩,
   ⟨(some 26), none, (.mv (.t 8))⟩,
   ⟨(some 27), none, (.bin .mul .num (.t 25) (.t 26))⟩,
   ⟨(some 28), none, (.mv (.t 10))⟩,
   ⟨(some 29), none, (.bin .shr .num (.t 28) (.c (.int .u64 32)))⟩,
   ⟨(some 30), none, (.bin .add .num (.t 27) (.t 29))⟩,
   ⟨(some 11), none, (.mv (.t 30))⟩])
 (.seq
 (.reg [⟨(some 31), none, (.mv (.t 11))⟩,
   ⟨(some 32), none, (.bin .and .num (.t 31) (.c (.int .u64 4294967295)))⟩,
   ⟨(some 12), none, (.mv (.t 32))⟩])
 (.seq
 (.reg [⟨(some 33), none, (.mv (.t 11))⟩,
   ⟨(some 34), none, (.bin .shr .num (.t 33) (.c (.int .u64 32)))⟩,
   ⟨(some 13), none, (.mv (.t 34))⟩])
 (.seq
 (.reg [⟨(some 35), none, (.mv (.t 12))⟩,
   ⟨(some 36), none, (.mv (.t 6))⟩,
   ⟨(some 37), none, (.mv (.t 9))⟩,
   ⟨(some 38), none, (.bin .mul .num (.t 36) (.t 37))⟩,
   ⟨(some 39), none, (.bin .add .num (.t 35) (.t 38))⟩,
   ⟨(some 12), none, (.mv (.t 39))⟩])
 (.seq
 (.reg [⟨(some 40), none, (.mv (.t 7))⟩,
   ⟨(some 41), none, (.mv (.t 9))⟩,
   ⟨(some 42), none, (.bin .mul .num (.t 40) (.t 41))⟩,
   ⟨(some 43), none, (.mv (.t 13))⟩,
   ⟨(some 44), none, (.bin .add .num (.t 42) (.t 43))⟩,
   ⟨(some 45), none, (.mv (.t 12))⟩,
   ⟨(some 46), none, (.bin .shr .num (.t 45) (.c (.int .u64 32)))⟩,
   ⟨(some 47), none, (.bin .add .num (.t 44) (.t 46))⟩,
   ⟨(some 4), none, (.mv (.t 47))⟩])
 (.seq
 (.reg [⟨(some 48), none, (.mv (.t 0))⟩,
   ⟨(some 49), none, (.mv (.t 1))⟩,
   ⟨(some 50), none, (.bin .mul .num (.t 48) (.t 49))⟩,
   ⟨(some 5), none, (.mv (.t 50))⟩]) .ret))))))))))))⟩
theorem caf18 : cFunc Try.prog Try.f18 = some af18 := by kernel_rfl
/-- limelight/limelightref9.wide -/
def af19 : AFunc := ⟨52, [(.tmp 4), (.tmp 5)],
 (.seq
 (.reg [⟨(some 4), none, (.mv (.c (.int .u64 0)))⟩,
   ⟨(some 5), none, (.mv (.c (.int .u64 0)))⟩])
 (.seq
 (.reg [⟨(some 11), none, (.mv (.t 0))⟩,
   ⟨(some 12), none, (.bin .shr .num (.t 11) (.c (.int .u64 32)))⟩,
   ⟨(some 13), none, (.mv (.t 0))⟩,
   ⟨(some 14), none, (.bin .and .num (.t 13) (.c (.int .u64 4294967295)))⟩,
   ⟨(some 15), none, (.mv (.t 1))⟩,
   ⟨(some 16), none, (.bin .shr .num (.t 15) (.c (.int .u64 32)))⟩,
   ⟨(some 17), none, (.mv (.t 1))⟩,
   ⟨(some 18), none, (.bin .and .num (.t 17) (.c (.int .u64 4294967295)))⟩,
   ⟨(some 6), none, (.mv (.t 12))⟩,
   ⟨(some 7), none, (.mv (.t 14))⟩,
   ⟨(some 8), none, (.mv (.t 16))⟩,
   ⟨(some 9), none, (.mv (.t 18))⟩])
 (.seq
 (.reg [⟨(some 19), none, (.mv (.t 7))⟩,
   ⟨(some 20), none, (.mv (.t 9))⟩,
   ⟨(some 21), none, (.bin .mul .num (.t 19) (.t 20))⟩,
   ⟨(some 22), none, (.bin .shr .num (.t 21) (.c (.int .u64 32)))⟩,
   ⟨(some 23), none, (.mv (.t 6))⟩,
   ⟨(some 24), none, (.mv (.t 9))⟩,
   ⟨(some 25), none, (.bin .mul .num (.t 23) (.t 24))⟩,
   ⟨(some 26), none, (.bin .and .num (.t 25) (.c (.int .u64 4294967295)))⟩,
   ⟨(some 27), none, (.bin .add .num (.t 22) (.t 26))⟩,
   ⟨(some 28), none, (.mv (.t 7))⟩,
   ⟨(some 29), none, (.mv (.t 8))⟩,
   ⟨(some 30), none, (.bin .mul .num (.t 28) (.t 29))⟩,
   ⟨(some 31), none, (.bin .and .num (.t 30) (.c (.int .u64 4294967295)))⟩,
   ⟨(some 32), none, (.bin .add .num (.t 27) (.t 31))⟩,
   ⟨(some 10), none, (.mv (.t 32))⟩])
 (.seq
 (.reg [⟨(some 33), none, (.mv (.t 6))⟩,
   ⟨(some 34), none, (.mv (.t 8))⟩,
   ⟨(some 35), none, (.bin .mul .num (.t 33) (.t 34))⟩,
   ⟨(some 36), none, (.mv (.t 6))⟩,
   ⟨(some 37), none, (.mv (.t 9))⟩,
   ⟨(some 38), none, (.bin .mul .num (.t 36) (.t 37))⟩,
   ⟨(some 39), none, (.bin .shr .num (.t 38) (.c (.int .u64 32)))⟩,
   ⟨(some 40), none, (.bin .add .num (.t 35) (.t 39))⟩,
   ⟨(some 41), none, (.mv (.t 7))⟩,
   ⟨(some 42), none, (.mv (.t 8))⟩,
   ⟨(some 43), none, (.bin .mul .num (.t 41) (.t 42))⟩,
   ⟨(some 44), none, (.bin .shr .num (.t 43) (.c (.int .u64 32)))⟩,
   ⟨(some 45), none, (.bin .add .num (.t 40) (.t 44))⟩,
   ⟨(some 46), none, (.mv (.t 10))⟩,
   ⟨(some 47), none, (.bin .shr .num (.t 46) (.c (.int .u64 32)))⟩,
   ⟨(some 48), none, (.bin .add .num (.t 45) (.t 47))⟩,
   ⟨(some 49), none, (.mv (.t 0))⟩,
   ⟨(some 50), none, (.mv (.t 1))⟩,
   ⟨(some 51), none, (.bin .mul .num (.t 49) (.t 50))⟩,
   ⟨(some 4), none, (.mv (.t 48))⟩,
   ⟨(some 5), none, (.mv (.t 51))⟩]) .ret))))⟩
theorem caf19 : cFunc Try.prog Try.f19 = some af19 := by kernel_rfl
def AP : Nat → Option AFunc
  | 3 => some af3
  | 4 => some af4
  | 5 => some af5
  | 6 => some af6
  | 7 => some af7
  | 8 => some af8
  | 9 => some af9
  | 10 => some af10
  | 11 => some af11
  | 12 => some af12
  | 13 => some af13
  | 14 => some af14
  | 15 => some af15
  | 16 => some af16
  | 17 => some af17
  | 18 => some af18
  | 19 => some af19
  | _ => none
theorem apOk : APOk Try.prog AP := by
  intro f af h
  unfold AP at h
  split at h
  · cases h; exact ⟨_, Try.func3, caf3⟩
  · cases h; exact ⟨_, Try.func4, caf4⟩
  · cases h; exact ⟨_, Try.func5, caf5⟩
  · cases h; exact ⟨_, Try.func6, caf6⟩
  · cases h; exact ⟨_, Try.func7, caf7⟩
  · cases h; exact ⟨_, Try.func8, caf8⟩
  · cases h; exact ⟨_, Try.func9, caf9⟩
  · cases h; exact ⟨_, Try.func10, caf10⟩
  · cases h; exact ⟨_, Try.func11, caf11⟩
  · cases h; exact ⟨_, Try.func12, caf12⟩
  · cases h; exact ⟨_, Try.func13, caf13⟩
  · cases h; exact ⟨_, Try.func14, caf14⟩
  · cases h; exact ⟨_, Try.func15, caf15⟩
  · cases h; exact ⟨_, Try.func16, caf16⟩
  · cases h; exact ⟨_, Try.func17, caf17⟩
  · cases h; exact ⟨_, Try.func18, caf18⟩
  · cases h; exact ⟨_, Try.func19, caf19⟩
  · cases h
theorem mixed : Try.prog.follows .mixedOrders = true := by kernel_rfl
end Go.Proofs.YtccjifccejcepaaA
