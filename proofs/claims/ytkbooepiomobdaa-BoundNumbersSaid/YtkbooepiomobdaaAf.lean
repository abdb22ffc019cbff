/- The loaded functions of this seat, their types resolved: printed by a program of this claim; each is held against the loaded one. -/
import Derived.Test.YtkbooepiomobdaaAeZ
import Derived.Test.YtkbooepiomobdaaProg
set_option maxRecDepth 100000
namespace Go.Proofs.YtkbooepiomobdaaA
open Go.RowKit
def af3_l0 : AC :=
 (.seq
 (.seq
 (.reg [⟨(some 55), none, (.mv (.t 8))⟩,
   ⟨(some 56), none, (.bin .lss .num (.t 55) (.c (.int .u64 20)))⟩])
 (.cond (.t 56) .skip (.exit 4)))
 (.seq
 (.block 5
 (.seq
 (.reg [⟨(some 59), none, (.mv (.t 4))⟩,
   ⟨(some 60), none, (.mv (.t 8))⟩,
   ⟨(some 61), none, (.call 10 [(.t 59), (.t 60)])⟩,
   ⟨(some 62), none, (.un .not (.t 61))⟩,
   ⟨(some 63), none, (.mv (.t 62))⟩,
   ⟨(some 64), (some (63, false)), (.mv (.t 5))⟩,
   ⟨(some 65), (some (63, false)), (.mv (.t 8))⟩,
   ⟨(some 66), (some (63, false)), (.call 10 [(.t 64), (.t 65)])⟩,
   ⟨(some 67), (some (63, false)), (.un .not (.t 66))⟩,
   ⟨(some 68), none, (.pick (.t 63) (.c (.bool true)) (.t 67))⟩,
   ⟨(some 69), none, (.mv (.t 68))⟩,
   ⟨(some 70), (some (69, false)), (.mv (.t 6))⟩,
   ⟨(some 71), (some (69, false)), (.mv (.t 8))⟩,
   ⟨(some 72), (some (69, false)), (.call 10 [(.t 70), (.t 71)])⟩,
   ⟨(some 73), (some (69, false)), (.un .not (.t 72))⟩,
   ⟨(some 74), none, (.pick (.t 69) (.c (.bool true)) (.t 73))⟩,
   ⟨(some 75), none, (.mv (.t 74))⟩,
   ⟨(some 76), (some (75, false)), (.mv (.t 7))⟩,
   ⟨(some 77), (some (75, false)), (.mv (.t 8))⟩,
   ⟨(some 78), (some (75, false)), (.call 10 [(.t 76), (.t 77)])⟩,
   ⟨(some 79), (some (75, false)), (.un .not (.t 78))⟩,
   ⟨(some 80), none, (.pick (.t 75) (.c (.bool true)) (.t 79))⟩,
   ⟨(some 81), none, (.mv (.t 80))⟩,
   ⟨(some 82), (some (81, false)), (.mv (.t 7))⟩,
   ⟨(some 83), (some (81, false)), (.cut 3 (.t 82) none (some (.c (.int .i64 2))) none)⟩,
   ⟨(some 84), (some (81, false)), (.mv (.t 8))⟩,
   ⟨(some 85), (some (81, false)), (.bin .shl .num (.t 84) (.c (.int .u64 60)))⟩,
   ⟨(some 86), (some (81, false)), (.call 10 [(.t 83), (.t 85)])⟩,
   ⟨(some 87), (some (81, false)), (.un .not (.t 86))⟩,
   ⟨(some 88), none, (.pick (.t 81) (.c (.bool true)) (.t 87))⟩,
   ⟨(some 89), none, (.mv (.t 88))⟩,
   ⟨(some 90), (some (89, false)), (.mv (.t 7))⟩,
   ⟨(some 91), (some (89, false)), (.cut 3 (.t 90) (some (.c (.int .i64 2))) none none)⟩,
   ⟨(some 92), (some (89, false)), (.mv (.t 8))⟩,
   ⟨(some 93), (some (89, false)), (.call 10 [(.t 91), (.t 92)])⟩,
   ⟨(some 94), (some (89, false)), (.un .not (.t 93))⟩,
   ⟨(some 95), none, (.pick (.t 89) (.c (.bool true)) (.t 94))⟩])
 (.cond (.t 95)
 (.seq
 (.reg [⟨(some 0), none, (.mv (.c (.bool false)))⟩]) .ret) .skip)))
 (.reg [⟨(some 57), none, (.mv (.t 8))⟩,
   ⟨(some 58), none, (.bin .add .num (.t 57) (.c (.int .u64 1)))⟩,
   ⟨(some 8), none, (.mv (.t 58))⟩])))
def af3_l1 : AC :=
 (.seq
 (.seq
 (.reg [⟨(some 19), none, (.mv (.t 3))⟩,
   ⟨(some 20), none, (.bin .lss .num (.t 19) (.c (.int .u64 40)))⟩])
 (.cond (.t 20) .skip (.exit 2)))
 (.seq
 (.block 3
 (.seq
 (.reg [⟨(some 23), none, (.mv (.t 2))⟩,
   ⟨(some 24), none, (.mv (.t 3))⟩,
   ⟨(some 25), none, (.call 10 [(.t 23), (.t 24)])⟩,
   ⟨(some 26), none, (.un .not (.t 25))⟩,
   ⟨(some 27), none, (.mv (.t 26))⟩,
   ⟨(some 28), (some (27, false)), (.mv (.t 2))⟩,
   ⟨(some 29), (some (27, false)), (.mv (.t 2))⟩,
   ⟨(some 30), (some (27, false)), (.append 3 24 (.t 28) (.t 29))⟩,
   ⟨(some 31), (some (27, false)), (.mv (.t 3))⟩,
   ⟨(some 32), (some (27, false)), (.bin .mul .num (.t 31) (.c (.int .u64 1000)))⟩,
   ⟨(some 33), (some (27, false)), (.call 10 [(.t 30), (.t 32)])⟩,
   ⟨(some 34), (some (27, false)), (.un .not (.t 33))⟩,
   ⟨(some 35), none, (.pick (.t 27) (.c (.bool true)) (.t 34))⟩])
 (.cond (.t 35)
 (.seq
 (.reg [⟨(some 0), none, (.mv (.c (.bool false)))⟩]) .ret) .skip)))
 (.reg [⟨(some 21), none, (.mv (.t 3))⟩,
   ⟨(some 22), none, (.bin .add .num (.t 21) (.c (.int .u64 7)))⟩,
   ⟨(some 3), none, (.mv (.t 22))⟩])))
def af3_l2 : AC :=
 (.seq
 (.seq
 (.reg [⟨(some 9), none, (.mv (.t 1))⟩,
   ⟨(some 10), none, (.bin .lss .num (.t 9) (.c (.int .i64 60)))⟩])
 (.cond (.t 10) .skip (.exit 0)))
 (.seq
 (.block 1
 (.seq
 (.reg [⟨(some 13), none, (.mv (.t 1))⟩,
   ⟨(some 14), none, (.call 9 [(.t 13)])⟩,
   ⟨(some 15), none, (.mv (.t 1))⟩,
   ⟨(some 16), none, (.bin .rem .num (.t 15) (.c (.int .i64 9)))⟩,
   ⟨(some 17), none, (.bin .add .num (.c (.int .i64 1)) (.t 16))⟩,
   ⟨(some 18), none, (.call 8 [(.t 14), (.t 17)])⟩,
   ⟨(some 2), none, (.mv (.t 18))⟩])
 (.seq
 (.reg [⟨(some 3), none, (.mv (.c (.int .u64 0)))⟩])
 (.block 2
 (.loop af3_l1)))))
 (.reg [⟨(some 11), none, (.mv (.t 1))⟩,
   ⟨(some 12), none, (.bin .add .num (.t 11) (.c (.int .i64 1)))⟩,
   ⟨(some 1), none, (.mv (.t 12))⟩])))
/-- limelight/limelightlaw13.BoundNumbers -/
def af3 : AFunc := ⟨100, [(.tmp 0)],
 (.seq
 (.reg [⟨(some 0), none, (.mv (.c (.bool false)))⟩])
 (.seq
 (.seq
 (.reg [⟨(some 1), none, (.mv (.c (.int .i64 0)))⟩])
 (.block 0
 (.loop af3_l2)))
 (.seq
 (.reg [⟨(some 36), none, (.build [(.int .u32 0), (.int .u64 0), (.int .i64 0)] [(0, (1, (.c (.int .u32 1)))), (1, (1, (.c (.int .u64 800)))), (2, (1, (.c (.int .i64 10))))])⟩,
   ⟨(some 37), none, (.build [(.int .u32 0), (.int .u64 0), (.int .i64 0)] [(0, (1, (.c (.int .u32 2)))), (1, (1, (.c (.int .u64 1600)))), (2, (1, (.c (.int .i64 20))))])⟩,
   ⟨(some 38), none, (.build [(.int .u32 0), (.int .u64 0), (.int .i64 0)] [(0, (1, (.c (.int .u32 3)))), (1, (1, (.c (.int .u64 2400)))), (2, (1, (.c (.int .i64 30))))])⟩,
   ⟨(some 39), none, (.buildSlice 3 [(.int .u32 0), (.int .u64 0), (.int .i64 0)] 3 [(0, (3, (.t 36))), (3, (3, (.t 37))), (6, (3, (.t 38)))])⟩,
   ⟨(some 4), none, (.mv (.t 39))⟩])
 (.seq
 (.reg [⟨(some 40), none, (.build [(.int .u32 0), (.int .u64 0), (.int .i64 0)] [(0, (1, (.c (.int .u32 2)))), (1, (1, (.c (.int .u64 800)))), (2, (1, (.c (.int .i64 10))))])⟩,
   ⟨(some 41), none, (.build [(.int .u32 0), (.int .u64 0), (.int .i64 0)] [(0, (1, (.c (.int .u32 1)))), (1, (1, (.c (.int .u64 800)))), (2, (1, (.c (.int .i64 10))))])⟩,
   ⟨(some 42), none, (.build [(.int .u32 0), (.int .u64 0), (.int .i64 0)] [(0, (1, (.c (.int .u32 0)))), (1, (1, (.c (.int .u64 800)))), (2, (1, (.c (.int .i64 9))))])⟩,
   ⟨(some 43), none, (.build [(.int .u32 0), (.int .u64 0), (.int .i64 0)] [(0, (1, (.c (.int .u32 3)))), (1, (1, (.c (.int .u64 900)))), (2, (1, (.c (.int .i64 10))))])⟩,
   ⟨(some 44), none, (.buildSlice 3 [(.int .u32 0), (.int .u64 0), (.int .i64 0)] 4 [(0, (3, (.t 40))), (3, (3, (.t 41))), (6, (3, (.t 42))), (9, (3, (.t 43)))])⟩,
   ⟨(some 5), none, (.mv (.t 44))⟩])
 (.seq
 (.reg [⟨(some 45), none, (.build [(.int .u32 0), (.int .u64 0), (.int .i64 0)] [(0, (1, (.c (.int .u32 1)))), (1, (1, (.c (.int .u64 800)))), (2, (1, (.c (.int .i64 1))))])⟩,
   ⟨(some 46), none, (.build [(.int .u32 0), (.int .u64 0), (.int .i64 0)] [(0, (1, (.c (.int .u32 2)))), (1, (1, (.c (.int .u64 880)))), (2, (1, (.c (.int .i64 11))))])⟩,
   ⟨(some 47), none, (.build [(.int .u32 0), (.int .u64 0), (.int .i64 0)] [(0, (1, (.c (.int .u32 3)))), (1, (1, (.c (.int .u64 960)))), (2, (1, (.c (.int .i64 21))))])⟩,
   ⟨(some 48), none, (.build [(.int .u32 0), (.int .u64 0), (.int .i64 0)] [(0, (1, (.c (.int .u32 4)))), (1, (1, (.c (.int .u64 960)))), (2, (1, (.c (.int .i64 31))))])⟩,
   ⟨(some 49), none, (.buildSlice 3 [(.int .u32 0), (.int .u64 0), (.int .i64 0)] 4 [(0, (3, (.t 45))), (3, (3, (.t 46))), (6, (3, (.t 47))), (9, (3, (.t 48)))])⟩,
   ⟨(some 6), none, (.mv (.t 49))⟩])
 (.seq
 (.reg [⟨(some 50), none, (.build [(.int .u32 0), (.int .u64 0), (.int .i64 0)] [(0, (1, (.c (.int .u32 1)))), (1, (1, (.c (.int .u64 18446744073709551615)))), (2, (1, (.c (.int .i64 600))))])⟩,
   ⟨(some 51), none, (.build [(.int .u32 0), (.int .u64 0), (.int .i64 0)] [(0, (1, (.c (.int .u32 2)))), (1, (1, (.c (.int .u64 2199023255552)))), (2, (1, (.c (.int .i64 (-5)))))])⟩,
   ⟨(some 52), none, (.build [(.int .u32 0), (.int .u64 0), (.int .i64 0)] [(0, (1, (.c (.int .u32 3)))), (1, (1, (.c (.int .u64 0)))), (2, (1, (.c (.int .i64 0))))])⟩,
   ⟨(some 53), none, (.build [(.int .u32 0), (.int .u64 0), (.int .i64 0)] [(0, (1, (.c (.int .u32 4)))), (1, (1, (.c (.int .u64 0)))), (2, (1, (.c (.int .i64 511))))])⟩,
   ⟨(some 54), none, (.buildSlice 3 [(.int .u32 0), (.int .u64 0), (.int .i64 0)] 4 [(0, (3, (.t 50))), (3, (3, (.t 51))), (6, (3, (.t 52))), (9, (3, (.t 53)))])⟩,
   ⟨(some 7), none, (.mv (.t 54))⟩])
 (.seq
 (.seq
 (.reg [⟨(some 8), none, (.mv (.c (.int .u64 0)))⟩])
 (.block 4
 (.loop af3_l0)))
 (.seq
 (.reg [⟨(some 96), none, (.call 10 [(.c (.slice none 0 0 none)), (.c (.int .u64 18446744073709551615))])⟩,
   ⟨(some 97), none, (.mv (.t 96))⟩,
   ⟨(some 98), (some (97, true)), (.call 11 [])⟩,
   ⟨(some 99), none, (.pick (.t 97) (.t 98) (.c (.bool false)))⟩,
   ⟨(some 0), none, (.mv (.t 99))⟩]) .ret))))))))⟩
theorem caf3 : cFunc Try.prog Try.f3 = some af3 := by kernel_rfl
def af4_l0 : AC :=
 (.seq
 (.reg [⟨(some 25), none, (.bin .lss .num (.t 24) (.t 23))⟩])
 (.seq
 (.cond (.t 25) .skip (.exit 0))
 (.seq
 (.block 1
 (.seq
 (.reg [⟨(some 26), none, (.mv (.t 24))⟩,
   ⟨(some 11), none, (.mv (.t 26))⟩])
 (.dreg [⟨(some 27), none, (.mv (.t 10))⟩,
   ⟨(some 28), none, (.mv (.t 2))⟩,
   ⟨(some 29), none, (.mv (.t 11))⟩,
   ⟨(some 30), none, (.ixSlice 3 (.t 28) (.t 29))⟩,
   ⟨(some 31), none, (.fieldAddr 0 1 (.t 30))⟩,
   ⟨(some 32), none, (.load1 (.t 31))⟩,
   ⟨(some 33), none, (.bin .and .num (.t 32) (.c (.int .u32 7)))⟩,
   ⟨(some 34), none, (.mv (.t 2))⟩,
   ⟨(some 35), none, (.mv (.t 11))⟩,
   ⟨(some 36), none, (.ixSlice 3 (.t 34) (.t 35))⟩,
   ⟨(some 37), none, (.fieldAddr 1 1 (.t 36))⟩,
   ⟨(some 38), none, (.load1 (.t 37))⟩,
   ⟨(some 39), none, (.bin .and .num (.t 38) (.c (.int .u64 4095)))⟩,
   ⟨(some 40), none, (.mv (.t 2))⟩,
   ⟨(some 41), none, (.mv (.t 11))⟩,
   ⟨(some 42), none, (.ixSlice 3 (.t 40) (.t 41))⟩,
   ⟨(some 43), none, (.fieldAddr 2 1 (.t 42))⟩,
   ⟨(some 44), none, (.load1 (.t 43))⟩,
   ⟨(some 45), none, (.bin .and .num (.t 44) (.c (.int .i64 63)))⟩,
   ⟨(some 46), none, (.build [(.int .u32 0), (.int .u64 0), (.int .i64 0)] [(0, (1, (.t 33))), (1, (1, (.t 39))), (2, (1, (.t 45)))])⟩,
   ⟨(some 47), none, (.buildSlice 3 [(.int .u32 0), (.int .u64 0), (.int .i64 0)] 1 [(0, (3, (.t 46)))])⟩,
   ⟨(some 48), none, (.append 3 24 (.t 27) (.t 47))⟩,
   ⟨(some 10), none, (.mv (.t 48))⟩] [])))
 (.reg [⟨(some 49), none, (.bin .add .num (.t 24) (.c (.int .i64 1)))⟩,
   ⟨(some 24), none, (.mv (.t 49))⟩]))))
/-- limelight/limelightlaw13.BoundTells -/
def af4 : AFunc := ⟨76, [(.tmp 8)],
 (.seq
 (.reg [⟨(some 8), none, (.mv (.c (.bool false)))⟩])
 (.seq
 (.reg [⟨(some 12), none, (.mv (.t 0))⟩,
   ⟨(some 13), none, (.mv (.t 1))⟩,
   ⟨(some 14), none, (.bin .and .num (.t 13) (.c (.int .i64 7)))⟩,
   ⟨(some 15), none, (.bin .add .num (.c (.int .i64 1)) (.t 14))⟩,
   ⟨(some 16), none, (.call 8 [(.t 12), (.t 15)])⟩,
   ⟨(some 9), none, (.mv (.t 16))⟩])
 (.seq
 (.seq
 (.reg [⟨(some 17), none, (.mv (.t 2))⟩,
   ⟨(some 18), none, (.len (.t 17))⟩,
   ⟨(some 19), none, (.bin .gtr .num (.t 18) (.c (.int .i64 30)))⟩])
 (.cond (.t 19)
 (.reg [⟨(some 20), none, (.mv (.t 2))⟩,
   ⟨(some 21), none, (.cut 3 (.t 20) none (some (.c (.int .i64 30))) none)⟩,
   ⟨(some 2), none, (.mv (.t 21))⟩]) .skip))
 (.seq
 (.reg [⟨(some 10), none, (.mv (.c (.slice none 0 0 none)))⟩])
 (.seq
 (.seq
 (.reg [⟨(some 22), none, (.mv (.t 2))⟩,
   ⟨(some 23), none, (.len (.t 22))⟩,
   ⟨(some 24), none, (.mv (.c (.int .i64 0)))⟩])
 (.block 0
 (.loop af4_l0)))
 (.seq
 (.reg [⟨(some 50), none, (.mv (.t 9))⟩,
   ⟨(some 51), none, (.mv (.t 3))⟩,
   ⟨(some 52), none, (.bin .and .num (.t 51) (.c (.int .u64 65535)))⟩,
   ⟨(some 53), none, (.call 10 [(.t 50), (.t 52)])⟩,
   ⟨(some 54), none, (.mv (.t 53))⟩,
   ⟨(some 55), (some (54, true)), (.mv (.t 2))⟩,
   ⟨(some 56), (some (54, true)), (.mv (.t 3))⟩,
   ⟨(some 57), (some (54, true)), (.call 10 [(.t 55), (.t 56)])⟩,
   ⟨(some 58), none, (.pick (.t 54) (.t 57) (.c (.bool false)))⟩,
   ⟨(some 59), none, (.mv (.t 58))⟩,
   ⟨(some 60), (some (59, true)), (.mv (.t 10))⟩,
   ⟨(some 61), (some (59, true)), (.mv (.t 3))⟩,
   ⟨(some 62), (some (59, true)), (.bin .and .num (.t 61) (.c (.int .u64 63)))⟩,
   ⟨(some 63), (some (59, true)), (.call 10 [(.t 60), (.t 62)])⟩,
   ⟨(some 64), none, (.pick (.t 59) (.t 63) (.c (.bool false)))⟩,
   ⟨(some 65), none, (.mv (.t 64))⟩,
   ⟨(some 66), (some (65, true)), (.mv (.t 9))⟩,
   ⟨(some 67), (some (65, true)), (.mv (.t 10))⟩,
   ⟨(some 68), (some (65, true)), (.append 3 24 (.t 66) (.t 67))⟩,
   ⟨(some 69), (some (65, true)), (.mv (.t 3))⟩,
   ⟨(some 70), (some (65, true)), (.bin .and .num (.t 69) (.c (.int .u64 1023)))⟩,
   ⟨(some 71), (some (65, true)), (.call 10 [(.t 68), (.t 70)])⟩,
   ⟨(some 72), none, (.pick (.t 65) (.t 71) (.c (.bool false)))⟩,
   ⟨(some 73), none, (.mv (.t 72))⟩,
   ⟨(some 74), (some (73, true)), (.call 11 [])⟩,
   ⟨(some 75), none, (.pick (.t 73) (.t 74) (.c (.bool false)))⟩,
   ⟨(some 8), none, (.mv (.t 75))⟩]) .ret))))))⟩
theorem caf4 : cFunc Try.prog Try.f4 = some af4 := by kernel_rfl
def af5_l0 : AC :=
 (.seq
 (.reg [⟨(some 65), none, (.bin .lss .num (.t 64) (.t 63))⟩])
 (.seq
 (.cond (.t 65) .skip (.exit 2))
 (.seq
 (.block 3
 (.seq
 (.reg [⟨(some 66), none, (.mv (.t 64))⟩,
   ⟨(some 13), none, (.mv (.t 66))⟩])
 (.seq
 (.dreg [⟨(some 67), none, (.mv (.t 13))⟩,
   ⟨(some 68), none, (.bin .gtr .num (.t 67) (.c (.int .i64 0)))⟩,
   ⟨(some 69), none, (.mv (.t 68))⟩,
   ⟨(some 70), (some (69, true)), (.mv (.t 10))⟩,
   ⟨(some 71), (some (69, true)), (.mv (.t 13))⟩,
   ⟨(some 72), (some (69, true)), (.ixSlice 3 (.t 70) (.t 71))⟩,
   ⟨(some 73), (some (69, true)), (.fieldAddr 2 1 (.t 72))⟩,
   ⟨(some 74), (some (69, true)), (.load1 (.t 73))⟩,
   ⟨(some 75), (some (69, true)), (.mv (.t 10))⟩,
   ⟨(some 76), (some (69, true)), (.mv (.t 13))⟩,
   ⟨(some 77), (some (69, true)), (.bin .sub .num (.t 76) (.c (.int .i64 1)))⟩,
   ⟨(some 78), (some (69, true)), (.ixSlice 3 (.t 75) (.t 77))⟩,
   ⟨(some 79), (some (69, true)), (.fieldAddr 2 1 (.t 78))⟩,
   ⟨(some 80), (some (69, true)), (.load1 (.t 79))⟩,
   ⟨(some 81), (some (69, true)), (.bin .leq .num (.t 74) (.t 80))⟩,
   ⟨(some 82), (some (69, true)), (.mv (.t 81))⟩,
   ⟨(some 83), (some (82, false)), (.mv (.t 10))⟩,
   ⟨(some 84), (some (82, false)), (.mv (.t 13))⟩,
   ⟨(some 85), (some (82, false)), (.ixSlice 3 (.t 83) (.t 84))⟩,
   ⟨(some 86), (some (82, false)), (.fieldAddr 1 1 (.t 85))⟩,
   ⟨(some 87), (some (82, false)), (.load1 (.t 86))⟩,
   ⟨(some 88), (some (82, false)), (.mv (.t 10))⟩,
   ⟨(some 89), (some (82, false)), (.mv (.t 13))⟩,
   ⟨(some 90), (some (82, false)), (.bin .sub .num (.t 89) (.c (.int .i64 1)))⟩,
   ⟨(some 91), (some (82, false)), (.ixSlice 3 (.t 88) (.t 90))⟩,
   ⟨(some 92), (some (82, false)), (.fieldAddr 1 1 (.t 91))⟩,
   ⟨(some 93), (some (82, false)), (.load1 (.t 92))⟩,
   ⟨(some 94), (some (82, false)), (.bin .lss .num (.t 87) (.t 93))⟩,
   ⟨(some 95), (some (69, true)), (.pick (.t 82) (.c (.bool true)) (.t 94))⟩,
   ⟨(some 96), none, (.pick (.t 69) (.t 95) (.c (.bool false)))⟩] [])
 (.cond (.t 96)
 (.seq
 (.reg [⟨(some 8), none, (.mv (.c (.bool false)))⟩]) .ret) .skip))))
 (.reg [⟨(some 97), none, (.bin .add .num (.t 64) (.c (.int .i64 1)))⟩,
   ⟨(some 64), none, (.mv (.t 97))⟩]))))
def af5_l1 : AC :=
 (.seq
 (.seq
 (.reg [⟨(some 40), none, (.mv (.t 11))⟩,
   ⟨(some 41), none, (.mv (.t 3))⟩,
   ⟨(some 42), none, (.len (.t 41))⟩,
   ⟨(some 43), none, (.bin .lss .num (.t 40) (.t 42))⟩,
   ⟨(some 44), none, (.mv (.t 43))⟩,
   ⟨(some 45), (some (44, true)), (.mv (.t 11))⟩,
   ⟨(some 46), (some (44, true)), (.bin .lss .num (.t 45) (.c (.int .i64 20)))⟩,
   ⟨(some 47), none, (.pick (.t 44) (.t 46) (.c (.bool false)))⟩])
 (.cond (.t 47) .skip (.exit 0)))
 (.seq
 (.block 1
 (.seq
 (.reg [⟨(some 50), none, (.mv (.t 3))⟩,
   ⟨(some 51), none, (.mv (.t 11))⟩,
   ⟨(some 52), none, (.ixSlice 1 (.t 50) (.t 51))⟩,
   ⟨(some 53), none, (.load1 (.t 52))⟩,
   ⟨(some 54), none, (.bin .and .num (.t 53) (.c (.int .u64 65535)))⟩,
   ⟨(some 12), none, (.mv (.t 54))⟩])
 (.seq
 (.reg [⟨(some 55), none, (.mv (.t 10))⟩,
   ⟨(some 56), none, (.mv (.t 12))⟩,
   ⟨(some 57), none, (.call 13 [(.t 55), (.t 56)])⟩,
   ⟨(some 58), none, (.mv (.t 9))⟩,
   ⟨(some 59), none, (.mv (.t 12))⟩,
   ⟨(some 60), none, (.call 13 [(.t 58), (.t 59)])⟩,
   ⟨(some 61), none, (.bin .neq .num (.t 57) (.t 60))⟩])
 (.cond (.t 61)
 (.seq
 (.reg [⟨(some 8), none, (.mv (.c (.bool false)))⟩]) .ret) .skip))))
 (.reg [⟨(some 48), none, (.mv (.t 11))⟩,
   ⟨(some 49), none, (.bin .add .num (.t 48) (.c (.int .i64 1)))⟩,
   ⟨(some 11), none, (.mv (.t 49))⟩])))
/-- limelight/limelightlaw13.BoundHolds -/
def af5 : AFunc := ⟨105, [(.tmp 8)],
 (.seq
 (.reg [⟨(some 8), none, (.mv (.c (.bool false)))⟩])
 (.seq
 (.reg [⟨(some 14), none, (.mv (.t 0))⟩,
   ⟨(some 15), none, (.mv (.t 1))⟩,
   ⟨(some 16), none, (.bin .and .num (.t 15) (.c (.int .i64 7)))⟩,
   ⟨(some 17), none, (.bin .add .num (.c (.int .i64 1)) (.t 16))⟩,
   ⟨(some 18), none, (.call 8 [(.t 14), (.t 17)])⟩,
   ⟨(some 9), none, (.mv (.t 18))⟩])
 (.seq
 (.reg [⟨(some 19), none, (.mv (.t 9))⟩,
   ⟨(some 20), none, (.call 12 [(.t 19)])⟩,
   ⟨(some 10), none, (.mv (.t 20))⟩])
 (.seq
 (.seq
 (.reg [⟨(some 21), none, (.mv (.t 10))⟩,
   ⟨(some 22), none, (.len (.t 21))⟩,
   ⟨(some 23), none, (.bin .eql .num (.t 22) (.c (.int .i64 0)))⟩,
   ⟨(some 24), none, (.mv (.t 23))⟩,
   ⟨(some 25), (some (24, false)), (.mv (.t 10))⟩,
   ⟨(some 26), (some (24, false)), (.len (.t 25))⟩,
   ⟨(some 27), (some (24, false)), (.mv (.t 9))⟩,
   ⟨(some 28), (some (24, false)), (.len (.t 27))⟩,
   ⟨(some 29), (some (24, false)), (.bin .gtr .num (.t 26) (.t 28))⟩,
   ⟨(some 30), none, (.pick (.t 24) (.c (.bool true)) (.t 29))⟩,
   ⟨(some 31), none, (.mv (.t 30))⟩,
   ⟨(some 32), (some (31, false)), (.mv (.t 10))⟩,
   ⟨(some 33), (some (31, false)), (.mv (.t 2))⟩,
   ⟨(some 34), (some (31, false)), (.call 13 [(.t 32), (.t 33)])⟩,
   ⟨(some 35), (some (31, false)), (.mv (.t 9))⟩,
   ⟨(some 36), (some (31, false)), (.mv (.t 2))⟩,
   ⟨(some 37), (some (31, false)), (.call 13 [(.t 35), (.t 36)])⟩,
   ⟨(some 38), (some (31, false)), (.bin .neq .num (.t 34) (.t 37))⟩,
   ⟨(some 39), none, (.pick (.t 31) (.c (.bool true)) (.t 38))⟩])
 (.cond (.t 39)
 (.seq
 (.reg [⟨(some 8), none, (.mv (.c (.bool false)))⟩]) .ret) .skip))
 (.seq
 (.seq
 (.reg [⟨(some 11), none, (.mv (.c (.int .i64 0)))⟩])
 (.block 0
 (.loop af5_l1)))
 (.seq
 (.seq
 (.reg [⟨(some 62), none, (.mv (.t 10))⟩,
   ⟨(some 63), none, (.len (.t 62))⟩,
   ⟨(some 64), none, (.mv (.c (.int .i64 0)))⟩])
 (.block 2
 (.loop af5_l0)))
 (.seq
 (.reg [⟨(some 98), none, (.mv (.t 10))⟩,
   ⟨(some 99), none, (.call 12 [(.t 98)])⟩,
   ⟨(some 100), none, (.mv (.t 10))⟩,
   ⟨(some 101), none, (.call 14 [(.t 99), (.t 100)])⟩,
   ⟨(some 102), none, (.mv (.t 101))⟩,
   ⟨(some 103), (some (102, true)), (.call 11 [])⟩,
   ⟨(some 104), none, (.pick (.t 102) (.t 103) (.c (.bool false)))⟩,
   ⟨(some 8), none, (.mv (.t 104))⟩]) .ret)))))))⟩
theorem caf5 : cFunc Try.prog Try.f5 = some af5 := by kernel_rfl
/-- limelight/limelightlaw13.BoundMore -/
def af6 : AFunc := ⟨56, [(.tmp 6)],
 (.seq
 (.reg [⟨(some 6), none, (.mv (.c (.bool false)))⟩])
 (.seq
 (.reg [⟨(some 11), none, (.mv (.t 0))⟩,
   ⟨(some 12), none, (.mv (.t 1))⟩,
   ⟨(some 13), none, (.bin .and .num (.t 12) (.c (.int .i64 7)))⟩,
   ⟨(some 14), none, (.bin .add .num (.c (.int .i64 1)) (.t 13))⟩,
   ⟨(some 15), none, (.call 8 [(.t 11), (.t 14)])⟩,
   ⟨(some 7), none, (.mv (.t 15))⟩])
 (.seq
 (.reg [⟨(some 16), none, (.mv (.t 0))⟩,
   ⟨(some 17), none, (.build [(.slice none 0 0 none), (.int .i64 0)] [(0, (1, (.t 16)))])⟩,
   ⟨(some 18), none, (.box (.t 17))⟩,
   ⟨(some 19), none, (.call 15 [(.t 18)])⟩,
   ⟨(some 8), none, (.alloc [(.int .u32 0), (.int .u64 0), (.int .i64 0)])⟩,
   ⟨none, none, (.store 3 (.t 8) (.t 19))⟩])
 (.seq
 (.reg [⟨(some 20), none, (.mv (.t 7))⟩,
   ⟨(some 21), none, (.ixSlice 3 (.t 20) (.c (.int .i64 0)))⟩,
   ⟨(some 22), none, (.loadN 3 (.t 21))⟩,
   ⟨(some 9), none, (.alloc [(.int .u32 0), (.int .u64 0), (.int .i64 0)])⟩,
   ⟨none, none, (.store 3 (.t 9) (.t 22))⟩])
 (.seq
 (.reg [⟨(some 23), none, (.fieldAddr 1 1 (.t 9))⟩,
   ⟨(some 24), none, (.load1 (.t 23))⟩,
   ⟨(some 25), none, (.bin .add .num (.t 24) (.c (.int .u64 5)))⟩,
   ⟨(some 26), none, (.fieldAddr 0 1 (.t 9))⟩,
   ⟨(some 27), none, (.load1 (.t 26))⟩,
   ⟨(some 28), none, (.bin .add .num (.t 27) (.c (.int .u32 100)))⟩,
   ⟨(some 29), none, (.fieldAddr 1 1 (.t 9))⟩,
   ⟨none, none, (.store 1 (.t 29) (.t 25))⟩,
   ⟨(some 30), none, (.fieldAddr 0 1 (.t 9))⟩,
   ⟨none, none, (.store 1 (.t 30) (.t 28))⟩])
 (.seq
 (.reg [⟨(some 31), none, (.mv (.t 2))⟩,
   ⟨(some 32), none, (.bin .and .num (.t 31) (.c (.int .u64 65535)))⟩,
   ⟨(some 10), none, (.mv (.t 32))⟩])
 (.seq
 (.reg [⟨(some 33), none, (.loadN 3 (.t 8))⟩,
   ⟨(some 34), none, (.buildSlice 3 [(.int .u32 0), (.int .u64 0), (.int .i64 0)] 1 [(0, (3, (.t 33)))])⟩,
   ⟨(some 35), none, (.mv (.t 7))⟩,
   ⟨(some 36), none, (.append 3 24 (.t 34) (.t 35))⟩,
   ⟨(some 37), none, (.mv (.t 10))⟩,
   ⟨(some 38), none, (.call 13 [(.t 36), (.t 37)])⟩,
   ⟨(some 39), none, (.mv (.t 7))⟩,
   ⟨(some 40), none, (.mv (.t 10))⟩,
   ⟨(some 41), none, (.call 13 [(.t 39), (.t 40)])⟩,
   ⟨(some 42), none, (.bin .leq .num (.t 38) (.t 41))⟩,
   ⟨(some 43), none, (.mv (.t 42))⟩,
   ⟨(some 44), (some (43, true)), (.loadN 3 (.t 9))⟩,
   ⟨(some 45), (some (43, true)), (.buildSlice 3 [(.int .u32 0), (.int .u64 0), (.int .i64 0)] 1 [(0, (3, (.t 44)))])⟩,
   ⟨(some 46), (some (43, true)), (.mv (.t 7))⟩,
   ⟨(some 47), (some (43, true)), (.append 3 24 (.t 45) (.t 46))⟩,
   ⟨(some 48), (some (43, true)), (.call 12 [(.t 47)])⟩,
   ⟨(some 49), (some (43, true)), (.mv (.t 7))⟩,
   ⟨(some 50), (some (43, true)), (.call 12 [(.t 49)])⟩,
   ⟨(some 51), (some (43, true)), (.call 14 [(.t 48), (.t 50)])⟩,
   ⟨(some 52), none, (.pick (.t 43) (.t 51) (.c (.bool false)))⟩,
   ⟨(some 53), none, (.mv (.t 52))⟩,
   ⟨(some 54), (some (53, true)), (.call 11 [])⟩,
   ⟨(some 55), none, (.pick (.t 53) (.t 54) (.c (.bool false)))⟩,
   ⟨(some 6), none, (.mv (.t 55))⟩]) .ret)))))))⟩
theorem caf6 : cFunc Try.prog Try.f6 = some af6 := by kernel_rfl
def af7_l0 : AC :=
 (.seq
 (.reg [⟨(some 23), none, (.bin .lss .num (.t 22) (.t 21))⟩])
 (.seq
 (.cond (.t 23) .skip (.exit 0))
 (.seq
 (.block 1
 (.seq
 (.reg [⟨(some 24), none, (.mv (.t 22))⟩,
   ⟨(some 8), none, (.mv (.t 24))⟩])
 (.reg [⟨(some 25), none, (.mv (.t 7))⟩,
   ⟨(some 26), none, (.mv (.t 8))⟩,
   ⟨(some 27), none, (.mv (.t 8))⟩,
   ⟨(some 28), none, (.conv (.int .u32) (.t 27))⟩,
   ⟨(some 29), none, (.ixSlice 3 (.t 25) (.t 26))⟩,
   ⟨(some 30), none, (.fieldAddr 0 1 (.t 29))⟩,
   ⟨none, none, (.store 1 (.t 30) (.t 28))⟩])))
 (.reg [⟨(some 31), none, (.bin .add .num (.t 22) (.c (.int .i64 1)))⟩,
   ⟨(some 22), none, (.mv (.t 31))⟩]))))
/-- limelight/limelightlaw13.BoundTurned -/
def af7 : AFunc := ⟨89, [(.tmp 6)],
 (.seq
 (.reg [⟨(some 6), none, (.mv (.c (.bool false)))⟩])
 (.seq
 (.reg [⟨(some 15), none, (.mv (.t 0))⟩,
   ⟨(some 16), none, (.mv (.t 1))⟩,
   ⟨(some 17), none, (.bin .and .num (.t 16) (.c (.int .i64 7)))⟩,
   ⟨(some 18), none, (.bin .add .num (.c (.int .i64 2)) (.t 17))⟩,
   ⟨(some 19), none, (.call 8 [(.t 15), (.t 18)])⟩,
   ⟨(some 7), none, (.mv (.t 19))⟩])
 (.seq
 (.seq
 (.reg [⟨(some 20), none, (.mv (.t 7))⟩,
   ⟨(some 21), none, (.len (.t 20))⟩,
   ⟨(some 22), none, (.mv (.c (.int .i64 0)))⟩])
 (.block 0
 (.loop af7_l0)))
 (.seq
 (.reg [⟨(some 32), none, (.mv (.t 2))⟩,
   ⟨(some 33), none, (.mv (.t 7))⟩,
   ⟨(some 34), none, (.len (.t 33))⟩,
   ⟨(some 35), none, (.bin .rem .num (.t 32) (.t 34))⟩,
   ⟨(some 36), none, (.mv (.t 7))⟩,
   ⟨(some 37), none, (.len (.t 36))⟩,
   ⟨(some 38), none, (.bin .add .num (.t 35) (.t 37))⟩,
   ⟨(some 39), none, (.mv (.t 7))⟩,
   ⟨(some 40), none, (.len (.t 39))⟩,
   ⟨(some 41), none, (.bin .rem .num (.t 38) (.t 40))⟩,
   ⟨(some 9), none, (.mv (.t 41))⟩])
 (.seq
 (.dreg [⟨(some 42), none, (.buildSlice 3 [(.int .u32 0), (.int .u64 0), (.int .i64 0)] 0 [])⟩,
   ⟨(some 43), none, (.mv (.t 7))⟩,
   ⟨(some 44), none, (.mv (.t 9))⟩,
   ⟨(some 45), none, (.cut 3 (.t 43) (some (.t 44)) none none)⟩,
   ⟨(some 46), none, (.append 3 24 (.t 42) (.t 45))⟩,
   ⟨(some 47), none, (.mv (.t 7))⟩,
   ⟨(some 48), none, (.mv (.t 9))⟩,
   ⟨(some 49), none, (.cut 3 (.t 47) none (some (.t 48)) none)⟩,
   ⟨(some 50), none, (.append 3 24 (.t 46) (.t 49))⟩,
   ⟨(some 10), none, (.mv (.t 50))⟩] [])
 (.seq
 (.reg [⟨(some 52), none, (.mv (.t 7))⟩,
   ⟨(some 53), none, (.call 16 [(.t 52)])⟩,
   ⟨(some 51), none, (.mv (.t 53))⟩,
   ⟨(some 54), none, (.extract 0 (.t 51))⟩,
   ⟨(some 55), none, (.extract 1 (.t 51))⟩,
   ⟨(some 11), none, (.mv (.t 54))⟩,
   ⟨(some 12), none, (.mv (.t 55))⟩])
 (.seq
 (.reg [⟨(some 57), none, (.mv (.t 10))⟩,
   ⟨(some 58), none, (.call 16 [(.t 57)])⟩,
   ⟨(some 56), none, (.mv (.t 58))⟩,
   ⟨(some 59), none, (.extract 0 (.t 56))⟩,
   ⟨(some 60), none, (.extract 1 (.t 56))⟩,
   ⟨(some 13), none, (.mv (.t 59))⟩,
   ⟨(some 14), none, (.mv (.t 60))⟩])
 (.seq
 (.reg [⟨(some 61), none, (.mv (.t 7))⟩,
   ⟨(some 62), none, (.call 12 [(.t 61)])⟩,
   ⟨(some 63), none, (.mv (.t 10))⟩,
   ⟨(some 64), none, (.call 12 [(.t 63)])⟩,
   ⟨(some 65), none, (.call 14 [(.t 62), (.t 64)])⟩,
   ⟨(some 66), none, (.mv (.t 65))⟩,
   ⟨(some 67), (some (66, true)), (.mv (.t 11))⟩,
   ⟨(some 68), (some (66, true)), (.mv (.t 13))⟩,
   ⟨(some 69), (some (66, true)), (.bin .eql .num (.t 67) (.t 68))⟩,
   ⟨(some 70), none, (.pick (.t 66) (.t 69) (.c (.bool false)))⟩,
   ⟨(some 71), none, (.mv (.t 70))⟩,
   ⟨(some 72), (some (71, true)), (.mv (.t 12))⟩,
   ⟨(some 73), none, (.pick (.t 71) (.t 72) (.c (.bool false)))⟩,
   ⟨(some 74), none, (.mv (.t 73))⟩,
   ⟨(some 75), (some (74, true)), (.mv (.t 14))⟩,
   ⟨(some 76), none, (.pick (.t 74) (.t 75) (.c (.bool false)))⟩,
   ⟨(some 77), none, (.mv (.t 76))⟩,
   ⟨(some 78), (some (77, true)), (.mv (.t 7))⟩,
   ⟨(some 79), (some (77, true)), (.call 12 [(.t 78)])⟩,
   ⟨(some 80), (some (77, true)), (.ixSlice 3 (.t 79) (.c (.int .i64 0)))⟩,
   ⟨(some 81), (some (77, true)), (.fieldAddr 1 1 (.t 80))⟩,
   ⟨(some 82), (some (77, true)), (.load1 (.t 81))⟩,
   ⟨(some 83), (some (77, true)), (.mv (.t 11))⟩,
   ⟨(some 84), (some (77, true)), (.bin .eql .num (.t 82) (.t 83))⟩,
   ⟨(some 85), none, (.pick (.t 77) (.t 84) (.c (.bool false)))⟩,
   ⟨(some 86), none, (.mv (.t 85))⟩,
   ⟨(some 87), (some (86, true)), (.call 11 [])⟩,
   ⟨(some 88), none, (.pick (.t 86) (.t 87) (.c (.bool false)))⟩,
   ⟨(some 6), none, (.mv (.t 88))⟩]) .ret))))))))⟩
theorem caf7 : cFunc Try.prog Try.f7 = some af7 := by kernel_rfl
def af8_l0 : AC :=
 (.seq
 (.seq
 (.reg [⟨(some 11), none, (.mv (.t 7))⟩,
   ⟨(some 12), none, (.mv (.t 1))⟩,
   ⟨(some 13), none, (.bin .lss .num (.t 11) (.t 12))⟩])
 (.cond (.t 13) .skip (.exit 0)))
 (.seq
 (.block 1
 (.reg [⟨(some 16), none, (.mv (.t 6))⟩,
   ⟨(some 17), none, (.mv (.t 5))⟩,
   ⟨(some 18), none, (.call 15 [(.t 17)])⟩,
   ⟨(some 19), none, (.buildSlice 3 [(.int .u32 0), (.int .u64 0), (.int .i64 0)] 1 [(0, (3, (.t 18)))])⟩,
   ⟨(some 20), none, (.append 3 24 (.t 16) (.t 19))⟩,
   ⟨(some 6), none, (.mv (.t 20))⟩]))
 (.reg [⟨(some 14), none, (.mv (.t 7))⟩,
   ⟨(some 15), none, (.bin .add .num (.t 14) (.c (.int .i64 1)))⟩,
   ⟨(some 7), none, (.mv (.t 15))⟩])))
/-- limelight/limelightlaw13.row -/
def af8 : AFunc := ⟨22, [(.tmp 4)],
 (.seq
 (.reg [⟨(some 4), none, (.mv (.c (.slice none 0 0 none)))⟩])
 (.seq
 (.reg [⟨(some 8), none, (.mv (.t 0))⟩,
   ⟨(some 9), none, (.build [(.slice none 0 0 none), (.int .i64 0)] [(0, (1, (.t 8)))])⟩,
   ⟨(some 10), none, (.box (.t 9))⟩,
   ⟨(some 5), none, (.mv (.t 10))⟩])
 (.seq
 (.reg [⟨(some 6), none, (.mv (.c (.slice none 0 0 none)))⟩])
 (.seq
 (.seq
 (.reg [⟨(some 7), none, (.mv (.c (.int .i64 0)))⟩])
 (.block 0
 (.loop af8_l0)))
 (.seq
 (.reg [⟨(some 21), none, (.mv (.t 6))⟩,
   ⟨(some 4), none, (.mv (.t 21))⟩]) .ret)))))⟩
theorem caf8 : cFunc Try.prog Try.f8 = some af8 := by kernel_rfl
def af9_l0 : AC :=
 (.seq
 (.seq
 (.reg [⟨(some 5), none, (.mv (.t 4))⟩,
   ⟨(some 6), none, (.bin .lss .num (.t 5) (.c (.int .i64 400)))⟩])
 (.cond (.t 6) .skip (.exit 0)))
 (.seq
 (.block 1
 (.reg [⟨(some 9), none, (.mv (.t 3))⟩,
   ⟨(some 10), none, (.mv (.t 4))⟩,
   ⟨(some 11), none, (.mv (.t 4))⟩,
   ⟨(some 12), none, (.bin .mul .num (.t 10) (.t 11))⟩,
   ⟨(some 13), none, (.bin .mul .num (.t 12) (.c (.int .i64 7)))⟩,
   ⟨(some 14), none, (.mv (.t 0))⟩,
   ⟨(some 15), none, (.bin .mul .num (.t 14) (.c (.int .i64 41)))⟩,
   ⟨(some 16), none, (.bin .add .num (.t 13) (.t 15))⟩,
   ⟨(some 17), none, (.mv (.t 4))⟩,
   ⟨(some 18), none, (.mv (.t 0))⟩,
   ⟨(some 19), none, (.bin .mul .num (.t 17) (.t 18))⟩,
   ⟨(some 20), none, (.bin .add .num (.t 16) (.t 19))⟩,
   ⟨(some 21), none, (.bin .rem .num (.t 20) (.c (.int .i64 211)))⟩,
   ⟨(some 22), none, (.buildSlice 1 [(.int .i64 0)] 1 [(0, (1, (.t 21)))])⟩,
   ⟨(some 23), none, (.append 1 8 (.t 9) (.t 22))⟩,
   ⟨(some 3), none, (.mv (.t 23))⟩]))
 (.reg [⟨(some 7), none, (.mv (.t 4))⟩,
   ⟨(some 8), none, (.bin .add .num (.t 7) (.c (.int .i64 1)))⟩,
   ⟨(some 4), none, (.mv (.t 8))⟩])))
/-- limelight/limelightlaw13.tape -/
def af9 : AFunc := ⟨25, [(.tmp 2)],
 (.seq
 (.reg [⟨(some 2), none, (.mv (.c (.slice none 0 0 none)))⟩])
 (.seq
 (.reg [⟨(some 3), none, (.mv (.c (.slice none 0 0 none)))⟩])
 (.seq
 (.seq
 (.reg [⟨(some 4), none, (.mv (.c (.int .i64 0)))⟩])
 (.block 0
 (.loop af9_l0)))
 (.seq
 (.reg [⟨(some 24), none, (.mv (.t 3))⟩,
   ⟨(some 2), none, (.mv (.t 24))⟩]) .ret))))⟩
theorem caf9 : cFunc Try.prog Try.f9 = some af9 := by kernel_rfl
def af10_l0 : AC :=
 (.seq
 (.reg [⟨(some 33), none, (.bin .lss .num (.t 32) (.t 31))⟩])
 (.seq
 (.cond (.t 33) .skip (.exit 2))
 (.seq
 (.block 3
 (.seq
 (.reg [⟨(some 34), none, (.ixSlice 3 (.t 30) (.t 32))⟩,
   ⟨(some 35), none, (.loadN 3 (.t 34))⟩,
   ⟨(some 13), none, (.alloc [(.int .u32 0), (.int .u64 0), (.int .i64 0)])⟩,
   ⟨none, none, (.store 3 (.t 13) (.t 35))⟩])
 (.reg [⟨(some 36), none, (.mv (.t 11))⟩,
   ⟨(some 37), none, (.mv (.t 36))⟩,
   ⟨(some 38), (some (37, false)), (.fieldAddr 0 1 (.t 13))⟩,
   ⟨(some 39), (some (37, false)), (.load1 (.t 38))⟩,
   ⟨(some 40), (some (37, false)), (.mv (.t 10))⟩,
   ⟨(some 41), (some (37, false)), (.bin .eql .num (.t 39) (.t 40))⟩,
   ⟨(some 42), none, (.pick (.t 37) (.c (.bool true)) (.t 41))⟩,
   ⟨(some 11), none, (.mv (.t 42))⟩])))
 (.reg [⟨(some 43), none, (.bin .add .num (.t 32) (.c (.int .i64 1)))⟩,
   ⟨(some 32), none, (.mv (.t 43))⟩]))))
def af10_l1 : AC :=
 (.seq
 (.seq
 (.reg [⟨(some 26), none, (.mv (.t 10))⟩,
   ⟨(some 27), none, (.bin .lss .num (.t 26) (.c (.int .u32 10)))⟩])
 (.cond (.t 27) .skip (.exit 0)))
 (.seq
 (.block 1
 (.seq
 (.reg [⟨(some 11), none, (.mv (.c (.bool false)))⟩])
 (.seq
 (.seq
 (.reg [⟨(some 30), none, (.mv (.t 5))⟩,
   ⟨(some 31), none, (.len (.t 30))⟩,
   ⟨(some 32), none, (.mv (.c (.int .i64 0)))⟩])
 (.block 2
 (.loop af10_l0)))
 (.seq
 (.reg [⟨(some 44), none, (.mv (.t 0))⟩,
   ⟨(some 45), none, (.mv (.t 10))⟩,
   ⟨(some 46), none, (.call 19 [(.t 44), (.t 45)])⟩,
   ⟨(some 47), none, (.mv (.t 11))⟩,
   ⟨(some 48), none, (.bin .neq .bool (.t 46) (.t 47))⟩])
 (.cond (.t 48)
 (.seq
 (.reg [⟨(some 4), none, (.mv (.c (.bool false)))⟩]) .ret) .skip)))))
 (.reg [⟨(some 28), none, (.mv (.t 10))⟩,
   ⟨(some 29), none, (.bin .add .num (.t 28) (.c (.int .u32 1)))⟩,
   ⟨(some 10), none, (.mv (.t 29))⟩])))
/-- limelight/limelightlaw13.same -/
def af10 : AFunc := ⟨72, [(.tmp 4)],
 (.seq
 (.reg [⟨(some 4), none, (.mv (.c (.bool false)))⟩])
 (.seq
 (.reg [⟨(some 14), none, (.mv (.t 0))⟩,
   ⟨(some 15), none, (.call 17 [(.t 14)])⟩,
   ⟨(some 5), none, (.mv (.t 15))⟩])
 (.seq
 (.reg [⟨(some 17), none, (.mv (.t 0))⟩,
   ⟨(some 18), none, (.call 16 [(.t 17)])⟩,
   ⟨(some 16), none, (.mv (.t 18))⟩,
   ⟨(some 19), none, (.extract 0 (.t 16))⟩,
   ⟨(some 20), none, (.extract 1 (.t 16))⟩,
   ⟨(some 6), none, (.mv (.t 19))⟩,
   ⟨(some 7), none, (.mv (.t 20))⟩])
 (.seq
 (.reg [⟨(some 22), none, (.mv (.t 0))⟩,
   ⟨(some 23), none, (.call 18 [(.t 22)])⟩,
   ⟨(some 21), none, (.mv (.t 23))⟩,
   ⟨(some 24), none, (.extract 0 (.t 21))⟩,
   ⟨(some 25), none, (.extract 1 (.t 21))⟩,
   ⟨(some 8), none, (.mv (.t 24))⟩,
   ⟨(some 9), none, (.mv (.t 25))⟩])
 (.seq
 (.seq
 (.reg [⟨(some 10), none, (.mv (.c (.int .u32 0)))⟩])
 (.block 0
 (.loop af10_l1)))
 (.seq
 (.reg [⟨(some 49), none, (.mv (.t 0))⟩,
   ⟨(some 50), none, (.call 12 [(.t 49)])⟩,
   ⟨(some 51), none, (.mv (.t 5))⟩,
   ⟨(some 52), none, (.call 14 [(.t 50), (.t 51)])⟩,
   ⟨(some 53), none, (.mv (.t 52))⟩,
   ⟨(some 54), (some (53, true)), (.mv (.t 6))⟩,
   ⟨(some 55), (some (53, true)), (.mv (.t 8))⟩,
   ⟨(some 56), (some (53, true)), (.bin .eql .num (.t 54) (.t 55))⟩,
   ⟨(some 57), none, (.pick (.t 53) (.t 56) (.c (.bool false)))⟩,
   ⟨(some 58), none, (.mv (.t 57))⟩,
   ⟨(some 59), (some (58, true)), (.mv (.t 7))⟩,
   ⟨(some 60), (some (58, true)), (.mv (.t 9))⟩,
   ⟨(some 61), (some (58, true)), (.bin .eql .bool (.t 59) (.t 60))⟩,
   ⟨(some 62), none, (.pick (.t 58) (.t 61) (.c (.bool false)))⟩,
   ⟨(some 63), none, (.mv (.t 62))⟩,
   ⟨(some 64), (some (63, true)), (.mv (.t 0))⟩,
   ⟨(some 65), (some (63, true)), (.mv (.t 1))⟩,
   ⟨(some 66), (some (63, true)), (.call 13 [(.t 64), (.t 65)])⟩,
   ⟨(some 67), (some (63, true)), (.mv (.t 0))⟩,
   ⟨(some 68), (some (63, true)), (.mv (.t 1))⟩,
   ⟨(some 69), (some (63, true)), (.call 20 [(.t 67), (.t 68)])⟩,
   ⟨(some 70), (some (63, true)), (.bin .eql .num (.t 66) (.t 69))⟩,
   ⟨(some 71), none, (.pick (.t 63) (.t 70) (.c (.bool false)))⟩,
   ⟨(some 4), none, (.mv (.t 71))⟩]) .ret))))))⟩
theorem caf10 : cFunc Try.prog Try.f10 = some af10 := by kernel_rfl
/-- limelight/limelightlaw13.known -/
def af11 : AFunc := ⟨78, [(.tmp 0)],
 (.seq
 (.reg [⟨(some 0), none, (.mv (.c (.bool false)))⟩])
 (.seq
 (.reg [⟨(some 7), none, (.build [(.int .u32 0), (.int .u64 0), (.int .i64 0)] [(0, (1, (.c (.int .u32 1)))), (1, (1, (.c (.int .u64 1000)))), (2, (1, (.c (.int .i64 10))))])⟩,
   ⟨(some 8), none, (.build [(.int .u32 0), (.int .u64 0), (.int .i64 0)] [(0, (1, (.c (.int .u32 2)))), (1, (1, (.c (.int .u64 1500)))), (2, (1, (.c (.int .i64 40))))])⟩,
   ⟨(some 9), none, (.build [(.int .u32 0), (.int .u64 0), (.int .i64 0)] [(0, (1, (.c (.int .u32 3)))), (1, (1, (.c (.int .u64 9000)))), (2, (1, (.c (.int .i64 20))))])⟩,
   ⟨(some 10), none, (.buildSlice 3 [(.int .u32 0), (.int .u64 0), (.int .i64 0)] 3 [(0, (3, (.t 7))), (3, (3, (.t 8))), (6, (3, (.t 9)))])⟩,
   ⟨(some 1), none, (.mv (.t 10))⟩])
 (.seq
 (.reg [⟨(some 11), none, (.mv (.t 1))⟩,
   ⟨(some 12), none, (.call 12 [(.t 11)])⟩,
   ⟨(some 2), none, (.mv (.t 12))⟩])
 (.seq
 (.reg [⟨(some 14), none, (.mv (.t 1))⟩,
   ⟨(some 15), none, (.call 16 [(.t 14)])⟩,
   ⟨(some 13), none, (.mv (.t 15))⟩,
   ⟨(some 16), none, (.extract 0 (.t 13))⟩,
   ⟨(some 17), none, (.extract 1 (.t 13))⟩,
   ⟨(some 3), none, (.mv (.t 16))⟩,
   ⟨(some 4), none, (.mv (.t 17))⟩])
 (.seq
 (.reg [⟨(some 19), none, (.call 16 [(.c (.slice none 0 0 none))])⟩,
   ⟨(some 18), none, (.mv (.t 19))⟩,
   ⟨(some 20), none, (.extract 0 (.t 18))⟩,
   ⟨(some 21), none, (.extract 1 (.t 18))⟩,
   ⟨(some 5), none, (.mv (.t 20))⟩,
   ⟨(some 6), none, (.mv (.t 21))⟩])
 (.seq
 (.reg [⟨(some 22), none, (.mv (.t 2))⟩,
   ⟨(some 23), none, (.len (.t 22))⟩,
   ⟨(some 24), none, (.bin .eql .num (.t 23) (.c (.int .i64 2)))⟩,
   ⟨(some 25), none, (.mv (.t 24))⟩,
   ⟨(some 26), (some (25, true)), (.mv (.t 2))⟩,
   ⟨(some 27), (some (25, true)), (.ixSlice 3 (.t 26) (.c (.int .i64 0)))⟩,
   ⟨(some 28), (some (25, true)), (.fieldAddr 0 1 (.t 27))⟩,
   ⟨(some 29), (some (25, true)), (.load1 (.t 28))⟩,
   ⟨(some 30), (some (25, true)), (.bin .eql .num (.t 29) (.c (.int .u32 1)))⟩,
   ⟨(some 31), none, (.pick (.t 25) (.t 30) (.c (.bool false)))⟩,
   ⟨(some 32), none, (.mv (.t 31))⟩,
   ⟨(some 33), (some (32, true)), (.mv (.t 2))⟩,
   ⟨(some 34), (some (32, true)), (.ixSlice 3 (.t 33) (.c (.int .i64 1)))⟩,
   ⟨(some 35), (some (32, true)), (.fieldAddr 0 1 (.t 34))⟩,
   ⟨(some 36), (some (32, true)), (.load1 (.t 35))⟩,
   ⟨(some 37), (some (32, true)), (.bin .eql .num (.t 36) (.c (.int .u32 2)))⟩,
   ⟨(some 38), none, (.pick (.t 32) (.t 37) (.c (.bool false)))⟩,
   ⟨(some 39), none, (.mv (.t 38))⟩,
   ⟨(some 40), (some (39, true)), (.mv (.t 3))⟩,
   ⟨(some 41), (some (39, true)), (.bin .eql .num (.t 40) (.c (.int .u64 1000)))⟩,
   ⟨(some 42), none, (.pick (.t 39) (.t 41) (.c (.bool false)))⟩,
   ⟨(some 43), none, (.mv (.t 42))⟩,
   ⟨(some 44), (some (43, true)), (.mv (.t 4))⟩,
   ⟨(some 45), none, (.pick (.t 43) (.t 44) (.c (.bool false)))⟩,
   ⟨(some 46), none, (.mv (.t 45))⟩,
   ⟨(some 47), (some (46, true)), (.mv (.t 6))⟩,
   ⟨(some 48), (some (46, true)), (.un .not (.t 47))⟩,
   ⟨(some 49), none, (.pick (.t 46) (.t 48) (.c (.bool false)))⟩,
   ⟨(some 50), none, (.mv (.t 49))⟩,
   ⟨(some 51), (some (50, true)), (.call 12 [(.c (.slice none 0 0 none))])⟩,
   ⟨(some 52), (some (50, true)), (.len (.t 51))⟩,
   ⟨(some 53), (some (50, true)), (.bin .eql .num (.t 52) (.c (.int .i64 0)))⟩,
   ⟨(some 54), none, (.pick (.t 50) (.t 53) (.c (.bool false)))⟩,
   ⟨(some 55), none, (.mv (.t 54))⟩,
   ⟨(some 56), (some (55, true)), (.call 13 [(.c (.slice none 0 0 none)), (.c (.int .u64 5))])⟩,
   ⟨(some 57), (some (55, true)), (.bin .eql .num (.t 56) (.c (.int .u64 18446744073709551615)))⟩,
   ⟨(some 58), none, (.pick (.t 55) (.t 57) (.c (.bool false)))⟩,
   ⟨(some 59), none, (.mv (.t 58))⟩,
   ⟨(some 60), (some (59, true)), (.mv (.t 1))⟩,
   ⟨(some 61), (some (59, true)), (.call 13 [(.t 60), (.c (.int .u64 0))])⟩,
   ⟨(some 62), (some (59, true)), (.bin .eql .num (.t 61) (.c (.int .u64 1000)))⟩,
   ⟨(some 63), none, (.pick (.t 59) (.t 62) (.c (.bool false)))⟩,
   ⟨(some 64), none, (.mv (.t 63))⟩,
   ⟨(some 65), (some (64, true)), (.mv (.t 1))⟩,
   ⟨(some 66), (some (64, true)), (.call 13 [(.t 65), (.c (.int .u64 4))])⟩,
   ⟨(some 67), (some (64, true)), (.bin .eql .num (.t 66) (.c (.int .u64 220)))⟩,
   ⟨(some 68), none, (.pick (.t 64) (.t 67) (.c (.bool false)))⟩,
   ⟨(some 69), none, (.mv (.t 68))⟩,
   ⟨(some 70), (some (69, true)), (.mv (.t 1))⟩,
   ⟨(some 71), (some (69, true)), (.call 19 [(.t 70), (.c (.int .u32 2))])⟩,
   ⟨(some 72), none, (.pick (.t 69) (.t 71) (.c (.bool false)))⟩,
   ⟨(some 73), none, (.mv (.t 72))⟩,
   ⟨(some 74), (some (73, true)), (.mv (.t 1))⟩,
   ⟨(some 75), (some (73, true)), (.call 19 [(.t 74), (.c (.int .u32 3))])⟩,
   ⟨(some 76), (some (73, true)), (.un .not (.t 75))⟩,
   ⟨(some 77), none, (.pick (.t 73) (.t 76) (.c (.bool false)))⟩,
   ⟨(some 0), none, (.mv (.t 77))⟩]) .ret))))))⟩
theorem caf11 : cFunc Try.prog Try.f11 = some af11 := by kernel_rfl
def af12_l0 : AC :=
 (.seq
 (.seq
 (.reg [⟨(some 14), none, (.mv (.t 6))⟩])
 (.cond (.t 14) .skip (.exit 0)))
 (.seq
 (.block 1
 (.reg [⟨(some 21), none, (.mv (.t 5))⟩,
   ⟨(some 22), none, (.loadN 3 (.t 4))⟩,
   ⟨(some 23), none, (.buildSlice 3 [(.int .u32 0), (.int .u64 0), (.int .i64 0)] 1 [(0, (3, (.t 22)))])⟩,
   ⟨(some 24), none, (.append 3 24 (.t 21) (.t 23))⟩,
   ⟨(some 5), none, (.mv (.t 24))⟩]))
 (.reg [⟨(some 16), none, (.mv (.t 3))⟩,
   ⟨(some 17), none, (.loadN 3 (.t 4))⟩,
   ⟨(some 18), none, (.call 27 [(.t 16), (.t 17)])⟩,
   ⟨(some 15), none, (.mv (.t 18))⟩,
   ⟨(some 19), none, (.extract 0 (.t 15))⟩,
   ⟨(some 20), none, (.extract 1 (.t 15))⟩,
   ⟨none, none, (.store 3 (.t 4) (.t 19))⟩,
   ⟨(some 6), none, (.mv (.t 20))⟩])))
/-- limelight/bound.Set -/
def af12 : AFunc := ⟨27, [(.tmp 2)],
 (.seq
 (.reg [⟨(some 2), none, (.mv (.c (.slice none 0 0 none)))⟩])
 (.seq
 (.reg [⟨(some 7), none, (.mv (.t 0))⟩,
   ⟨(some 8), none, (.call 21 [(.t 7)])⟩,
   ⟨(some 3), none, (.mv (.t 8))⟩])
 (.seq
 (.seq
 (.reg [⟨(some 9), none, (.mv (.t 3))⟩,
   ⟨(some 10), none, (.len (.t 9))⟩,
   ⟨(some 11), none, (.bin .eql .num (.t 10) (.c (.int .i64 0)))⟩])
 (.cond (.t 11)
 (.seq
 (.reg [⟨(some 2), none, (.mv (.c (.slice none 0 0 none)))⟩]) .ret) .skip))
 (.seq
 (.reg [⟨(some 12), none, (.mv (.t 3))⟩,
   ⟨(some 13), none, (.call 22 [(.t 12), (.c (.func 23 []))])⟩,
   ⟨(some 4), none, (.alloc [(.int .u32 0), (.int .u64 0), (.int .i64 0)])⟩,
   ⟨none, none, (.store 3 (.t 4) (.t 13))⟩])
 (.seq
 (.reg [⟨(some 5), none, (.mv (.c (.slice none 0 0 none)))⟩])
 (.seq
 (.seq
 (.reg [⟨(some 6), none, (.mv (.c (.bool true)))⟩])
 (.block 0
 (.loop af12_l0)))
 (.seq
 (.reg [⟨(some 25), none, (.mv (.t 5))⟩,
   ⟨(some 26), none, (.call 28 [(.t 25)])⟩,
   ⟨(some 2), none, (.mv (.t 26))⟩]) .ret)))))))⟩
theorem caf12 : cFunc Try.prog Try.f12 = some af12 := by kernel_rfl
def af13_l0 : AC :=
 (.seq
 (.reg [⟨(some 13), none, (.bin .lss .num (.t 12) (.t 11))⟩])
 (.seq
 (.cond (.t 13) .skip (.exit 0))
 (.seq
 (.block 1
 (.seq
 (.reg [⟨(some 14), none, (.ixSlice 3 (.t 10) (.t 12))⟩,
   ⟨(some 15), none, (.loadN 3 (.t 14))⟩,
   ⟨(some 7), none, (.alloc [(.int .u32 0), (.int .u64 0), (.int .i64 0)])⟩,
   ⟨none, none, (.store 3 (.t 7) (.t 15))⟩])
 (.seq
 (.reg [⟨(some 16), none, (.fieldAddr 2 1 (.t 7))⟩,
   ⟨(some 17), none, (.load1 (.t 16))⟩,
   ⟨(some 18), none, (.conv (.int .u64) (.t 17))⟩,
   ⟨(some 19), none, (.bin .mul .num (.c (.int .u64 8)) (.t 18))⟩,
   ⟨(some 20), none, (.mv (.t 1))⟩,
   ⟨(some 21), none, (.mn [(.t 20), (.c (.int .u64 4294967296))])⟩,
   ⟨(some 22), none, (.bin .mul .num (.t 19) (.t 21))⟩,
   ⟨(some 8), none, (.mv (.t 22))⟩])
 (.reg [⟨(some 23), none, (.mv (.t 5))⟩,
   ⟨(some 24), none, (.fieldAddr 1 1 (.t 7))⟩,
   ⟨(some 25), none, (.load1 (.t 24))⟩,
   ⟨(some 26), none, (.fieldAddr 1 1 (.t 7))⟩,
   ⟨(some 27), none, (.load1 (.t 26))⟩,
   ⟨(some 28), none, (.mv (.t 8))⟩,
   ⟨(some 29), none, (.mn [(.t 27), (.t 28)])⟩,
   ⟨(some 30), none, (.bin .sub .num (.t 25) (.t 29))⟩,
   ⟨(some 31), none, (.mn [(.t 23), (.t 30)])⟩,
   ⟨(some 5), none, (.mv (.t 31))⟩]))))
 (.reg [⟨(some 32), none, (.bin .add .num (.t 12) (.c (.int .i64 1)))⟩,
   ⟨(some 12), none, (.mv (.t 32))⟩]))))
/-- limelight/bound.Holds -/
def af13 : AFunc := ⟨34, [(.tmp 4)],
 (.seq
 (.reg [⟨(some 4), none, (.mv (.c (.int .u64 0)))⟩])
 (.seq
 (.reg [⟨(some 5), none, (.mv (.c (.int .u64 18446744073709551615)))⟩])
 (.seq
 (.seq
 (.reg [⟨(some 9), none, (.mv (.t 0))⟩,
   ⟨(some 10), none, (.call 21 [(.t 9)])⟩,
   ⟨(some 11), none, (.len (.t 10))⟩,
   ⟨(some 12), none, (.mv (.c (.int .i64 0)))⟩])
 (.block 0
 (.loop af13_l0)))
 (.seq
 (.reg [⟨(some 33), none, (.mv (.t 5))⟩,
   ⟨(some 4), none, (.mv (.t 33))⟩]) .ret))))⟩
theorem caf13 : cFunc Try.prog Try.f13 = some af13 := by kernel_rfl
def af14_l0 : AC :=
 (.seq
 (.reg [⟨(some 14), none, (.bin .lss .num (.t 13) (.t 12))⟩])
 (.seq
 (.cond (.t 14) .skip (.exit 0))
 (.seq
 (.block 1
 (.seq
 (.reg [⟨(some 15), none, (.mv (.t 13))⟩,
   ⟨(some 5), none, (.mv (.t 15))⟩])
 (.seq
 (.dreg [⟨(some 16), none, (.mv (.t 0))⟩,
   ⟨(some 17), none, (.mv (.t 5))⟩,
   ⟨(some 18), none, (.ixSlice 3 (.t 16) (.t 17))⟩,
   ⟨(some 19), none, (.loadN 3 (.t 18))⟩,
   ⟨(some 20), none, (.mv (.t 1))⟩,
   ⟨(some 21), none, (.mv (.t 5))⟩,
   ⟨(some 22), none, (.ixSlice 3 (.t 20) (.t 21))⟩,
   ⟨(some 23), none, (.loadN 3 (.t 22))⟩,
   ⟨(some 24), none, (.bin .neq (.strct [(0, .num), (1, .num), (2, .num)]) (.t 19) (.t 23))⟩] [])
 (.cond (.t 24)
 (.seq
 (.reg [⟨(some 4), none, (.mv (.c (.bool false)))⟩]) .ret) .skip))))
 (.reg [⟨(some 25), none, (.bin .add .num (.t 13) (.c (.int .i64 1)))⟩,
   ⟨(some 13), none, (.mv (.t 25))⟩]))))
/-- limelight/limelightlaw13.tuples -/
def af14 : AFunc := ⟨26, [(.tmp 4)],
 (.seq
 (.reg [⟨(some 4), none, (.mv (.c (.bool false)))⟩])
 (.seq
 (.seq
 (.reg [⟨(some 6), none, (.mv (.t 0))⟩,
   ⟨(some 7), none, (.len (.t 6))⟩,
   ⟨(some 8), none, (.mv (.t 1))⟩,
   ⟨(some 9), none, (.len (.t 8))⟩,
   ⟨(some 10), none, (.bin .neq .num (.t 7) (.t 9))⟩])
 (.cond (.t 10)
 (.seq
 (.reg [⟨(some 4), none, (.mv (.c (.bool false)))⟩]) .ret) .skip))
 (.seq
 (.seq
 (.reg [⟨(some 11), none, (.mv (.t 0))⟩,
   ⟨(some 12), none, (.len (.t 11))⟩,
   ⟨(some 13), none, (.mv (.c (.int .i64 0)))⟩])
 (.block 0
 (.loop af14_l0)))
 (.seq
 (.reg [⟨(some 4), none, (.mv (.c (.bool true)))⟩]) .ret))))⟩
theorem caf14 : cFunc Try.prog Try.f14 = some af14 := by kernel_rfl
/-- (*limelight/limelightkeep.Tape).Tuple -/
def af15 : AFunc := ⟨21, [(.cellN 2 3)],
 (.seq
 (.reg [⟨(some 2), none, (.alloc [(.int .u32 0), (.int .u64 0), (.int .i64 0)])⟩])
 (.seq
 (.reg [⟨(some 3), none, (.mv (.t 0))⟩,
   ⟨(some 4), none, (.call 29 [(.t 3), (.c (.int .i64 9))])⟩,
   ⟨(some 5), none, (.conv (.int .u32) (.t 4))⟩,
   ⟨(some 6), none, (.mv (.t 0))⟩,
   ⟨(some 7), none, (.call 29 [(.t 6), (.c (.int .i64 2000))])⟩,
   ⟨(some 8), none, (.bin .add .num (.c (.int .i64 1)) (.t 7))⟩,
   ⟨(some 9), none, (.conv (.int .u64) (.t 8))⟩,
   ⟨(some 10), none, (.buildSlice 1 [(.int .i64 0)] 3 [(0, (1, (.c (.int .i64 1)))), (1, (1, (.c (.int .i64 100)))), (2, (1, (.c (.int .i64 8000))))])⟩,
   ⟨(some 11), none, (.mv (.t 0))⟩,
   ⟨(some 12), none, (.call 29 [(.t 11), (.c (.int .i64 3))])⟩,
   ⟨(some 13), none, (.ixSlice 1 (.t 10) (.t 12))⟩,
   ⟨(some 14), none, (.load1 (.t 13))⟩,
   ⟨(some 15), none, (.conv (.int .u64) (.t 14))⟩,
   ⟨(some 16), none, (.bin .mul .num (.t 9) (.t 15))⟩,
   ⟨(some 17), none, (.call 30 [(.t 16), (.c (.int .i64 17))])⟩,
   ⟨(some 18), none, (.mv (.t 0))⟩,
   ⟨(some 19), none, (.call 29 [(.t 18), (.c (.int .i64 120))])⟩,
   ⟨(some 20), none, (.build [(.int .u32 0), (.int .u64 0), (.int .i64 0)] [(0, (1, (.t 5))), (1, (1, (.t 17))), (2, (1, (.t 19)))])⟩,
   ⟨none, none, (.store 3 (.t 2) (.t 20))⟩]) .ret))⟩
theorem caf15 : cFunc Try.prog Try.f15 = some af15 := by kernel_rfl
def af16_l0 : AC :=
 (.seq
 (.reg [⟨(some 10), none, (.bin .lss .num (.t 9) (.t 8))⟩])
 (.seq
 (.cond (.t 10) .skip (.exit 0))
 (.seq
 (.block 1
 (.seq
 (.reg [⟨(some 11), none, (.ixSlice 3 (.t 7) (.t 9))⟩,
   ⟨(some 12), none, (.loadN 3 (.t 11))⟩,
   ⟨(some 6), none, (.alloc [(.int .u32 0), (.int .u64 0), (.int .i64 0)])⟩,
   ⟨none, none, (.store 3 (.t 6) (.t 12))⟩])
 (.reg [⟨(some 13), none, (.mv (.t 4))⟩,
   ⟨(some 14), none, (.fieldAddr 1 1 (.t 6))⟩,
   ⟨(some 15), none, (.load1 (.t 14))⟩,
   ⟨(some 16), none, (.mn [(.t 13), (.t 15)])⟩,
   ⟨(some 4), none, (.mv (.t 16))⟩])))
 (.reg [⟨(some 17), none, (.bin .add .num (.t 9) (.c (.int .i64 1)))⟩,
   ⟨(some 9), none, (.mv (.t 17))⟩]))))
/-- limelight/bound.Rate -/
def af16 : AFunc := ⟨22, [(.tmp 2), (.tmp 3)],
 (.seq
 (.reg [⟨(some 2), none, (.mv (.c (.int .u64 0)))⟩,
   ⟨(some 3), none, (.mv (.c (.bool false)))⟩])
 (.seq
 (.reg [⟨(some 4), none, (.mv (.c (.int .u64 1099511627776)))⟩])
 (.seq
 (.seq
 (.reg [⟨(some 7), none, (.mv (.t 0))⟩,
   ⟨(some 8), none, (.len (.t 7))⟩,
   ⟨(some 9), none, (.mv (.c (.int .i64 0)))⟩])
 (.block 0
 (.loop af16_l0)))
 (.seq
 (.seq
 (.reg [⟨(some 18), none, (.mv (.t 0))⟩,
   ⟨(some 19), none, (.len (.t 18))⟩,
   ⟨(some 20), none, (.bin .eql .num (.t 19) (.c (.int .i64 0)))⟩])
 (.cond (.t 20)
 (.seq
 (.reg [⟨(some 2), none, (.mv (.c (.int .u64 0)))⟩,
   ⟨(some 3), none, (.mv (.c (.bool false)))⟩]) .ret) .skip))
 (.seq
 (.reg [⟨(some 21), none, (.mv (.t 4))⟩,
   ⟨(some 2), none, (.mv (.t 21))⟩,
   ⟨(some 3), none, (.mv (.c (.bool true)))⟩]) .ret)))))⟩
theorem caf16 : cFunc Try.prog Try.f16 = some af16 := by kernel_rfl
def af17_l0 : AC :=
 (.block 3
 (.seq
 (.reg [⟨(some 61), none, (.mv (.t 0))⟩,
   ⟨(some 62), none, (.loadN 3 (.t 3))⟩,
   ⟨(some 63), none, (.call 32 [(.t 61), (.t 62)])⟩,
   ⟨(some 60), none, (.mv (.t 63))⟩,
   ⟨(some 64), none, (.extract 0 (.t 60))⟩,
   ⟨(some 65), none, (.extract 1 (.t 60))⟩,
   ⟨(some 7), none, (.alloc [(.int .u32 0), (.int .u64 0), (.int .i64 0)])⟩,
   ⟨none, none, (.store 3 (.t 7) (.t 64))⟩,
   ⟨(some 8), none, (.mv (.t 65))⟩])
 (.seq
 (.seq
 (.reg [⟨(some 66), none, (.mv (.t 8))⟩,
   ⟨(some 67), none, (.un .not (.t 66))⟩])
 (.cond (.t 67)
 (.seq
 (.reg [⟨(some 68), none, (.mv (.t 6))⟩,
   ⟨(some 2), none, (.mv (.t 68))⟩]) .ret) .skip))
 (.seq
 (.reg [⟨(some 69), none, (.mv (.t 6))⟩,
   ⟨(some 70), none, (.loadN 3 (.t 7))⟩,
   ⟨(some 71), none, (.buildSlice 3 [(.int .u32 0), (.int .u64 0), (.int .i64 0)] 1 [(0, (3, (.t 70)))])⟩,
   ⟨(some 72), none, (.append 3 24 (.t 69) (.t 71))⟩,
   ⟨(some 6), none, (.mv (.t 72))⟩])
 (.reg [⟨(some 73), none, (.loadN 3 (.t 7))⟩,
   ⟨none, none, (.store 3 (.t 3) (.t 73))⟩])))))
def af17_l1 : AC :=
 (.seq
 (.reg [⟨(some 20), none, (.bin .lss .num (.t 19) (.t 18))⟩])
 (.seq
 (.cond (.t 20) .skip (.exit 0))
 (.seq
 (.block 1
 (.seq
 (.reg [⟨(some 21), none, (.ixSlice 3 (.t 17) (.t 19))⟩,
   ⟨(some 22), none, (.loadN 3 (.t 21))⟩,
   ⟨(some 5), none, (.alloc [(.int .u32 0), (.int .u64 0), (.int .i64 0)])⟩,
   ⟨none, none, (.store 3 (.t 5) (.t 22))⟩])
 (.seq
 (.reg [⟨(some 23), none, (.fieldAddr 1 1 (.t 5))⟩,
   ⟨(some 24), none, (.load1 (.t 23))⟩,
   ⟨(some 25), none, (.fieldAddr 1 1 (.t 3))⟩,
   ⟨(some 26), none, (.load1 (.t 25))⟩,
   ⟨(some 27), none, (.bin .lss .num (.t 24) (.t 26))⟩,
   ⟨(some 28), none, (.mv (.t 27))⟩,
   ⟨(some 29), (some (28, false)), (.fieldAddr 1 1 (.t 5))⟩,
   ⟨(some 30), (some (28, false)), (.load1 (.t 29))⟩,
   ⟨(some 31), (some (28, false)), (.fieldAddr 1 1 (.t 3))⟩,
   ⟨(some 32), (some (28, false)), (.load1 (.t 31))⟩,
   ⟨(some 33), (some (28, false)), (.bin .eql .num (.t 30) (.t 32))⟩,
   ⟨(some 34), (some (28, false)), (.mv (.t 33))⟩,
   ⟨(some 35), (some (34, true)), (.fieldAddr 2 1 (.t 5))⟩,
   ⟨(some 36), (some (34, true)), (.load1 (.t 35))⟩,
   ⟨(some 37), (some (34, true)), (.fieldAddr 2 1 (.t 3))⟩,
   ⟨(some 38), (some (34, true)), (.load1 (.t 37))⟩,
   ⟨(some 39), (some (34, true)), (.bin .gtr .num (.t 36) (.t 38))⟩,
   ⟨(some 40), (some (34, true)), (.mv (.t 39))⟩,
   ⟨(some 41), (some (40, false)), (.fieldAddr 2 1 (.t 5))⟩,
   ⟨(some 42), (some (40, false)), (.load1 (.t 41))⟩,
   ⟨(some 43), (some (40, false)), (.fieldAddr 2 1 (.t 3))⟩,
   ⟨(some 44), (some (40, false)), (.load1 (.t 43))⟩,
   ⟨(some 45), (some (40, false)), (.bin .eql .num (.t 42) (.t 44))⟩,
   ⟨(some 46), (some (40, false)), (.mv (.t 45))⟩,
   ⟨(some 47), (some (46, true)), (.fieldAddr 0 1 (.t 5))⟩,
   ⟨(some 48), (some (46, true)), (.load1 (.t 47))⟩,
   ⟨(some 49), (some (46, true)), (.fieldAddr 0 1 (.t 3))⟩,
   ⟨(some 50), (some (46, true)), (.load1 (.t 49))⟩,
   ⟨(some 51), (some (46, true)), (.bin .lss .num (.t 48) (.t 50))⟩,
   ⟨(some 52), (some (40, false)), (.pick (.t 46) (.t 51) (.c (.bool false)))⟩,
   ⟨(some 53), (some (34, true)), (.pick (.t 40) (.c (.bool true)) (.t 52))⟩,
   ⟨(some 54), (some (28, false)), (.pick (.t 34) (.t 53) (.c (.bool false)))⟩,
   ⟨(some 55), none, (.pick (.t 28) (.c (.bool true)) (.t 54))⟩])
 (.cond (.t 55)
 (.reg [⟨(some 56), none, (.loadN 3 (.t 5))⟩,
   ⟨none, none, (.store 3 (.t 3) (.t 56))⟩]) .skip))))
 (.reg [⟨(some 57), none, (.bin .add .num (.t 19) (.c (.int .i64 1)))⟩,
   ⟨(some 19), none, (.mv (.t 57))⟩]))))
/-- limelight/limelightref13.Set -/
def af17 : AFunc := ⟨74, [(.tmp 2)],
 (.seq
 (.reg [⟨(some 2), none, (.mv (.c (.slice none 0 0 none)))⟩])
 (.seq
 (.reg [⟨(some 9), none, (.mv (.t 0))⟩,
   ⟨(some 10), none, (.call 31 [(.t 9)])⟩,
   ⟨(some 0), none, (.mv (.t 10))⟩])
 (.seq
 (.seq
 (.reg [⟨(some 11), none, (.mv (.t 0))⟩,
   ⟨(some 12), none, (.len (.t 11))⟩,
   ⟨(some 13), none, (.bin .eql .num (.t 12) (.c (.int .i64 0)))⟩])
 (.cond (.t 13)
 (.seq
 (.reg [⟨(some 2), none, (.mv (.c (.slice none 0 0 none)))⟩]) .ret) .skip))
 (.seq
 (.reg [⟨(some 14), none, (.mv (.t 0))⟩,
   ⟨(some 15), none, (.ixSlice 3 (.t 14) (.c (.int .i64 0)))⟩,
   ⟨(some 16), none, (.loadN 3 (.t 15))⟩,
   ⟨(some 3), none, (.alloc [(.int .u32 0), (.int .u64 0), (.int .i64 0)])⟩,
   ⟨none, none, (.store 3 (.t 3) (.t 16))⟩])
 (.seq
 (.seq
 (.reg [⟨(some 17), none, (.mv (.t 0))⟩,
   ⟨(some 18), none, (.len (.t 17))⟩,
   ⟨(some 19), none, (.mv (.c (.int .i64 0)))⟩])
 (.block 0
 (.loop af17_l1)))
 (.seq
 (.reg [⟨(some 58), none, (.loadN 3 (.t 3))⟩,
   ⟨(some 59), none, (.buildSlice 3 [(.int .u32 0), (.int .u64 0), (.int .i64 0)] 1 [(0, (3, (.t 58)))])⟩,
   ⟨(some 6), none, (.mv (.t 59))⟩])
 (.block 2
 (.loop af17_l0))))))))⟩
theorem caf17 : cFunc Try.prog Try.f17 = some af17 := by kernel_rfl
def af18_l0 : AC :=
 (.seq
 (.reg [⟨(some 11), none, (.bin .lss .num (.t 10) (.t 9))⟩])
 (.seq
 (.cond (.t 11) .skip (.exit 0))
 (.seq
 (.block 1
 (.seq
 (.reg [⟨(some 12), none, (.ixSlice 3 (.t 8) (.t 10))⟩,
   ⟨(some 13), none, (.loadN 3 (.t 12))⟩,
   ⟨(some 6), none, (.alloc [(.int .u32 0), (.int .u64 0), (.int .i64 0)])⟩,
   ⟨none, none, (.store 3 (.t 6) (.t 13))⟩])
 (.reg [⟨(some 14), none, (.mv (.t 4))⟩,
   ⟨(some 15), none, (.fieldAddr 1 1 (.t 6))⟩,
   ⟨(some 16), none, (.load1 (.t 15))⟩,
   ⟨(some 17), none, (.mn [(.t 14), (.t 16)])⟩,
   ⟨(some 4), none, (.mv (.t 17))⟩])))
 (.reg [⟨(some 18), none, (.bin .add .num (.t 10) (.c (.int .i64 1)))⟩,
   ⟨(some 10), none, (.mv (.t 18))⟩]))))
/-- limelight/limelightref13.Rate -/
def af18 : AFunc := ⟨23, [(.tmp 2), (.tmp 3)],
 (.seq
 (.reg [⟨(some 2), none, (.mv (.c (.int .u64 0)))⟩,
   ⟨(some 3), none, (.mv (.c (.bool false)))⟩])
 (.seq
 (.reg [⟨(some 4), none, (.mv (.c (.int .u64 18446744073709551615)))⟩])
 (.seq
 (.seq
 (.reg [⟨(some 7), none, (.mv (.t 0))⟩,
   ⟨(some 8), none, (.call 31 [(.t 7)])⟩,
   ⟨(some 9), none, (.len (.t 8))⟩,
   ⟨(some 10), none, (.mv (.c (.int .i64 0)))⟩])
 (.block 0
 (.loop af18_l0)))
 (.seq
 (.seq
 (.reg [⟨(some 19), none, (.mv (.t 0))⟩,
   ⟨(some 20), none, (.len (.t 19))⟩,
   ⟨(some 21), none, (.bin .eql .num (.t 20) (.c (.int .i64 0)))⟩])
 (.cond (.t 21)
 (.seq
 (.reg [⟨(some 2), none, (.mv (.c (.int .u64 0)))⟩,
   ⟨(some 3), none, (.mv (.c (.bool false)))⟩]) .ret) .skip))
 (.seq
 (.reg [⟨(some 22), none, (.mv (.t 4))⟩,
   ⟨(some 2), none, (.mv (.t 22))⟩,
   ⟨(some 3), none, (.mv (.c (.bool true)))⟩]) .ret)))))⟩
theorem caf18 : cFunc Try.prog Try.f18 = some af18 := by kernel_rfl
/-- limelight/bound.Owns -/
def af19 : AFunc := ⟨9, [(.tmp 4)],
 (.seq
 (.reg [⟨(some 3), none, (.box (.t 1))⟩,
   ⟨(some 4), none, (.mv (.c (.bool false)))⟩])
 (.seq
 (.reg [⟨(some 5), none, (.mv (.t 0))⟩,
   ⟨(some 6), none, (.call 12 [(.t 5)])⟩,
   ⟨(some 7), none, (.mkFunc 34 [(.t 3)])⟩,
   ⟨(some 8), none, (.call 33 [(.t 6), (.t 7)])⟩,
   ⟨(some 4), none, (.mv (.t 8))⟩]) .ret))⟩
theorem caf19 : cFunc Try.prog Try.f19 = some af19 := by kernel_rfl
def af20_l0 : AC :=
 (.seq
 (.reg [⟨(some 16), none, (.bin .lss .num (.t 15) (.t 14))⟩])
 (.seq
 (.cond (.t 16) .skip (.exit 0))
 (.seq
 (.block 1
 (.seq
 (.reg [⟨(some 17), none, (.ixSlice 3 (.t 13) (.t 15))⟩,
   ⟨(some 18), none, (.loadN 3 (.t 17))⟩,
   ⟨(some 8), none, (.alloc [(.int .u32 0), (.int .u64 0), (.int .i64 0)])⟩,
   ⟨none, none, (.store 3 (.t 8) (.t 18))⟩])
 (.seq
 (.reg [⟨(some 19), none, (.fieldAddr 2 1 (.t 8))⟩,
   ⟨(some 20), none, (.load1 (.t 19))⟩,
   ⟨(some 21), none, (.conv (.int .u64) (.t 20))⟩,
   ⟨(some 22), none, (.bin .mul .num (.c (.int .u64 8)) (.t 21))⟩,
   ⟨(some 23), none, (.mv (.t 5))⟩,
   ⟨(some 24), none, (.bin .mul .num (.t 22) (.t 23))⟩,
   ⟨(some 9), none, (.mv (.t 24))⟩])
 (.seq
 (.seq
 (.reg [⟨(some 25), none, (.mv (.t 9))⟩,
   ⟨(some 26), none, (.fieldAddr 1 1 (.t 8))⟩,
   ⟨(some 27), none, (.load1 (.t 26))⟩,
   ⟨(some 28), none, (.bin .gtr .num (.t 25) (.t 27))⟩])
 (.cond (.t 28)
 (.reg [⟨(some 29), none, (.fieldAddr 1 1 (.t 8))⟩,
   ⟨(some 30), none, (.load1 (.t 29))⟩,
   ⟨(some 9), none, (.mv (.t 30))⟩]) .skip))
 (.reg [⟨(some 31), none, (.mv (.t 6))⟩,
   ⟨(some 32), none, (.fieldAddr 1 1 (.t 8))⟩,
   ⟨(some 33), none, (.load1 (.t 32))⟩,
   ⟨(some 34), none, (.mv (.t 9))⟩,
   ⟨(some 35), none, (.bin .sub .num (.t 33) (.t 34))⟩,
   ⟨(some 36), none, (.mn [(.t 31), (.t 35)])⟩,
   ⟨(some 6), none, (.mv (.t 36))⟩])))))
 (.reg [⟨(some 37), none, (.bin .add .num (.t 15) (.c (.int .i64 1)))⟩,
   ⟨(some 15), none, (.mv (.t 37))⟩]))))
/-- limelight/limelightref13.Holds -/
def af20 : AFunc := ⟨39, [(.tmp 4)],
 (.seq
 (.reg [⟨(some 4), none, (.mv (.c (.int .u64 0)))⟩])
 (.seq
 (.reg [⟨(some 10), none, (.mv (.t 1))⟩,
   ⟨(some 11), none, (.mn [(.t 10), (.c (.int .u64 4294967296))])⟩,
   ⟨(some 5), none, (.mv (.t 11))⟩])
 (.seq
 (.reg [⟨(some 6), none, (.mv (.c (.int .u64 18446744073709551615)))⟩])
 (.seq
 (.seq
 (.reg [⟨(some 12), none, (.mv (.t 0))⟩,
   ⟨(some 13), none, (.call 31 [(.t 12)])⟩,
   ⟨(some 14), none, (.len (.t 13))⟩,
   ⟨(some 15), none, (.mv (.c (.int .i64 0)))⟩])
 (.block 0
 (.loop af20_l0)))
 (.seq
 (.reg [⟨(some 38), none, (.mv (.t 6))⟩,
   ⟨(some 4), none, (.mv (.t 38))⟩]) .ret)))))⟩
theorem caf20 : cFunc Try.prog Try.f20 = some af20 := by kernel_rfl
def af21_l0 : AC :=
 (.seq
 (.reg [⟨(some 9), none, (.bin .lss .num (.t 8) (.t 7))⟩])
 (.seq
 (.cond (.t 9) .skip (.exit 0))
 (.seq
 (.block 1
 (.seq
 (.reg [⟨(some 10), none, (.ixSlice 3 (.t 6) (.t 8))⟩,
   ⟨(some 11), none, (.loadN 3 (.t 10))⟩,
   ⟨(some 5), none, (.alloc [(.int .u32 0), (.int .u64 0), (.int .i64 0)])⟩,
   ⟨none, none, (.store 3 (.t 5) (.t 11))⟩])
 (.reg [⟨(some 12), none, (.mv (.t 3))⟩,
   ⟨(some 13), none, (.loadN 3 (.t 5))⟩,
   ⟨(some 14), none, (.call 35 [(.t 13)])⟩,
   ⟨(some 15), none, (.buildSlice 3 [(.int .u32 0), (.int .u64 0), (.int .i64 0)] 1 [(0, (3, (.t 14)))])⟩,
   ⟨(some 16), none, (.append 3 24 (.t 12) (.t 15))⟩,
   ⟨(some 3), none, (.mv (.t 16))⟩])))
 (.reg [⟨(some 17), none, (.bin .add .num (.t 8) (.c (.int .i64 1)))⟩,
   ⟨(some 8), none, (.mv (.t 17))⟩]))))
/-- limelight/bound.all -/
def af21 : AFunc := ⟨19, [(.tmp 2)],
 (.seq
 (.reg [⟨(some 2), none, (.mv (.c (.slice none 0 0 none)))⟩])
 (.seq
 (.reg [⟨(some 3), none, (.mv (.c (.slice none 0 0 none)))⟩])
 (.seq
 (.seq
 (.reg [⟨(some 6), none, (.mv (.t 0))⟩,
   ⟨(some 7), none, (.len (.t 6))⟩,
   ⟨(some 8), none, (.mv (.c (.int .i64 0)))⟩])
 (.block 0
 (.loop af21_l0)))
 (.seq
 (.reg [⟨(some 18), none, (.mv (.t 3))⟩,
   ⟨(some 2), none, (.mv (.t 18))⟩]) .ret))))⟩
theorem caf21 : cFunc Try.prog Try.f21 = some af21 := by kernel_rfl
def af22_l0 : AC :=
 (.seq
 (.seq
 (.reg [⟨(some 14), none, (.mv (.t 6))⟩,
   ⟨(some 15), none, (.mv (.t 0))⟩,
   ⟨(some 16), none, (.len (.t 15))⟩,
   ⟨(some 17), none, (.bin .lss .num (.t 14) (.t 16))⟩])
 (.cond (.t 17) .skip (.exit 0)))
 (.seq
 (.block 1
 (.seq
 (.dreg [⟨(some 20), none, (.mv (.t 1))⟩,
   ⟨(some 21), none, (.mv (.t 0))⟩,
   ⟨(some 22), none, (.mv (.t 6))⟩,
   ⟨(some 23), none, (.ixSlice 3 (.t 21) (.t 22))⟩,
   ⟨(some 24), none, (.loadN 3 (.t 23))⟩,
   ⟨(some 25), none, (.loadN 3 (.t 5))⟩,
   ⟨(some 26), none, (.callV (.t 20) [(.t 24), (.t 25)])⟩,
   ⟨(some 27), none, (.bin .lss .num (.t 26) (.c (.int .i64 0)))⟩] [])
 (.cond (.t 27)
 (.reg [⟨(some 28), none, (.mv (.t 0))⟩,
   ⟨(some 29), none, (.mv (.t 6))⟩,
   ⟨(some 30), none, (.ixSlice 3 (.t 28) (.t 29))⟩,
   ⟨(some 31), none, (.loadN 3 (.t 30))⟩,
   ⟨none, none, (.store 3 (.t 5) (.t 31))⟩]) .skip)))
 (.reg [⟨(some 18), none, (.mv (.t 6))⟩,
   ⟨(some 19), none, (.bin .add .num (.t 18) (.c (.int .i64 1)))⟩,
   ⟨(some 6), none, (.mv (.t 19))⟩])))
/-- slices.MinFunc[[]limelight/api.Tuple,limelight/api.Tuple] -/
def af22 : AFunc := ⟨33, [(.cellN 4 3)],
 (.seq
 (.reg [⟨(some 4), none, (.alloc [(.int .u32 0), (.int .u64 0), (.int .i64 0)])⟩])
 (.seq
 (.seq
 (.reg [⟨(some 7), none, (.mv (.t 0))⟩,
   ⟨(some 8), none, (.len (.t 7))⟩,
   ⟨(some 9), none, (.bin .lss .num (.t 8) (.c (.int .i64 1)))⟩])
 (.cond (.t 9)
 (.reg [⟨(some 10), none, (.mkIface 9 (.c (.str [115, 108, 105, 99, 101, 115, 46, 77, 105, 110, 70, 117, 110, 99, 58, 32, 101, 109, 112, 116, 121, 32, 108, 105, 115, 116])))⟩,
   ⟨none, none, .stop⟩]) .skip))
 (.seq
 (.reg [⟨(some 11), none, (.mv (.t 0))⟩,
   ⟨(some 12), none, (.ixSlice 3 (.t 11) (.c (.int .i64 0)))⟩,
   ⟨(some 13), none, (.loadN 3 (.t 12))⟩,
   ⟨(some 5), none, (.alloc [(.int .u32 0), (.int .u64 0), (.int .i64 0)])⟩,
   ⟨none, none, (.store 3 (.t 5) (.t 13))⟩])
 (.seq
 (.seq
 (.reg [⟨(some 6), none, (.mv (.c (.int .i64 1)))⟩])
 (.block 0
 (.loop af22_l0)))
 (.seq
 (.reg [⟨(some 32), none, (.loadN 3 (.t 5))⟩,
   ⟨none, none, (.store 3 (.t 4) (.t 32))⟩]) .ret)))))⟩
theorem caf22 : cFunc Try.prog Try.f22 = some af22 := by kernel_rfl
/-- limelight/bound.Set$1 -/
def af23 : AFunc := ⟨15, [(.tmp 4)],
 (.seq
 (.reg [⟨(some 2), none, (.box (.t 0))⟩,
   ⟨(some 3), none, (.box (.t 1))⟩,
   ⟨(some 4), none, (.mv (.c (.int .i64 0)))⟩])
 (.seq
 (.dreg [⟨(some 5), none, (.fieldAddr 1 1 (.t 2))⟩,
   ⟨(some 6), none, (.load1 (.t 5))⟩,
   ⟨(some 7), none, (.fieldAddr 1 1 (.t 3))⟩,
   ⟨(some 8), none, (.load1 (.t 7))⟩,
   ⟨(some 9), none, (.call 25 [(.t 6), (.t 8)])⟩,
   ⟨(some 10), none, (.loadN 3 (.t 2))⟩,
   ⟨(some 11), none, (.loadN 3 (.t 3))⟩,
   ⟨(some 12), none, (.call 26 [(.t 10), (.t 11)])⟩,
   ⟨(some 13), none, (.buildSlice 1 [(.int .i64 0)] 2 [(0, (1, (.t 9))), (1, (1, (.t 12)))])⟩,
   ⟨(some 14), none, (.call 24 [(.t 13)])⟩,
   ⟨(some 4), none, (.mv (.t 14))⟩] [(5, 4), (6, 4)]) .ret))⟩
theorem caf23 : cFunc Try.prog Try.f23 = some af23 := by kernel_rfl
def af24_l0 : AC :=
 (.seq
 (.reg [⟨(some 9), none, (.bin .lss .num (.t 8) (.t 7))⟩])
 (.seq
 (.cond (.t 9) .skip (.exit 0))
 (.seq
 (.block 1
 (.seq
 (.reg [⟨(some 10), none, (.ixSlice 1 (.t 6) (.t 8))⟩,
   ⟨(some 11), none, (.load1 (.t 10))⟩,
   ⟨(some 5), none, (.mv (.t 11))⟩])
 (.seq
 (.reg [⟨(some 12), none, (.mv (.t 5))⟩,
   ⟨(some 13), none, (.mv (.t 3))⟩,
   ⟨(some 14), none, (.bin .neq .num (.t 12) (.t 13))⟩])
 (.cond (.t 14)
 (.seq
 (.reg [⟨(some 15), none, (.mv (.t 5))⟩,
   ⟨(some 2), none, (.mv (.t 15))⟩]) .ret) .skip))))
 (.reg [⟨(some 16), none, (.bin .add .num (.t 8) (.c (.int .i64 1)))⟩,
   ⟨(some 8), none, (.mv (.t 16))⟩]))))
/-- cmp.Or[int] -/
def af24 : AFunc := ⟨18, [(.tmp 2)],
 (.seq
 (.reg [⟨(some 2), none, (.mv (.c (.int .i64 0)))⟩])
 (.seq
 (.reg [⟨(some 3), none, (.mv (.c (.int .i64 0)))⟩])
 (.seq
 (.seq
 (.reg [⟨(some 6), none, (.mv (.t 0))⟩,
   ⟨(some 7), none, (.len (.t 6))⟩,
   ⟨(some 8), none, (.mv (.c (.int .i64 0)))⟩])
 (.block 0
 (.loop af24_l0)))
 (.seq
 (.reg [⟨(some 17), none, (.mv (.t 3))⟩,
   ⟨(some 2), none, (.mv (.t 17))⟩]) .ret))))⟩
theorem caf24 : cFunc Try.prog Try.f24 = some af24 := by kernel_rfl
/-- cmp.Compare[uint64] -/
def af25 : AFunc := ⟨20, [(.tmp 4)],
 (.seq
 (.reg [⟨(some 4), none, (.mv (.c (.int .i64 0)))⟩])
 (.seq
 (.reg [⟨(some 7), none, (.mv (.t 0))⟩,
   ⟨(some 8), none, (.call 36 [(.t 7)])⟩,
   ⟨(some 5), none, (.mv (.t 8))⟩])
 (.seq
 (.reg [⟨(some 9), none, (.mv (.t 1))⟩,
   ⟨(some 10), none, (.call 36 [(.t 9)])⟩,
   ⟨(some 6), none, (.mv (.t 10))⟩])
 (.seq
 (.seq
 (.reg [⟨(some 11), none, (.mv (.t 5))⟩])
 (.cond (.t 11)
 (.seq
 (.seq
 (.reg [⟨(some 12), none, (.mv (.t 6))⟩])
 (.cond (.t 12)
 (.seq
 (.reg [⟨(some 4), none, (.mv (.c (.int .i64 0)))⟩]) .ret) .skip))
 (.seq
 (.reg [⟨(some 4), none, (.mv (.c (.int .i64 (-1))))⟩]) .ret)) .skip))
 (.seq
 (.seq
 (.reg [⟨(some 13), none, (.mv (.t 6))⟩])
 (.cond (.t 13)
 (.seq
 (.reg [⟨(some 4), none, (.mv (.c (.int .i64 1)))⟩]) .ret) .skip))
 (.seq
 (.seq
 (.reg [⟨(some 14), none, (.mv (.t 0))⟩,
   ⟨(some 15), none, (.mv (.t 1))⟩,
   ⟨(some 16), none, (.bin .lss .num (.t 14) (.t 15))⟩])
 (.cond (.t 16)
 (.seq
 (.reg [⟨(some 4), none, (.mv (.c (.int .i64 (-1))))⟩]) .ret) .skip))
 (.seq
 (.seq
 (.reg [⟨(some 17), none, (.mv (.t 0))⟩,
   ⟨(some 18), none, (.mv (.t 1))⟩,
   ⟨(some 19), none, (.bin .gtr .num (.t 17) (.t 18))⟩])
 (.cond (.t 19)
 (.seq
 (.reg [⟨(some 4), none, (.mv (.c (.int .i64 1)))⟩]) .ret) .skip))
 (.seq
 (.reg [⟨(some 4), none, (.mv (.c (.int .i64 0)))⟩]) .ret))))))))⟩
theorem caf25 : cFunc Try.prog Try.f25 = some af25 := by kernel_rfl
/-- limelight/bound.ties -/
def af26 : AFunc := ⟨17, [(.tmp 4)],
 (.seq
 (.reg [⟨(some 2), none, (.box (.t 0))⟩,
   ⟨(some 3), none, (.box (.t 1))⟩,
   ⟨(some 4), none, (.mv (.c (.int .i64 0)))⟩])
 (.seq
 (.dreg [⟨(some 5), none, (.fieldAddr 2 1 (.t 3))⟩,
   ⟨(some 6), none, (.load1 (.t 5))⟩,
   ⟨(some 7), none, (.fieldAddr 2 1 (.t 2))⟩,
   ⟨(some 8), none, (.load1 (.t 7))⟩,
   ⟨(some 9), none, (.call 37 [(.t 6), (.t 8)])⟩,
   ⟨(some 10), none, (.fieldAddr 0 1 (.t 2))⟩,
   ⟨(some 11), none, (.load1 (.t 10))⟩,
   ⟨(some 12), none, (.fieldAddr 0 1 (.t 3))⟩,
   ⟨(some 13), none, (.load1 (.t 12))⟩,
   ⟨(some 14), none, (.call 38 [(.t 11), (.t 13)])⟩,
   ⟨(some 15), none, (.buildSlice 1 [(.int .i64 0)] 2 [(0, (1, (.t 9))), (1, (1, (.t 14)))])⟩,
   ⟨(some 16), none, (.call 24 [(.t 15)])⟩,
   ⟨(some 4), none, (.mv (.t 16))⟩] [(6, 4), (8, 4)]) .ret))⟩
theorem caf26 : cFunc Try.prog Try.f26 = some af26 := by kernel_rfl
def af27_l0 : AC :=
 (.seq
 (.reg [⟨(some 13), none, (.bin .lss .num (.t 12) (.t 11))⟩])
 (.seq
 (.cond (.t 13) .skip (.exit 0))
 (.seq
 (.block 1
 (.seq
 (.reg [⟨(some 14), none, (.ixSlice 3 (.t 10) (.t 12))⟩,
   ⟨(some 15), none, (.loadN 3 (.t 14))⟩,
   ⟨(some 8), none, (.alloc [(.int .u32 0), (.int .u64 0), (.int .i64 0)])⟩,
   ⟨none, none, (.store 3 (.t 8) (.t 15))⟩])
 (.seq
 (.reg [⟨(some 16), none, (.fieldAddr 2 1 (.t 8))⟩,
   ⟨(some 17), none, (.load1 (.t 16))⟩,
   ⟨(some 18), none, (.fieldAddr 2 1 (.t 3))⟩,
   ⟨(some 19), none, (.load1 (.t 18))⟩,
   ⟨(some 20), none, (.bin .gtr .num (.t 17) (.t 19))⟩])
 (.cond (.t 20)
 (.reg [⟨(some 21), none, (.mv (.t 6))⟩,
   ⟨(some 22), none, (.loadN 3 (.t 8))⟩,
   ⟨(some 23), none, (.buildSlice 3 [(.int .u32 0), (.int .u64 0), (.int .i64 0)] 1 [(0, (3, (.t 22)))])⟩,
   ⟨(some 24), none, (.append 3 24 (.t 21) (.t 23))⟩,
   ⟨(some 6), none, (.mv (.t 24))⟩]) .skip))))
 (.reg [⟨(some 25), none, (.bin .add .num (.t 12) (.c (.int .i64 1)))⟩,
   ⟨(some 12), none, (.mv (.t 25))⟩]))))
/-- limelight/bound.next -/
def af27 : AFunc := ⟨53, [(.cellN 4 3), (.tmp 5)],
 (.seq
 (.reg [⟨(some 3), none, (.box (.t 1))⟩,
   ⟨(some 4), none, (.alloc [(.int .u32 0), (.int .u64 0), (.int .i64 0)])⟩,
   ⟨(some 5), none, (.mv (.c (.bool false)))⟩])
 (.seq
 (.reg [⟨(some 6), none, (.mv (.c (.slice none 0 0 none)))⟩])
 (.seq
 (.seq
 (.reg [⟨(some 10), none, (.mv (.t 0))⟩,
   ⟨(some 11), none, (.len (.t 10))⟩,
   ⟨(some 12), none, (.mv (.c (.int .i64 0)))⟩])
 (.block 0
 (.loop af27_l0)))
 (.seq
 (.seq
 (.reg [⟨(some 26), none, (.mv (.t 6))⟩,
   ⟨(some 27), none, (.len (.t 26))⟩,
   ⟨(some 28), none, (.bin .eql .num (.t 27) (.c (.int .i64 0)))⟩])
 (.cond (.t 28)
 (.seq
 (.reg [⟨(some 29), none, (.build [(.int .u32 0), (.int .u64 0), (.int .i64 0)] [])⟩,
   ⟨none, none, (.store 3 (.t 4) (.t 29))⟩,
   ⟨(some 5), none, (.mv (.c (.bool false)))⟩]) .ret) .skip))
 (.seq
 (.reg [⟨(some 30), none, (.mv (.t 6))⟩,
   ⟨(some 31), none, (.mkFunc 39 [(.t 3)])⟩,
   ⟨(some 32), none, (.call 22 [(.t 30), (.t 31)])⟩,
   ⟨(some 9), none, (.alloc [(.int .u32 0), (.int .u64 0), (.int .i64 0)])⟩,
   ⟨none, none, (.store 3 (.t 9) (.t 32))⟩])
 (.seq
 (.dreg [⟨(some 33), none, (.loadN 3 (.t 9))⟩,
   ⟨(some 34), none, (.fieldAddr 1 1 (.t 3))⟩,
   ⟨(some 35), none, (.load1 (.t 34))⟩,
   ⟨(some 36), none, (.fieldAddr 2 1 (.t 9))⟩,
   ⟨(some 37), none, (.load1 (.t 36))⟩,
   ⟨(some 38), none, (.fieldAddr 2 1 (.t 3))⟩,
   ⟨(some 39), none, (.load1 (.t 38))⟩,
   ⟨(some 40), none, (.bin .sub .num (.t 37) (.t 39))⟩,
   ⟨(some 41), none, (.conv (.int .u64) (.t 40))⟩,
   ⟨(some 42), none, (.bin .mul .num (.t 35) (.t 41))⟩,
   ⟨(some 43), none, (.fieldAddr 2 1 (.t 3))⟩,
   ⟨(some 44), none, (.load1 (.t 43))⟩,
   ⟨(some 45), none, (.conv (.int .u64) (.t 44))⟩,
   ⟨(some 46), none, (.fieldAddr 1 1 (.t 9))⟩,
   ⟨(some 47), none, (.load1 (.t 46))⟩,
   ⟨(some 48), none, (.fieldAddr 1 1 (.t 3))⟩,
   ⟨(some 49), none, (.load1 (.t 48))⟩,
   ⟨(some 50), none, (.bin .sub .num (.t 47) (.t 49))⟩,
   ⟨(some 51), none, (.bin .mul .num (.t 45) (.t 50))⟩,
   ⟨(some 52), none, (.bin .gtr .num (.t 42) (.t 51))⟩,
   ⟨none, none, (.store 3 (.t 4) (.t 33))⟩,
   ⟨(some 5), none, (.mv (.t 52))⟩] [(2, 21), (4, 21), (6, 21), (11, 21), (14, 21), (16, 21)]) .ret))))))⟩
theorem caf27 : cFunc Try.prog Try.f27 = some af27 := by kernel_rfl
/-- slices.Clip[[]limelight/api.Tuple,limelight/api.Tuple] -/
def af28 : AFunc := ⟨9, [(.tmp 2)],
 (.seq
 (.reg [⟨(some 2), none, (.mv (.c (.slice none 0 0 none)))⟩])
 (.seq
 (.reg [⟨(some 3), none, (.mv (.t 0))⟩,
   ⟨(some 4), none, (.mv (.t 0))⟩,
   ⟨(some 5), none, (.len (.t 4))⟩,
   ⟨(some 6), none, (.mv (.t 0))⟩,
   ⟨(some 7), none, (.len (.t 6))⟩,
   ⟨(some 8), none, (.cut 3 (.t 3) none (some (.t 5)) (some (.t 7)))⟩,
   ⟨(some 2), none, (.mv (.t 8))⟩]) .ret))⟩
theorem caf28 : cFunc Try.prog Try.f28 = some af28 := by kernel_rfl
/-- (*limelight/limelightkeep.Tape).Next -/
def af29 : AFunc := ⟨40, [(.tmp 4)],
 (.seq
 (.reg [⟨(some 4), none, (.mv (.c (.int .i64 0)))⟩])
 (.seq
 (.seq
 (.dreg [⟨(some 5), none, (.mv (.t 0))⟩,
   ⟨(some 6), none, (.nilCheck (.t 5))⟩,
   ⟨(some 7), none, (.fieldAddr 1 1 (.t 6))⟩,
   ⟨(some 8), none, (.load1 (.t 7))⟩,
   ⟨(some 9), none, (.mv (.t 0))⟩,
   ⟨(some 10), none, (.nilCheck (.t 9))⟩,
   ⟨(some 11), none, (.fieldAddr 0 1 (.t 10))⟩,
   ⟨(some 12), none, (.load1 (.t 11))⟩,
   ⟨(some 13), none, (.len (.t 12))⟩,
   ⟨(some 14), none, (.bin .geq .num (.t 8) (.t 13))⟩,
   ⟨(some 15), none, (.mv (.t 14))⟩,
   ⟨(some 16), (some (15, false)), (.mv (.t 1))⟩,
   ⟨(some 17), (some (15, false)), (.bin .lss .num (.t 16) (.c (.int .i64 1)))⟩,
   ⟨(some 18), none, (.pick (.t 15) (.c (.bool true)) (.t 17))⟩] [])
 (.cond (.t 18)
 (.seq
 (.reg [⟨(some 4), none, (.mv (.c (.int .i64 0)))⟩]) .ret) .skip))
 (.seq
 (.reg [⟨(some 19), none, (.mv (.t 0))⟩,
   ⟨(some 20), none, (.nilCheck (.t 19))⟩,
   ⟨(some 21), none, (.fieldAddr 1 1 (.t 20))⟩,
   ⟨(some 22), none, (.load1 (.t 21))⟩,
   ⟨(some 23), none, (.bin .add .num (.t 22) (.c (.int .i64 1)))⟩,
   ⟨(some 24), none, (.nilCheck (.t 19))⟩,
   ⟨(some 25), none, (.fieldAddr 1 1 (.t 24))⟩,
   ⟨none, none, (.store 1 (.t 25) (.t 23))⟩])
 (.seq
 (.dreg [⟨(some 26), none, (.mv (.t 0))⟩,
   ⟨(some 27), none, (.nilCheck (.t 26))⟩,
   ⟨(some 28), none, (.fieldAddr 0 1 (.t 27))⟩,
   ⟨(some 29), none, (.load1 (.t 28))⟩,
   ⟨(some 30), none, (.mv (.t 0))⟩,
   ⟨(some 31), none, (.nilCheck (.t 30))⟩,
   ⟨(some 32), none, (.fieldAddr 1 1 (.t 31))⟩,
   ⟨(some 33), none, (.load1 (.t 32))⟩,
   ⟨(some 34), none, (.bin .sub .num (.t 33) (.c (.int .i64 1)))⟩,
   ⟨(some 35), none, (.ixSlice 1 (.t 29) (.t 34))⟩,
   ⟨(some 36), none, (.load1 (.t 35))⟩,
   ⟨(some 37), none, (.call 40 [(.t 36), (.c (.int .i64 0)), (.c (.int .i64 1073741824))])⟩,
   ⟨(some 38), none, (.mv (.t 1))⟩,
   ⟨(some 39), none, (.bin .rem .num (.t 37) (.t 38))⟩,
   ⟨(some 4), none, (.mv (.t 39))⟩] []) .ret))))⟩
theorem caf29 : cFunc Try.prog Try.f29 = some af29 := by kernel_rfl
/-- limelight/limelightref1.Down -/
def af30 : AFunc := ⟨17, [(.tmp 4)],
 (.seq
 (.reg [⟨(some 4), none, (.mv (.c (.int .u64 0)))⟩])
 (.seq
 (.reg [⟨(some 8), none, (.mv (.t 0))⟩,
   ⟨(some 9), none, (.mv (.t 1))⟩,
   ⟨(some 10), none, (.call 41 [(.t 8), (.t 9)])⟩,
   ⟨(some 7), none, (.mv (.t 10))⟩,
   ⟨(some 11), none, (.extract 0 (.t 7))⟩,
   ⟨(some 12), none, (.extract 1 (.t 7))⟩,
   ⟨(some 5), none, (.mv (.t 11))⟩,
   ⟨(some 6), none, (.mv (.t 12))⟩])
 (.seq
 (.reg [⟨(some 13), none, (.mv (.t 5))⟩,
   ⟨(some 14), none, (.mv (.t 6))⟩,
   ⟨(some 15), none, (.mv (.t 1))⟩,
   ⟨(some 16), none, (.call 42 [(.t 13), (.t 14), (.t 15)])⟩,
   ⟨(some 4), none, (.mv (.t 16))⟩]) .ret)))⟩
theorem caf30 : cFunc Try.prog Try.f30 = some af30 := by kernel_rfl
def af31_l0 : AC :=
 (.seq
 (.reg [⟨(some 9), none, (.bin .lss .num (.t 8) (.t 7))⟩])
 (.seq
 (.cond (.t 9) .skip (.exit 0))
 (.seq
 (.block 1
 (.seq
 (.reg [⟨(some 10), none, (.ixSlice 3 (.t 6) (.t 8))⟩,
   ⟨(some 11), none, (.loadN 3 (.t 10))⟩,
   ⟨(some 5), none, (.alloc [(.int .u32 0), (.int .u64 0), (.int .i64 0)])⟩,
   ⟨none, none, (.store 3 (.t 5) (.t 11))⟩])
 (.reg [⟨(some 12), none, (.mv (.t 3))⟩,
   ⟨(some 13), none, (.loadN 3 (.t 5))⟩,
   ⟨(some 14), none, (.call 43 [(.t 13)])⟩,
   ⟨(some 15), none, (.buildSlice 3 [(.int .u32 0), (.int .u64 0), (.int .i64 0)] 1 [(0, (3, (.t 14)))])⟩,
   ⟨(some 16), none, (.append 3 24 (.t 12) (.t 15))⟩,
   ⟨(some 3), none, (.mv (.t 16))⟩])))
 (.reg [⟨(some 17), none, (.bin .add .num (.t 8) (.c (.int .i64 1)))⟩,
   ⟨(some 8), none, (.mv (.t 17))⟩]))))
/-- limelight/limelightref13.all -/
def af31 : AFunc := ⟨19, [(.tmp 2)],
 (.seq
 (.reg [⟨(some 2), none, (.mv (.c (.slice none 0 0 none)))⟩])
 (.seq
 (.reg [⟨(some 3), none, (.mv (.c (.slice none 0 0 none)))⟩])
 (.seq
 (.seq
 (.reg [⟨(some 6), none, (.mv (.t 0))⟩,
   ⟨(some 7), none, (.len (.t 6))⟩,
   ⟨(some 8), none, (.mv (.c (.int .i64 0)))⟩])
 (.block 0
 (.loop af31_l0)))
 (.seq
 (.reg [⟨(some 18), none, (.mv (.t 3))⟩,
   ⟨(some 2), none, (.mv (.t 18))⟩]) .ret))))⟩
theorem caf31 : cFunc Try.prog Try.f31 = some af31 := by kernel_rfl
def af32_l0 : AC :=
 (.seq
 (.reg [⟨(some 17), none, (.bin .lss .num (.t 16) (.t 15))⟩])
 (.seq
 (.cond (.t 17) .skip (.exit 0))
 (.seq
 (.block 1
 (.seq
 (.reg [⟨(some 18), none, (.ixSlice 3 (.t 14) (.t 16))⟩,
   ⟨(some 19), none, (.loadN 3 (.t 18))⟩,
   ⟨(some 9), none, (.alloc [(.int .u32 0), (.int .u64 0), (.int .i64 0)])⟩,
   ⟨none, none, (.store 3 (.t 9) (.t 19))⟩])
 (.seq
 (.seq
 (.reg [⟨(some 20), none, (.fieldAddr 2 1 (.t 9))⟩,
   ⟨(some 21), none, (.load1 (.t 20))⟩,
   ⟨(some 22), none, (.fieldAddr 2 1 (.t 3))⟩,
   ⟨(some 23), none, (.load1 (.t 22))⟩,
   ⟨(some 24), none, (.bin .leq .num (.t 21) (.t 23))⟩,
   ⟨(some 25), none, (.mv (.t 24))⟩,
   ⟨(some 26), (some (25, false)), (.fieldAddr 1 1 (.t 9))⟩,
   ⟨(some 27), (some (25, false)), (.load1 (.t 26))⟩,
   ⟨(some 28), (some (25, false)), (.fieldAddr 1 1 (.t 3))⟩,
   ⟨(some 29), (some (25, false)), (.load1 (.t 28))⟩,
   ⟨(some 30), (some (25, false)), (.bin .lss .num (.t 27) (.t 29))⟩,
   ⟨(some 31), none, (.pick (.t 25) (.c (.bool true)) (.t 30))⟩])
 (.cond (.t 31) (.exit 1) .skip))
 (.seq
 (.seq
 (.reg [⟨(some 32), none, (.mv (.t 7))⟩,
   ⟨(some 33), none, (.un .not (.t 32))⟩])
 (.cond (.t 33)
 (.seq
 (.reg [⟨(some 34), none, (.loadN 3 (.t 9))⟩,
   ⟨none, none, (.store 3 (.t 6) (.t 34))⟩,
   ⟨(some 7), none, (.mv (.c (.bool true)))⟩]) (.exit 1)) .skip))
 (.seq
 (.dreg [⟨(some 35), none, (.fieldAddr 1 1 (.t 9))⟩,
   ⟨(some 36), none, (.load1 (.t 35))⟩,
   ⟨(some 37), none, (.fieldAddr 1 1 (.t 3))⟩,
   ⟨(some 38), none, (.load1 (.t 37))⟩,
   ⟨(some 39), none, (.bin .sub .num (.t 36) (.t 38))⟩,
   ⟨(some 40), none, (.conv (.int .i64) (.t 39))⟩,
   ⟨(some 41), none, (.fieldAddr 2 1 (.t 6))⟩,
   ⟨(some 42), none, (.load1 (.t 41))⟩,
   ⟨(some 43), none, (.fieldAddr 2 1 (.t 3))⟩,
   ⟨(some 44), none, (.load1 (.t 43))⟩,
   ⟨(some 45), none, (.bin .sub .num (.t 42) (.t 44))⟩,
   ⟨(some 10), none, (.mv (.t 40))⟩,
   ⟨(some 11), none, (.mv (.t 45))⟩] [])
 (.seq
 (.dreg [⟨(some 46), none, (.fieldAddr 1 1 (.t 6))⟩,
   ⟨(some 47), none, (.load1 (.t 46))⟩,
   ⟨(some 48), none, (.fieldAddr 1 1 (.t 3))⟩,
   ⟨(some 49), none, (.load1 (.t 48))⟩,
   ⟨(some 50), none, (.bin .sub .num (.t 47) (.t 49))⟩,
   ⟨(some 51), none, (.conv (.int .i64) (.t 50))⟩,
   ⟨(some 52), none, (.fieldAddr 2 1 (.t 9))⟩,
   ⟨(some 53), none, (.load1 (.t 52))⟩,
   ⟨(some 54), none, (.fieldAddr 2 1 (.t 3))⟩,
   ⟨(some 55), none, (.load1 (.t 54))⟩,
   ⟨(some 56), none, (.bin .sub .num (.t 53) (.t 55))⟩,
   ⟨(some 12), none, (.mv (.t 51))⟩,
   ⟨(some 13), none, (.mv (.t 56))⟩] [])
 (.seq
 (.reg [⟨(some 57), none, (.mv (.t 10))⟩,
   ⟨(some 58), none, (.mv (.t 11))⟩,
   ⟨(some 59), none, (.mv (.t 12))⟩,
   ⟨(some 60), none, (.mv (.t 13))⟩,
   ⟨(some 61), none, (.call 44 [(.t 57), (.t 58), (.t 59), (.t 60)])⟩,
   ⟨(some 62), none, (.mv (.t 61))⟩,
   ⟨(some 63), (some (62, false)), (.mv (.t 12))⟩,
   ⟨(some 64), (some (62, false)), (.mv (.t 13))⟩,
   ⟨(some 65), (some (62, false)), (.mv (.t 10))⟩,
   ⟨(some 66), (some (62, false)), (.mv (.t 11))⟩,
   ⟨(some 67), (some (62, false)), (.call 44 [(.t 63), (.t 64), (.t 65), (.t 66)])⟩,
   ⟨(some 68), (some (62, false)), (.un .not (.t 67))⟩,
   ⟨(some 69), (some (62, false)), (.mv (.t 68))⟩,
   ⟨(some 70), (some (69, true)), (.fieldAddr 2 1 (.t 9))⟩,
   ⟨(some 71), (some (69, true)), (.load1 (.t 70))⟩,
   ⟨(some 72), (some (69, true)), (.fieldAddr 2 1 (.t 6))⟩,
   ⟨(some 73), (some (69, true)), (.load1 (.t 72))⟩,
   ⟨(some 74), (some (69, true)), (.bin .gtr .num (.t 71) (.t 73))⟩,
   ⟨(some 75), (some (69, true)), (.mv (.t 74))⟩,
   ⟨(some 76), (some (75, false)), (.fieldAddr 2 1 (.t 9))⟩,
   ⟨(some 77), (some (75, false)), (.load1 (.t 76))⟩,
   ⟨(some 78), (some (75, false)), (.fieldAddr 2 1 (.t 6))⟩,
   ⟨(some 79), (some (75, false)), (.load1 (.t 78))⟩,
   ⟨(some 80), (some (75, false)), (.bin .eql .num (.t 77) (.t 79))⟩,
   ⟨(some 81), (some (75, false)), (.mv (.t 80))⟩,
   ⟨(some 82), (some (81, true)), (.fieldAddr 0 1 (.t 9))⟩,
   ⟨(some 83), (some (81, true)), (.load1 (.t 82))⟩,
   ⟨(some 84), (some (81, true)), (.fieldAddr 0 1 (.t 6))⟩,
   ⟨(some 85), (some (81, true)), (.load1 (.t 84))⟩,
   ⟨(some 86), (some (81, true)), (.bin .lss .num (.t 83) (.t 85))⟩,
   ⟨(some 87), (some (75, false)), (.pick (.t 81) (.t 86) (.c (.bool false)))⟩,
   ⟨(some 88), (some (69, true)), (.pick (.t 75) (.c (.bool true)) (.t 87))⟩,
   ⟨(some 89), (some (62, false)), (.pick (.t 69) (.t 88) (.c (.bool false)))⟩,
   ⟨(some 90), none, (.pick (.t 62) (.c (.bool true)) (.t 89))⟩])
 (.cond (.t 90)
 (.reg [⟨(some 91), none, (.loadN 3 (.t 9))⟩,
   ⟨none, none, (.store 3 (.t 6) (.t 91))⟩]) .skip))))))))
 (.reg [⟨(some 92), none, (.bin .add .num (.t 16) (.c (.int .i64 1)))⟩,
   ⟨(some 16), none, (.mv (.t 92))⟩]))))
/-- limelight/limelightref13.meets -/
def af32 : AFunc := ⟨117, [(.cellN 4 3), (.tmp 5)],
 (.seq
 (.reg [⟨(some 3), none, (.box (.t 1))⟩,
   ⟨(some 4), none, (.alloc [(.int .u32 0), (.int .u64 0), (.int .i64 0)])⟩,
   ⟨(some 5), none, (.mv (.c (.bool false)))⟩])
 (.seq
 (.reg [⟨(some 6), none, (.alloc [(.int .u32 0), (.int .u64 0), (.int .i64 0)])⟩])
 (.seq
 (.reg [⟨(some 7), none, (.mv (.c (.bool false)))⟩])
 (.seq
 (.seq
 (.reg [⟨(some 14), none, (.mv (.t 0))⟩,
   ⟨(some 15), none, (.len (.t 14))⟩,
   ⟨(some 16), none, (.mv (.c (.int .i64 0)))⟩])
 (.block 0
 (.loop af32_l0)))
 (.seq
 (.seq
 (.reg [⟨(some 93), none, (.mv (.t 7))⟩,
   ⟨(some 94), none, (.un .not (.t 93))⟩,
   ⟨(some 95), none, (.mv (.t 94))⟩,
   ⟨(some 96), (some (95, false)), (.fieldAddr 2 1 (.t 3))⟩,
   ⟨(some 97), (some (95, false)), (.load1 (.t 96))⟩,
   ⟨(some 98), (some (95, false)), (.fieldAddr 1 1 (.t 6))⟩,
   ⟨(some 99), (some (95, false)), (.load1 (.t 98))⟩,
   ⟨(some 100), (some (95, false)), (.fieldAddr 1 1 (.t 3))⟩,
   ⟨(some 101), (some (95, false)), (.load1 (.t 100))⟩,
   ⟨(some 102), (some (95, false)), (.bin .sub .num (.t 99) (.t 101))⟩,
   ⟨(some 103), (some (95, false)), (.conv (.int .i64) (.t 102))⟩,
   ⟨(some 104), (some (95, false)), (.fieldAddr 1 1 (.t 3))⟩,
   ⟨(some 105), (some (95, false)), (.load1 (.t 104))⟩,
   ⟨(some 106), (some (95, false)), (.conv (.int .i64) (.t 105))⟩,
   ⟨(some 107), (some (95, false)), (.fieldAddr 2 1 (.t 6))⟩,
   ⟨(some 108), (some (95, false)), (.load1 (.t 107))⟩,
   ⟨(some 109), (some (95, false)), (.fieldAddr 2 1 (.t 3))⟩,
   ⟨(some 110), (some (95, false)), (.load1 (.t 109))⟩,
   ⟨(some 111), (some (95, false)), (.bin .sub .num (.t 108) (.t 110))⟩,
   ⟨(some 112), (some (95, false)), (.call 44 [(.t 97), (.t 103), (.t 106), (.t 111)])⟩,
   ⟨(some 113), (some (95, false)), (.un .not (.t 112))⟩,
   ⟨(some 114), none, (.pick (.t 95) (.c (.bool true)) (.t 113))⟩])
 (.cond (.t 114)
 (.seq
 (.reg [⟨(some 115), none, (.build [(.int .u32 0), (.int .u64 0), (.int .i64 0)] [])⟩,
   ⟨none, none, (.store 3 (.t 4) (.t 115))⟩,
   ⟨(some 5), none, (.mv (.c (.bool false)))⟩]) .ret) .skip))
 (.seq
 (.reg [⟨(some 116), none, (.loadN 3 (.t 6))⟩,
   ⟨none, none, (.store 3 (.t 4) (.t 116))⟩,
   ⟨(some 5), none, (.mv (.c (.bool true)))⟩]) .ret))))))⟩
theorem caf32 : cFunc Try.prog Try.f32 = some af32 := by kernel_rfl
/-- slices.ContainsFunc[[]limelight/api.Tuple,limelight/api.Tuple] -/
def af33 : AFunc := ⟨9, [(.tmp 4)],
 (.seq
 (.reg [⟨(some 4), none, (.mv (.c (.bool false)))⟩])
 (.seq
 (.reg [⟨(some 5), none, (.mv (.t 0))⟩,
   ⟨(some 6), none, (.mv (.t 1))⟩,
   ⟨(some 7), none, (.call 45 [(.t 5), (.t 6)])⟩,
   ⟨(some 8), none, (.bin .geq .num (.t 7) (.c (.int .i64 0)))⟩,
   ⟨(some 4), none, (.mv (.t 8))⟩]) .ret))⟩
theorem caf33 : cFunc Try.prog Try.f33 = some af33 := by kernel_rfl
/-- limelight/bound.Owns$1 -/
def af34 : AFunc := ⟨8, [(.tmp 3)],
 (.seq
 (.reg [⟨(some 2), none, (.box (.t 0))⟩,
   ⟨(some 3), none, (.mv (.c (.bool false)))⟩])
 (.seq
 (.reg [⟨(some 4), none, (.fieldAddr 0 1 (.t 2))⟩,
   ⟨(some 5), none, (.load1 (.t 4))⟩,
   ⟨(some 6), none, (.load1 (.t 1))⟩,
   ⟨(some 7), none, (.bin .eql .num (.t 5) (.t 6))⟩,
   ⟨(some 3), none, (.mv (.t 7))⟩]) .ret))⟩
theorem caf34 : cFunc Try.prog Try.f34 = some af34 := by kernel_rfl
/-- limelight/bound.held -/
def af35 : AFunc := ⟨13, [(.cellN 2 3)],
 (.seq
 (.reg [⟨(some 1), none, (.box (.t 0))⟩,
   ⟨(some 2), none, (.alloc [(.int .u32 0), (.int .u64 0), (.int .i64 0)])⟩])
 (.seq
 (.reg [⟨(some 3), none, (.fieldAddr 0 1 (.t 1))⟩,
   ⟨(some 4), none, (.load1 (.t 3))⟩,
   ⟨(some 5), none, (.fieldAddr 1 1 (.t 1))⟩,
   ⟨(some 6), none, (.load1 (.t 5))⟩,
   ⟨(some 7), none, (.mn [(.t 6), (.c (.int .u64 1099511627776))])⟩,
   ⟨(some 8), none, (.fieldAddr 2 1 (.t 1))⟩,
   ⟨(some 9), none, (.load1 (.t 8))⟩,
   ⟨(some 10), none, (.mn [(.t 9), (.c (.int .i64 511))])⟩,
   ⟨(some 11), none, (.mx [(.c (.int .i64 0)), (.t 10)])⟩,
   ⟨(some 12), none, (.build [(.int .u32 0), (.int .u64 0), (.int .i64 0)] [(0, (1, (.t 4))), (1, (1, (.t 7))), (2, (1, (.t 11)))])⟩,
   ⟨none, none, (.store 3 (.t 2) (.t 12))⟩]) .ret))⟩
theorem caf35 : cFunc Try.prog Try.f35 = some af35 := by kernel_rfl
/-- cmp.isNaN[uint64] -/
def af36 : AFunc := ⟨6, [(.tmp 2)],
 (.seq
 (.reg [⟨(some 2), none, (.mv (.c (.bool false)))⟩])
 (.seq
 (.reg [⟨(some 3), none, (.mv (.t 0))⟩,
   ⟨(some 4), none, (.mv (.t 0))⟩,
   ⟨(some 5), none, (.bin .neq .num (.t 3) (.t 4))⟩,
   ⟨(some 2), none, (.mv (.t 5))⟩]) .ret))⟩
theorem caf36 : cFunc Try.prog Try.f36 = some af36 := by kernel_rfl
/-- cmp.Compare[int] -/
def af37 : AFunc := ⟨20, [(.tmp 4)],
 (.seq
 (.reg [⟨(some 4), none, (.mv (.c (.int .i64 0)))⟩])
 (.seq
 (.reg [⟨(some 7), none, (.mv (.t 0))⟩,
   ⟨(some 8), none, (.call 46 [(.t 7)])⟩,
   ⟨(some 5), none, (.mv (.t 8))⟩])
 (.seq
 (.reg [⟨(some 9), none, (.mv (.t 1))⟩,
   ⟨(some 10), none, (.call 46 [(.t 9)])⟩,
   ⟨(some 6), none, (.mv (.t 10))⟩])
 (.seq
 (.seq
 (.reg [⟨(some 11), none, (.mv (.t 5))⟩])
 (.cond (.t 11)
 (.seq
 (.seq
 (.reg [⟨(some 12), none, (.mv (.t 6))⟩])
 (.cond (.t 12)
 (.seq
 (.reg [⟨(some 4), none, (.mv (.c (.int .i64 0)))⟩]) .ret) .skip))
 (.seq
 (.reg [⟨(some 4), none, (.mv (.c (.int .i64 (-1))))⟩]) .ret)) .skip))
 (.seq
 (.seq
 (.reg [⟨(some 13), none, (.mv (.t 6))⟩])
 (.cond (.t 13)
 (.seq
 (.reg [⟨(some 4), none, (.mv (.c (.int .i64 1)))⟩]) .ret) .skip))
 (.seq
 (.seq
 (.reg [⟨(some 14), none, (.mv (.t 0))⟩,
   ⟨(some 15), none, (.mv (.t 1))⟩,
   ⟨(some 16), none, (.bin .lss .num (.t 14) (.t 15))⟩])
 (.cond (.t 16)
 (.seq
 (.reg [⟨(some 4), none, (.mv (.c (.int .i64 (-1))))⟩]) .ret) .skip))
 (.seq
 (.seq
 (.reg [⟨(some 17), none, (.mv (.t 0))⟩,
   ⟨(some 18), none, (.mv (.t 1))⟩,
   ⟨(some 19), none, (.bin .gtr .num (.t 17) (.t 18))⟩])
 (.cond (.t 19)
 (.seq
 (.reg [⟨(some 4), none, (.mv (.c (.int .i64 1)))⟩]) .ret) .skip))
 (.seq
 (.reg [⟨(some 4), none, (.mv (.c (.int .i64 0)))⟩]) .ret))))))))⟩
theorem caf37 : cFunc Try.prog Try.f37 = some af37 := by kernel_rfl
/-- cmp.Compare[uint32] -/
def af38 : AFunc := ⟨20, [(.tmp 4)],
 (.seq
 (.reg [⟨(some 4), none, (.mv (.c (.int .i64 0)))⟩])
 (.seq
 (.reg [⟨(some 7), none, (.mv (.t 0))⟩,
   ⟨(some 8), none, (.call 47 [(.t 7)])⟩,
   ⟨(some 5), none, (.mv (.t 8))⟩])
 (.seq
 (.reg [⟨(some 9), none, (.mv (.t 1))⟩,
   ⟨(some 10), none, (.call 47 [(.t 9)])⟩,
   ⟨(some 6), none, (.mv (.t 10))⟩])
 (.seq
 (.seq
 (.reg [⟨(some 11), none, (.mv (.t 5))⟩])
 (.cond (.t 11)
 (.seq
 (.seq
 (.reg [⟨(some 12), none, (.mv (.t 6))⟩])
 (.cond (.t 12)
 (.seq
 (.reg [⟨(some 4), none, (.mv (.c (.int .i64 0)))⟩]) .ret) .skip))
 (.seq
 (.reg [⟨(some 4), none, (.mv (.c (.int .i64 (-1))))⟩]) .ret)) .skip))
 (.seq
 (.seq
 (.reg [⟨(some 13), none, (.mv (.t 6))⟩])
 (.cond (.t 13)
 (.seq
 (.reg [⟨(some 4), none, (.mv (.c (.int .i64 1)))⟩]) .ret) .skip))
 (.seq
 (.seq
 (.reg [⟨(some 14), none, (.mv (.t 0))⟩,
   ⟨(some 15), none, (.mv (.t 1))⟩,
   ⟨(some 16), none, (.bin .lss .num (.t 14) (.t 15))⟩])
 (.cond (.t 16)
 (.seq
 (.reg [⟨(some 4), none, (.mv (.c (.int .i64 (-1))))⟩]) .ret) .skip))
 (.seq
 (.seq
 (.reg [⟨(some 17), none, (.mv (.t 0))⟩,
   ⟨(some 18), none, (.mv (.t 1))⟩,
   ⟨(some 19), none, (.bin .gtr .num (.t 17) (.t 18))⟩])
 (.cond (.t 19)
 (.seq
 (.reg [⟨(some 4), none, (.mv (.c (.int .i64 1)))⟩]) .ret) .skip))
 (.seq
 (.reg [⟨(some 4), none, (.mv (.c (.int .i64 0)))⟩]) .ret))))))))⟩
theorem caf38 : cFunc Try.prog Try.f38 = some af38 := by kernel_rfl
/-- limelight/bound.next$1 -/
def af39 : AFunc := ⟨36, [(.tmp 5)],
 (.seq
 (.reg [⟨(some 3), none, (.box (.t 0))⟩,
   ⟨(some 4), none, (.box (.t 1))⟩,
   ⟨(some 5), none, (.mv (.c (.int .i64 0)))⟩])
 (.seq
 (.dreg [⟨(some 6), none, (.fieldAddr 1 1 (.t 3))⟩,
   ⟨(some 7), none, (.load1 (.t 6))⟩,
   ⟨(some 8), none, (.fieldAddr 1 1 (.t 2))⟩,
   ⟨(some 9), none, (.load1 (.t 8))⟩,
   ⟨(some 10), none, (.bin .sub .num (.t 7) (.t 9))⟩,
   ⟨(some 11), none, (.fieldAddr 2 1 (.t 4))⟩,
   ⟨(some 12), none, (.load1 (.t 11))⟩,
   ⟨(some 13), none, (.fieldAddr 2 1 (.t 2))⟩,
   ⟨(some 14), none, (.load1 (.t 13))⟩,
   ⟨(some 15), none, (.bin .sub .num (.t 12) (.t 14))⟩,
   ⟨(some 16), none, (.conv (.int .u64) (.t 15))⟩,
   ⟨(some 17), none, (.bin .mul .num (.t 10) (.t 16))⟩,
   ⟨(some 18), none, (.fieldAddr 1 1 (.t 4))⟩,
   ⟨(some 19), none, (.load1 (.t 18))⟩,
   ⟨(some 20), none, (.fieldAddr 1 1 (.t 2))⟩,
   ⟨(some 21), none, (.load1 (.t 20))⟩,
   ⟨(some 22), none, (.bin .sub .num (.t 19) (.t 21))⟩,
   ⟨(some 23), none, (.fieldAddr 2 1 (.t 3))⟩,
   ⟨(some 24), none, (.load1 (.t 23))⟩,
   ⟨(some 25), none, (.fieldAddr 2 1 (.t 2))⟩,
   ⟨(some 26), none, (.load1 (.t 25))⟩,
   ⟨(some 27), none, (.bin .sub .num (.t 24) (.t 26))⟩,
   ⟨(some 28), none, (.conv (.int .u64) (.t 27))⟩,
   ⟨(some 29), none, (.bin .mul .num (.t 22) (.t 28))⟩,
   ⟨(some 30), none, (.call 25 [(.t 17), (.t 29)])⟩,
   ⟨(some 31), none, (.loadN 3 (.t 3))⟩,
   ⟨(some 32), none, (.loadN 3 (.t 4))⟩,
   ⟨(some 33), none, (.call 26 [(.t 31), (.t 32)])⟩,
   ⟨(some 34), none, (.buildSlice 1 [(.int .i64 0)] 2 [(0, (1, (.t 30))), (1, (1, (.t 33)))])⟩,
   ⟨(some 35), none, (.call 24 [(.t 34)])⟩,
   ⟨(some 5), none, (.mv (.t 35))⟩] [(25, 24), (26, 24)]) .ret))⟩
theorem caf39 : cFunc Try.prog Try.f39 = some af39 := by kernel_rfl
/-- limelight/limelightbook.Within -/
def af40 : AFunc := ⟨33, [(.tmp 6)],
 (.seq
 (.reg [⟨(some 6), none, (.mv (.c (.int .i64 0)))⟩])
 (.seq
 (.seq
 (.reg [⟨(some 7), none, (.mv (.t 0))⟩,
   ⟨(some 8), none, (.mv (.t 1))⟩,
   ⟨(some 9), none, (.bin .geq .num (.t 7) (.t 8))⟩,
   ⟨(some 10), none, (.mv (.t 9))⟩,
   ⟨(some 11), (some (10, true)), (.mv (.t 0))⟩,
   ⟨(some 12), (some (10, true)), (.mv (.t 2))⟩,
   ⟨(some 13), (some (10, true)), (.bin .leq .num (.t 11) (.t 12))⟩,
   ⟨(some 14), none, (.pick (.t 10) (.t 13) (.c (.bool false)))⟩])
 (.cond (.t 14)
 (.seq
 (.reg [⟨(some 15), none, (.mv (.t 0))⟩,
   ⟨(some 6), none, (.mv (.t 15))⟩]) .ret) .skip))
 (.seq
 (.reg [⟨(some 16), none, (.mv (.t 0))⟩,
   ⟨(some 17), none, (.mv (.t 2))⟩,
   ⟨(some 18), none, (.mv (.t 1))⟩,
   ⟨(some 19), none, (.bin .sub .num (.t 17) (.t 18))⟩,
   ⟨(some 20), none, (.bin .add .num (.t 19) (.c (.int .i64 1)))⟩,
   ⟨(some 21), none, (.bin .rem .num (.t 16) (.t 20))⟩,
   ⟨(some 0), none, (.mv (.t 21))⟩])
 (.seq
 (.seq
 (.reg [⟨(some 22), none, (.mv (.t 0))⟩,
   ⟨(some 23), none, (.bin .lss .num (.t 22) (.c (.int .i64 0)))⟩])
 (.cond (.t 23)
 (.reg [⟨(some 24), none, (.mv (.t 0))⟩,
   ⟨(some 25), none, (.mv (.t 2))⟩,
   ⟨(some 26), none, (.bin .add .num (.t 24) (.t 25))⟩,
   ⟨(some 27), none, (.mv (.t 1))⟩,
   ⟨(some 28), none, (.bin .sub .num (.t 26) (.t 27))⟩,
   ⟨(some 29), none, (.bin .add .num (.t 28) (.c (.int .i64 1)))⟩,
   ⟨(some 0), none, (.mv (.t 29))⟩]) .skip))
 (.seq
 (.reg [⟨(some 30), none, (.mv (.t 1))⟩,
   ⟨(some 31), none, (.mv (.t 0))⟩,
   ⟨(some 32), none, (.bin .add .num (.t 30) (.t 31))⟩,
   ⟨(some 6), none, (.mv (.t 32))⟩]) .ret)))))⟩
theorem caf40 : cFunc Try.prog Try.f40 = some af40 := by kernel_rfl
def af41_l0 : AC :=
 (.seq
 (.seq
 (.reg [⟨(some 13), none, (.mv (.t 0))⟩,
   ⟨(some 14), none, (.mv (.t 6))⟩,
   ⟨(some 15), none, (.conv (.int .u64) (.t 14))⟩,
   ⟨(some 16), none, (.bin .shr .num (.t 13) (.t 15))⟩,
   ⟨(some 17), none, (.mv (.t 1))⟩,
   ⟨(some 18), none, (.conv (.int .u64) (.t 17))⟩,
   ⟨(some 19), none, (.bin .shl .num (.c (.int .u64 1)) (.t 18))⟩,
   ⟨(some 20), none, (.bin .geq .num (.t 16) (.t 19))⟩])
 (.cond (.t 20) .skip (.exit 0)))
 (.block 1
 (.reg [⟨(some 21), none, (.mv (.t 6))⟩,
   ⟨(some 22), none, (.bin .add .num (.t 21) (.c (.int .i64 1)))⟩,
   ⟨(some 6), none, (.mv (.t 22))⟩])))
/-- limelight/limelightref1.Pack -/
def af41 : AFunc := ⟨29, [(.tmp 4), (.tmp 5)],
 (.seq
 (.reg [⟨(some 4), none, (.mv (.c (.int .i64 0)))⟩,
   ⟨(some 5), none, (.mv (.c (.int .u32 0)))⟩])
 (.seq
 (.seq
 (.reg [⟨(some 7), none, (.mv (.t 1))⟩,
   ⟨(some 8), none, (.bin .lss .num (.t 7) (.c (.int .i64 1)))⟩,
   ⟨(some 9), none, (.mv (.t 8))⟩,
   ⟨(some 10), (some (9, false)), (.mv (.t 1))⟩,
   ⟨(some 11), (some (9, false)), (.bin .gtr .num (.t 10) (.c (.int .i64 24)))⟩,
   ⟨(some 12), none, (.pick (.t 9) (.c (.bool true)) (.t 11))⟩])
 (.cond (.t 12)
 (.seq
 (.reg [⟨(some 4), none, (.mv (.c (.int .i64 0)))⟩,
   ⟨(some 5), none, (.mv (.c (.int .u32 0)))⟩]) .ret) .skip))
 (.seq
 (.reg [⟨(some 6), none, (.mv (.c (.int .i64 0)))⟩])
 (.seq
 (.block 0
 (.loop af41_l0))
 (.seq
 (.reg [⟨(some 23), none, (.mv (.t 6))⟩,
   ⟨(some 24), none, (.mv (.t 0))⟩,
   ⟨(some 25), none, (.mv (.t 6))⟩,
   ⟨(some 26), none, (.conv (.int .u64) (.t 25))⟩,
   ⟨(some 27), none, (.bin .shr .num (.t 24) (.t 26))⟩,
   ⟨(some 28), none, (.conv (.int .u32) (.t 27))⟩,
   ⟨(some 4), none, (.mv (.t 23))⟩,
   ⟨(some 5), none, (.mv (.t 28))⟩]) .ret)))))⟩
theorem caf41 : cFunc Try.prog Try.f41 = some af41 := by kernel_rfl
/-- limelight/limelightref1.Open -/
def af42 : AFunc := ⟨42, [(.tmp 6)],
 (.seq
 (.reg [⟨(some 6), none, (.mv (.c (.int .u64 0)))⟩])
 (.seq
 (.seq
 (.reg [⟨(some 8), none, (.mv (.t 2))⟩,
   ⟨(some 9), none, (.bin .lss .num (.t 8) (.c (.int .i64 1)))⟩,
   ⟨(some 10), none, (.mv (.t 9))⟩,
   ⟨(some 11), (some (10, false)), (.mv (.t 2))⟩,
   ⟨(some 12), (some (10, false)), (.bin .gtr .num (.t 11) (.c (.int .i64 24)))⟩,
   ⟨(some 13), none, (.pick (.t 10) (.c (.bool true)) (.t 12))⟩,
   ⟨(some 14), none, (.mv (.t 13))⟩,
   ⟨(some 15), (some (14, false)), (.mv (.t 0))⟩,
   ⟨(some 16), (some (14, false)), (.bin .lss .num (.t 15) (.c (.int .i64 0)))⟩,
   ⟨(some 17), none, (.pick (.t 14) (.c (.bool true)) (.t 16))⟩,
   ⟨(some 18), none, (.mv (.t 17))⟩,
   ⟨(some 19), (some (18, false)), (.mv (.t 0))⟩,
   ⟨(some 20), (some (18, false)), (.bin .gtr .num (.t 19) (.c (.int .i64 63)))⟩,
   ⟨(some 21), none, (.pick (.t 18) (.c (.bool true)) (.t 20))⟩,
   ⟨(some 22), none, (.mv (.t 21))⟩,
   ⟨(some 23), (some (22, false)), (.mv (.t 1))⟩,
   ⟨(some 24), (some (22, false)), (.mv (.t 2))⟩,
   ⟨(some 25), (some (22, false)), (.conv (.int .u64) (.t 24))⟩,
   ⟨(some 26), (some (22, false)), (.bin .shl .num (.c (.int .u32 1)) (.t 25))⟩,
   ⟨(some 27), (some (22, false)), (.bin .geq .num (.t 23) (.t 26))⟩,
   ⟨(some 28), none, (.pick (.t 22) (.c (.bool true)) (.t 27))⟩])
 (.cond (.t 28)
 (.seq
 (.reg [⟨(some 6), none, (.mv (.c (.int .u64 0)))⟩]) .ret) .skip))
 (.seq
 (.reg [⟨(some 29), none, (.mv (.t 1))⟩,
   ⟨(some 30), none, (.conv (.int .u64) (.t 29))⟩,
   ⟨(some 31), none, (.mv (.t 0))⟩,
   ⟨(some 32), none, (.conv (.int .u64) (.t 31))⟩,
   ⟨(some 33), none, (.bin .shl .num (.t 30) (.t 32))⟩,
   ⟨(some 7), none, (.mv (.t 33))⟩])
 (.seq
 (.seq
 (.reg [⟨(some 34), none, (.mv (.t 7))⟩,
   ⟨(some 35), none, (.mv (.t 0))⟩,
   ⟨(some 36), none, (.conv (.int .u64) (.t 35))⟩,
   ⟨(some 37), none, (.bin .shr .num (.t 34) (.t 36))⟩,
   ⟨(some 38), none, (.mv (.t 1))⟩,
   ⟨(some 39), none, (.conv (.int .u64) (.t 38))⟩,
   ⟨(some 40), none, (.bin .neq .num (.t 37) (.t 39))⟩])
 (.cond (.t 40)
 (.seq
 (.reg [⟨(some 6), none, (.mv (.c (.int .u64 18446744073709551615)))⟩]) .ret) .skip))
 (.seq
 (.reg [⟨(some 41), none, (.mv (.t 7))⟩,
   ⟨(some 6), none, (.mv (.t 41))⟩]) .ret)))))⟩
theorem caf42 : cFunc Try.prog Try.f42 = some af42 := by kernel_rfl
/-- limelight/limelightref13.hold -/
def af43 : AFunc := ⟨13, [(.cellN 2 3)],
 (.seq
 (.reg [⟨(some 1), none, (.box (.t 0))⟩,
   ⟨(some 2), none, (.alloc [(.int .u32 0), (.int .u64 0), (.int .i64 0)])⟩])
 (.seq
 (.reg [⟨(some 3), none, (.fieldAddr 1 1 (.t 1))⟩,
   ⟨(some 4), none, (.load1 (.t 3))⟩,
   ⟨(some 5), none, (.mn [(.t 4), (.c (.int .u64 1099511627776))])⟩,
   ⟨(some 6), none, (.fieldAddr 2 1 (.t 1))⟩,
   ⟨(some 7), none, (.load1 (.t 6))⟩,
   ⟨(some 8), none, (.mn [(.t 7), (.c (.int .i64 511))])⟩,
   ⟨(some 9), none, (.mx [(.t 8), (.c (.int .i64 0))])⟩,
   ⟨(some 10), none, (.fieldAddr 1 1 (.t 1))⟩,
   ⟨none, none, (.store 1 (.t 10) (.t 5))⟩,
   ⟨(some 11), none, (.fieldAddr 2 1 (.t 1))⟩,
   ⟨none, none, (.store 1 (.t 11) (.t 9))⟩])
 (.seq
 (.reg [⟨(some 12), none, (.loadN 3 (.t 1))⟩,
   ⟨none, none, (.store 3 (.t 2) (.t 12))⟩]) .ret)))⟩
theorem caf43 : cFunc Try.prog Try.f43 = some af43 := by kernel_rfl
/-- limelight/limelightref9.Less -/
def af44 : AFunc := ⟨46, [(.tmp 8)],
 (.seq
 (.reg [⟨(some 8), none, (.mv (.c (.bool false)))⟩])
 (.seq
 (.reg [⟨(some 14), none, (.mv (.t 0))⟩,
   ⟨(some 15), none, (.mx [(.t 14), (.c (.int .i64 0))])⟩,
   ⟨(some 16), none, (.conv (.int .u64) (.t 15))⟩,
   ⟨(some 17), none, (.mv (.t 1))⟩,
   ⟨(some 18), none, (.mx [(.t 17), (.c (.int .i64 0))])⟩,
   ⟨(some 19), none, (.conv (.int .u64) (.t 18))⟩,
   ⟨(some 20), none, (.call 48 [(.t 16), (.t 19)])⟩,
   ⟨(some 13), none, (.mv (.t 20))⟩,
   ⟨(some 21), none, (.extract 0 (.t 13))⟩,
   ⟨(some 22), none, (.extract 1 (.t 13))⟩,
   ⟨(some 9), none, (.mv (.t 21))⟩,
   ⟨(some 10), none, (.mv (.t 22))⟩])
 (.seq
 (.reg [⟨(some 24), none, (.mv (.t 2))⟩,
   ⟨(some 25), none, (.mx [(.t 24), (.c (.int .i64 0))])⟩,
   ⟨(some 26), none, (.conv (.int .u64) (.t 25))⟩,
   ⟨(some 27), none, (.mv (.t 3))⟩,
   ⟨(some 28), none, (.mx [(.t 27), (.c (.int .i64 0))])⟩,
   ⟨(some 29), none, (.conv (.int .u64) (.t 28))⟩,
   ⟨(some 30), none, (.call 48 [(.t 26), (.t 29)])⟩,
   ⟨(some 23), none, (.mv (.t 30))⟩,
   ⟨(some 31), none, (.extract 0 (.t 23))⟩,
   ⟨(some 32), none, (.extract 1 (.t 23))⟩,
   ⟨(some 11), none, (.mv (.t 31))⟩,
   ⟨(some 12), none, (.mv (.t 32))⟩])
 (.seq
 (.reg [⟨(some 33), none, (.mv (.t 9))⟩,
   ⟨(some 34), none, (.mv (.t 11))⟩,
   ⟨(some 35), none, (.bin .lss .num (.t 33) (.t 34))⟩,
   ⟨(some 36), none, (.mv (.t 35))⟩,
   ⟨(some 37), (some (36, false)), (.mv (.t 9))⟩,
   ⟨(some 38), (some (36, false)), (.mv (.t 11))⟩,
   ⟨(some 39), (some (36, false)), (.bin .eql .num (.t 37) (.t 38))⟩,
   ⟨(some 40), (some (36, false)), (.mv (.t 39))⟩,
   ⟨(some 41), (some (40, true)), (.mv (.t 10))⟩,
   ⟨(some 42), (some (40, true)), (.mv (.t 12))⟩,
   ⟨(some 43), (some (40, true)), (.bin .lss .num (.t 41) (.t 42))⟩,
   ⟨(some 44), (some (36, false)), (.pick (.t 40) (.t 43) (.c (.bool false)))⟩,
   ⟨(some 45), none, (.pick (.t 36) (.c (.bool true)) (.t 44))⟩,
   ⟨(some 8), none, (.mv (.t 45))⟩]) .ret))))⟩
theorem caf44 : cFunc Try.prog Try.f44 = some af44 := by kernel_rfl
def af45_l0 : AC :=
 (.seq
 (.reg [⟨(some 9), none, (.bin .lss .num (.t 8) (.t 7))⟩])
 (.seq
 (.cond (.t 9) .skip (.exit 0))
 (.seq
 (.block 1
 (.seq
 (.reg [⟨(some 10), none, (.mv (.t 8))⟩,
   ⟨(some 5), none, (.mv (.t 10))⟩])
 (.seq
 (.reg [⟨(some 11), none, (.mv (.t 1))⟩,
   ⟨(some 12), none, (.mv (.t 0))⟩,
   ⟨(some 13), none, (.mv (.t 5))⟩,
   ⟨(some 14), none, (.ixSlice 3 (.t 12) (.t 13))⟩,
   ⟨(some 15), none, (.loadN 3 (.t 14))⟩,
   ⟨(some 16), none, (.callV (.t 11) [(.t 15)])⟩])
 (.cond (.t 16)
 (.seq
 (.reg [⟨(some 17), none, (.mv (.t 5))⟩,
   ⟨(some 4), none, (.mv (.t 17))⟩]) .ret) .skip))))
 (.reg [⟨(some 18), none, (.bin .add .num (.t 8) (.c (.int .i64 1)))⟩,
   ⟨(some 8), none, (.mv (.t 18))⟩]))))
/-- slices.IndexFunc[[]limelight/api.Tuple,limelight/api.Tuple] -/
def af45 : AFunc := ⟨19, [(.tmp 4)],
 (.seq
 (.reg [⟨(some 4), none, (.mv (.c (.int .i64 0)))⟩])
 (.seq
 (.seq
 (.reg [⟨(some 6), none, (.mv (.t 0))⟩,
   ⟨(some 7), none, (.len (.t 6))⟩,
   ⟨(some 8), none, (.mv (.c (.int .i64 0)))⟩])
 (.block 0
 (.loop af45_l0)))
 (.seq
 (.reg [⟨(some 4), none, (.mv (.c (.int .i64 (-1))))⟩]) .ret)))⟩
theorem caf45 : cFunc Try.prog Try.f45 = some af45 := by kernel_rfl
/-- cmp.isNaN[int] -/
def af46 : AFunc := ⟨6, [(.tmp 2)],
 (.seq
 (.reg [⟨(some 2), none, (.mv (.c (.bool false)))⟩])
 (.seq
 (.reg [⟨(some 3), none, (.mv (.t 0))⟩,
   ⟨(some 4), none, (.mv (.t 0))⟩,
   ⟨(some 5), none, (.bin .neq .num (.t 3) (.t 4))⟩,
   ⟨(some 2), none, (.mv (.t 5))⟩]) .ret))⟩
theorem caf46 : cFunc Try.prog Try.f46 = some af46 := by kernel_rfl
/-- cmp.isNaN[uint32] -/
def af47 : AFunc := ⟨6, [(.tmp 2)],
 (.seq
 (.reg [⟨(some 2), none, (.mv (.c (.bool false)))⟩])
 (.seq
 (.reg [⟨(some 3), none, (.mv (.t 0))⟩,
   ⟨(some 4), none, (.mv (.t 0))⟩,
   ⟨(some 5), none, (.bin .neq .num (.t 3) (.t 4))⟩,
   ⟨(some 2), none, (.mv (.t 5))⟩]) .ret))⟩
theorem caf47 : cFunc Try.prog Try.f47 = some af47 := by kernel_rfl
/-- limelight/limelightref9.wide -/
def af48 : AFunc := ⟨52, [(.tmp 4), (.tmp 5)],
 (.seq
 (.reg [⟨(some 4), none, (.mv (.c (.int .u64 0)))⟩,
   ⟨(some 5), none, (.mv (.c (.int .u64 0)))⟩])
 (.seq
 (.reg [⟨(some 11), none, (.mv (.t 0))⟩,
   ⟨(some 12), none, (.bin .shr .num (.t 11) (.c (.int .u64 32)))⟩,
   ⟨(some 13), none, (.mv (.t 0))⟩,
   ⟨(some 14), none, (.bin .and .num (.t 13) (.c (.int .u64 4294967295)))⟩,
   ⟨(some 15), none, (.mv (.t 1))⟩,
   ⟨(some 16), none, (.bin .shr .num (.t 15) (.c (.int .u64 32)))⟩,
   ⟨(some 17), none, (.mv (.t 1))⟩,
   ⟨(some 18), none, (.bin .and .num (.t 17) (.c (.int .u64 4294967295)))⟩,
   ⟨(some 6), none, (.mv (.t 12))⟩,
   ⟨(some 7), none, (.mv (.t 14))⟩,
   ⟨(some 8), none, (.mv (.t 16))⟩,
   ⟨(some 9), none, (.mv (.t 18))⟩])
 (.seq
 (.reg [⟨(some 19), none, (.mv (.t 7))⟩,
   ⟨(some 20), none, (.mv (.t 9))⟩,
   ⟨(some 21), none, (.bin .mul .num (.t 19) (.t 20))⟩,
   ⟨(some 22), none, (.bin .shr .num (.t 21) (.c (.int .u64 32)))⟩,
   ⟨(some 23), none, (.mv (.t 6))⟩,
   ⟨(some 24), none, (.mv (.t 9))⟩,
   ⟨(some 25), none, (.bin .mul .num (.t 23) (.t 24))⟩,
   ⟨(some 26), none, (.bin .and .num (.t 25) (.c (.int .u64 4294967295)))⟩,
   ⟨(some 27), none, (.bin .add .num (.t 22) (.t 26))⟩,
   ⟨(some 28), none, (.mv (.t 7))⟩,
   ⟨(some 29), none, (.mv (.t 8))⟩,
   ⟨(some 30), none, (.bin .mul .num (.t 28) (.t 29))⟩,
   ⟨(some 31), none, (.bin .and .num (.t 30) (.c (.int .u64 4294967295)))⟩,
   ⟨(some 32), none, (.bin .add .num (.t 27) (.t 31))⟩,
   ⟨(some 10), none, (.mv (.t 32))⟩])
 (.seq
 (.reg [⟨(some 33), none, (.mv (.t 6))⟩,
   ⟨(some 34), none, (.mv (.t 8))⟩,
   ⟨(some 35), none, (.bin .mul .num (.t 33) (.t 34))⟩,
   ⟨(some 36), none, (.mv (.t 6))⟩,
   ⟨(some 37), none, (.mv (.t 9))⟩,
   ⟨(some 38), none, (.bin .mul .num (.t 36) (.t 37))⟩,
   ⟨(some 39), none, (.bin .shr .num (.t 38) (.c (.int .u64 32)))⟩,
   ⟨(some 40), none, (.bin .add .num (.t 35) (.t 39))⟩,
   ⟨(some 41), none, (.mv (.t 7))⟩,
   ⟨(some 42), none, (.mv (.t 8))⟩,
   ⟨(some 43), none, (.bin .mul .num (.t 41) (.t 42))⟩,
   ⟨(some 44), none, (.bin .shr .num (.t 43) (.c (.int .u64 32)))⟩,
   ⟨(some 45), none, (.bin .add .num (.t 40) (.t 44))⟩,
   ⟨(some 46), none, (.mv (.t 10))⟩,
   ⟨(some 47), none, (.bin .shr .num (.t 46) (.c (.int .u64 32)))⟩,
   ⟨(some 48), none, (.bin .add .num (.t 45) (.t 47))⟩,
   ⟨(some 49), none, (.mv (.t 0))⟩,
   ⟨(some 50), none, (.mv (.t 1))⟩,
   ⟨(some 51), none, (.bin .mul .num (.t 49) (.t 50))⟩,
   ⟨(some 4), none, (.mv (.t 48))⟩,
   ⟨(some 5), none, (.mv (.t 51))⟩]) .ret))))⟩
theorem caf48 : cFunc Try.prog Try.f48 = some af48 := by kernel_rfl
def AP : Nat → Option AFunc
  | 3 => some af3
  | 4 => some af4
  | 5 => some af5
  | 6 => some af6
  | 7 => some af7
  | 8 => some af8
  | 9 => some af9
  | 10 => some af10
  | 11 => some af11
  | 12 => some af12
  | 13 => some af13
  | 14 => some af14
  | 15 => some af15
  | 16 => some af16
  | 17 => some af17
  | 18 => some af18
  | 19 => some af19
  | 20 => some af20
  | 21 => some af21
  | 22 => some af22
  | 23 => some af23
  | 24 => some af24
  | 25 => some af25
  | 26 => some af26
  | 27 => some af27
  | 28 => some af28
  | 29 => some af29
  | 30 => some af30
  | 31 => some af31
  | 32 => some af32
  | 33 => some af33
  | 34 => some af34
  | 35 => some af35
  | 36 => some af36
  | 37 => some af37
  | 38 => some af38
  | 39 => some af39
  | 40 => some af40
  | 41 => some af41
  | 42 => some af42
  | 43 => some af43
  | 44 => some af44
  | 45 => some af45
  | 46 => some af46
  | 47 => some af47
  | 48 => some af48
  | _ => none
theorem apOk : APOk Try.prog AP := by
  intro f af h
  unfold AP at h
  split at h
  · cases h; exact ⟨_, Try.func3, caf3⟩
  · cases h; exact ⟨_, Try.func4, caf4⟩
  · cases h; exact ⟨_, Try.func5, caf5⟩
  · cases h; exact ⟨_, Try.func6, caf6⟩
  · cases h; exact ⟨_, Try.func7, caf7⟩
  · cases h; exact ⟨_, Try.func8, caf8⟩
  · cases h; exact ⟨_, Try.func9, caf9⟩
  · cases h; exact ⟨_, Try.func10, caf10⟩
  · cases h; exact ⟨_, Try.func11, caf11⟩
  · cases h; exact ⟨_, Try.func12, caf12⟩
  · cases h; exact ⟨_, Try.func13, caf13⟩
  · cases h; exact ⟨_, Try.func14, caf14⟩
  · cases h; exact ⟨_, Try.func15, caf15⟩
  · cases h; exact ⟨_, Try.func16, caf16⟩
  · cases h; exact ⟨_, Try.func17, caf17⟩
  · cases h; exact ⟨_, Try.func18, caf18⟩
  · cases h; exact ⟨_, Try.func19, caf19⟩
  · cases h; exact ⟨_, Try.func20, caf20⟩
  · cases h; exact ⟨_, Try.func21, caf21⟩
  · cases h; exact ⟨_, Try.func22, caf22⟩
  · cases h; exact ⟨_, Try.func23, caf23⟩
  · cases h; exact ⟨_, Try.func24, caf24⟩
  · cases h; exact ⟨_, Try.func25, caf25⟩
  · cases h; exact ⟨_, Try.func26, caf26⟩
  · cases h; exact ⟨_, Try.func27, caf27⟩
  · cases h; exact ⟨_, Try.func28, caf28⟩
  · cases h; exact ⟨_, Try.func29, caf29⟩
  · cases h; exact ⟨_, Try.func30, caf30⟩
  · cases h; exact ⟨_, Try.func31, caf31⟩
  · cases h; exact ⟨_, Try.func32, caf32⟩
  · cases h; exact ⟨_, Try.func33, caf33⟩
  · cases h; exact ⟨_, Try.func34, caf34⟩
  · cases h; exact ⟨_, Try.func35, caf35⟩
  · cases h; exact ⟨_, Try.func36, caf36⟩
  · cases h; exact ⟨_, Try.func37, caf37⟩
  · cases h; exact ⟨_, Try.func38, caf38⟩
  · cases h; exact ⟨_, Try.func39, caf39⟩
  · cases h; exact ⟨_, Try.func40, caf40⟩
  · cases h; exact ⟨_, Try.func41, caf41⟩
  · cases h; exact ⟨_, Try.func42, caf42⟩
  · cases h; exact ⟨_, Try.func43, caf43⟩
  · cases h; exact ⟨_, Try.func44, caf44⟩
  · cases h; exact ⟨_, Try.func45, caf45⟩
  · cases h; exact ⟨_, Try.func46, caf46⟩
  · cases h; exact ⟨_, Try.func47, caf47⟩
  · cases h; exact ⟨_, Try.func48, caf48⟩
  · cases h
theorem mixed : Try.prog.follows .mixedOrders = true := by kernel_rfl
end Go.Proofs.YtkbooepiomobdaaA
