/- The loaded functions of this seat, their types resolved: printed by a program of this claim; each is held against the loaded one. -/
import Derived.Test.YthejkmfmcjpfhaaAeZ
import Derived.Test.YthejkmfmcjpfhaaProg
set_option maxRecDepth 100000
namespace Go.Proofs.YthejkmfmcjpfhaaA
open Go.RowKit
def af3_l0 : AC :=
 (.seq
 (.seq
 (.reg [⟨(some 62), none, (.mv (.t 9))⟩,
   ⟨(some 63), none, (.bin .lss .num (.t 62) (.c (.int .i64 256)))⟩])
 (.cond (.t 63) .skip (.exit 8)))
 (.seq
 (.block 9
 (.seq
 (.reg [⟨(some 69), none, (.buildSlice 1 [(.int .u8 0)] 0 [])⟩,
   ⟨(some 70), none, (.mv (.t 6))⟩,
   ⟨(some 71), none, (.append 1 1 (.t 69) (.t 70))⟩,
   ⟨(some 10), none, (.mv (.t 71))⟩])
 (.seq
 (.reg [⟨(some 72), none, (.mv (.t 10))⟩,
   ⟨(some 73), none, (.mv (.t 9))⟩,
   ⟨(some 74), none, (.conv (.int .u8) (.t 73))⟩,
   ⟨(some 75), none, (.ixSlice 1 (.t 72) (.c (.int .i64 0)))⟩,
   ⟨none, none, (.store 1 (.t 75) (.t 74))⟩])
 (.seq
 (.reg [⟨(some 76), none, (.mv (.t 10))⟩,
   ⟨(some 77), none, (.mv (.t 10))⟩,
   ⟨(some 78), none, (.len (.t 77))⟩,
   ⟨(some 79), none, (.bin .sub .num (.t 78) (.c (.int .i64 1)))⟩,
   ⟨(some 80), none, (.mv (.t 1))⟩,
   ⟨(some 81), none, (.mv (.t 9))⟩,
   ⟨(some 82), none, (.bin .mul .num (.t 80) (.t 81))⟩,
   ⟨(some 83), none, (.conv (.int .u8) (.t 82))⟩,
   ⟨(some 84), none, (.ixSlice 1 (.t 76) (.t 79))⟩,
   ⟨none, none, (.store 1 (.t 84) (.t 83))⟩])
 (.seq
 (.reg [⟨(some 85), none, (.mv (.t 10))⟩,
   ⟨(some 86), none, (.call 13 [(.t 85)])⟩,
   ⟨(some 87), none, (.un .not (.t 86))⟩,
   ⟨(some 88), none, (.mv (.t 87))⟩,
   ⟨(some 89), (some (88, false)), (.mv (.t 10))⟩,
   ⟨(some 90), (some (88, false)), (.mv (.t 9))⟩,
   ⟨(some 91), (some (88, false)), (.bin .and .num (.t 90) (.c (.int .i64 7)))⟩,
   ⟨(some 92), (some (88, false)), (.conv (.int .u8) (.t 91))⟩,
   ⟨(some 93), (some (88, false)), (.buildSlice 1 [(.int .u8 0)] 1 [(0, (1, (.t 92)))])⟩,
   ⟨(some 94), (some (88, false)), (.append 1 1 (.t 89) (.t 93))⟩,
   ⟨(some 95), (some (88, false)), (.call 13 [(.t 94)])⟩,
   ⟨(some 96), (some (88, false)), (.un .not (.t 95))⟩,
   ⟨(some 97), none, (.pick (.t 88) (.c (.bool true)) (.t 96))⟩])
 (.cond (.t 97)
 (.seq
 (.reg [⟨(some 0), none, (.mv (.c (.bool false)))⟩]) .ret) .skip))))))
 (.reg [⟨(some 64), none, (.mv (.t 9))⟩,
   ⟨(some 65), none, (.bin .add .num (.t 64) (.c (.int .i64 1)))⟩,
   ⟨(some 66), none, (.mv (.t 1))⟩,
   ⟨(some 67), none, (.bin .rem .num (.t 66) (.c (.int .i64 3)))⟩,
   ⟨(some 68), none, (.bin .add .num (.t 65) (.t 67))⟩,
   ⟨(some 9), none, (.mv (.t 68))⟩])))
def af3_l1 : AC :=
 (.seq
 (.seq
 (.reg [⟨(some 47), none, (.mv (.t 8))⟩,
   ⟨(some 48), none, (.mv (.t 6))⟩,
   ⟨(some 49), none, (.len (.t 48))⟩,
   ⟨(some 50), none, (.bin .leq .num (.t 47) (.t 49))⟩,
   ⟨(some 51), none, (.mv (.t 50))⟩,
   ⟨(some 52), (some (51, true)), (.mv (.t 1))⟩,
   ⟨(some 53), (some (51, true)), (.bin .lss .num (.t 52) (.c (.int .i64 20)))⟩,
   ⟨(some 54), none, (.pick (.t 51) (.t 53) (.c (.bool false)))⟩])
 (.cond (.t 54) .skip (.exit 6)))
 (.seq
 (.block 7
 (.seq
 (.reg [⟨(some 57), none, (.mv (.t 6))⟩,
   ⟨(some 58), none, (.mv (.t 8))⟩,
   ⟨(some 59), none, (.cut 1 (.t 57) none (some (.t 58)) none)⟩,
   ⟨(some 60), none, (.call 13 [(.t 59)])⟩,
   ⟨(some 61), none, (.un .not (.t 60))⟩])
 (.cond (.t 61)
 (.seq
 (.reg [⟨(some 0), none, (.mv (.c (.bool false)))⟩]) .ret) .skip)))
 (.reg [⟨(some 55), none, (.mv (.t 8))⟩,
   ⟨(some 56), none, (.bin .add .num (.t 55) (.c (.int .i64 1)))⟩,
   ⟨(some 8), none, (.mv (.t 56))⟩])))
def af3_l2 : AC :=
 (.seq
 (.reg [⟨(some 27), none, (.bin .lss .num (.t 26) (.t 25))⟩])
 (.seq
 (.cond (.t 27) .skip (.exit 4))
 (.seq
 (.block 5
 (.seq
 (.reg [⟨(some 28), none, (.ixSlice 1 (.t 24) (.t 26))⟩,
   ⟨(some 29), none, (.load1 (.t 28))⟩,
   ⟨(some 5), none, (.mv (.t 29))⟩])
 (.seq
 (.reg [⟨(some 30), none, (.loadN 9 (.t 2))⟩,
   ⟨(some 31), none, (.mv (.t 3))⟩,
   ⟨(some 32), none, (.mv (.t 5))⟩,
   ⟨(some 33), none, (.call 11 [(.t 30), (.t 31), (.t 32)])⟩,
   ⟨(some 34), none, (.call 10 [(.t 33)])⟩,
   ⟨(some 35), none, (.un .not (.t 34))⟩,
   ⟨(some 36), none, (.mv (.t 35))⟩,
   ⟨(some 37), (some (36, false)), (.loadN 9 (.t 2))⟩,
   ⟨(some 38), (some (36, false)), (.call 10 [(.t 37)])⟩,
   ⟨(some 39), (some (36, false)), (.un .not (.t 38))⟩,
   ⟨(some 40), none, (.pick (.t 36) (.c (.bool true)) (.t 39))⟩])
 (.cond (.t 40)
 (.seq
 (.reg [⟨(some 0), none, (.mv (.c (.bool false)))⟩]) .ret) .skip))))
 (.reg [⟨(some 41), none, (.bin .add .num (.t 26) (.c (.int .i64 1)))⟩,
   ⟨(some 26), none, (.mv (.t 41))⟩]))))
def af3_l3 : AC :=
 (.seq
 (.seq
 (.reg [⟨(some 20), none, (.mv (.t 3))⟩,
   ⟨(some 21), none, (.bin .lss .num (.t 20) (.c (.int .i64 6)))⟩])
 (.cond (.t 21) .skip (.exit 2)))
 (.seq
 (.block 3
 (.seq
 (.reg [⟨(some 24), none, (.buildSlice 1 [(.int .i64 0)] 10 [(0, (1, (.c (.int .i64 (-1))))), (1, (1, (.c (.int .i64 0)))), (2, (1, (.c (.int .i64 1)))), (3, (1, (.c (.int .i64 15)))), (4, (1, (.c (.int .i64 16)))), (5, (1, (.c (.int .i64 127)))), (6, (1, (.c (.int .i64 128)))), (7, (1, (.c (.int .i64 1200)))), (8, (1, (.c (.int .i64 1488)))), (9, (1, (.c (.int .i64 1489))))])⟩,
   ⟨(some 25), none, (.len (.t 24))⟩,
   ⟨(some 26), none, (.mv (.c (.int .i64 0)))⟩])
 (.block 4
 (.loop af3_l2))))
 (.reg [⟨(some 22), none, (.mv (.t 3))⟩,
   ⟨(some 23), none, (.bin .add .num (.t 22) (.c (.int .i64 1)))⟩,
   ⟨(some 3), none, (.mv (.t 23))⟩])))
def af3_l4 : AC :=
 (.seq
 (.seq
 (.reg [⟨(some 11), none, (.mv (.t 1))⟩,
   ⟨(some 12), none, (.bin .lss .num (.t 11) (.c (.int .i64 60)))⟩])
 (.cond (.t 12) .skip (.exit 0)))
 (.seq
 (.block 1
 (.seq
 (.reg [⟨(some 15), none, (.mv (.t 1))⟩,
   ⟨(some 16), none, (.call 8 [(.t 15)])⟩,
   ⟨(some 17), none, (.build [(.slice none 0 0 none), (.int .i64 0)] [(0, (1, (.t 16)))])⟩,
   ⟨(some 18), none, (.box (.t 17))⟩,
   ⟨(some 19), none, (.call 9 [(.t 18)])⟩,
   ⟨(some 2), none, (.alloc [(.bool false), (.int .i64 0), (.int .u16 0), (.int .u32 0), (.int .u32 0), (.slice none 0 0 none), (.int .u16 0), (.slice none 0 0 none), (.slice none 0 0 none)])⟩,
   ⟨none, none, (.store 9 (.t 2) (.t 19))⟩])
 (.seq
 (.seq
 (.reg [⟨(some 3), none, (.mv (.c (.int .i64 0)))⟩])
 (.block 2
 (.loop af3_l3)))
 (.seq
 (.reg [⟨(some 43), none, (.loadN 9 (.t 2))⟩,
   ⟨(some 44), none, (.call 12 [(.t 43)])⟩,
   ⟨(some 42), none, (.mv (.t 44))⟩,
   ⟨(some 45), none, (.extract 0 (.t 42))⟩,
   ⟨(some 46), none, (.extract 1 (.t 42))⟩,
   ⟨(some 6), none, (.mv (.t 45))⟩,
   ⟨(some 7), none, (.mv (.t 46))⟩])
 (.seq
 (.seq
 (.reg [⟨(some 8), none, (.mv (.c (.int .i64 0)))⟩])
 (.block 6
 (.loop af3_l1)))
 (.seq
 (.reg [⟨(some 9), none, (.mv (.c (.int .i64 0)))⟩])
 (.block 8
 (.loop af3_l0))))))))
 (.reg [⟨(some 13), none, (.mv (.t 1))⟩,
   ⟨(some 14), none, (.bin .add .num (.t 13) (.c (.int .i64 1)))⟩,
   ⟨(some 1), none, (.mv (.t 14))⟩])))
/-- limelight/limelightlaw3.RtpNumbers -/
def af3 : AFunc := ⟨108, [(.tmp 0)],
 (.seq
 (.reg [⟨(some 0), none, (.mv (.c (.bool false)))⟩])
 (.seq
 (.seq
 (.reg [⟨(some 1), none, (.mv (.c (.int .i64 0)))⟩])
 (.block 0
 (.loop af3_l4)))
 (.seq
 (.reg [⟨(some 98), none, (.mkSlice 1 1 [(.int .u8 0)] (.c (.int .i64 1501)) (.c (.int .i64 1501)))⟩,
   ⟨(some 99), none, (.call 13 [(.t 98)])⟩,
   ⟨(some 100), none, (.mv (.t 99))⟩,
   ⟨(some 101), (some (100, true)), (.buildSlice 1 [(.int .u8 0)] 1 [(0, (1, (.c (.int .u8 128))))])⟩,
   ⟨(some 102), (some (100, true)), (.appendZ 1 1 [(.int .u8 0)] (.t 101) (.c (.int .i64 1499)))⟩,
   ⟨(some 103), (some (100, true)), (.call 13 [(.t 102)])⟩,
   ⟨(some 104), none, (.pick (.t 100) (.t 103) (.c (.bool false)))⟩,
   ⟨(some 105), none, (.mv (.t 104))⟩,
   ⟨(some 106), (some (105, true)), (.call 14 [])⟩,
   ⟨(some 107), none, (.pick (.t 105) (.t 106) (.c (.bool false)))⟩,
   ⟨(some 0), none, (.mv (.t 107))⟩]) .ret)))⟩
theorem caf3 : cFunc Try.prog Try.f3 = some af3 := by kernel_rfl
/-- limelight/limelightlaw3.RtpTells -/
def af4 : AFunc := ⟨99, [(.tmp 14)],
 (.seq
 (.reg [⟨(some 10), none, (.box (.t 3))⟩,
   ⟨(some 14), none, (.mv (.c (.bool false)))⟩])
 (.seq
 (.reg [⟨(some 18), none, (.mv (.t 0))⟩,
   ⟨(some 19), none, (.build [(.slice none 0 0 none), (.int .i64 0)] [(0, (1, (.t 18)))])⟩,
   ⟨(some 20), none, (.box (.t 19))⟩,
   ⟨(some 21), none, (.call 9 [(.t 20)])⟩,
   ⟨(some 15), none, (.alloc [(.bool false), (.int .i64 0), (.int .u16 0), (.int .u32 0), (.int .u32 0), (.slice none 0 0 none), (.int .u16 0), (.slice none 0 0 none), (.slice none 0 0 none)])⟩,
   ⟨none, none, (.store 9 (.t 15) (.t 21))⟩])
 (.seq
 (.reg [⟨(some 23), none, (.loadN 9 (.t 15))⟩,
   ⟨(some 24), none, (.call 12 [(.t 23)])⟩,
   ⟨(some 22), none, (.mv (.t 24))⟩,
   ⟨(some 25), none, (.extract 0 (.t 22))⟩,
   ⟨(some 26), none, (.extract 1 (.t 22))⟩,
   ⟨(some 16), none, (.mv (.t 25))⟩,
   ⟨(some 17), none, (.mv (.t 26))⟩])
 (.seq
 (.reg [⟨(some 27), none, (.mv (.t 16))⟩,
   ⟨(some 28), none, (.mv (.t 5))⟩,
   ⟨(some 29), none, (.mv (.t 16))⟩,
   ⟨(some 30), none, (.len (.t 29))⟩,
   ⟨(some 31), none, (.bin .sub .num (.t 30) (.c (.int .i64 1)))⟩,
   ⟨(some 32), none, (.call 15 [(.t 28), (.c (.int .i64 0)), (.t 31)])⟩,
   ⟨(some 33), none, (.ixSlice 1 (.t 27) (.t 32))⟩,
   ⟨(some 34), none, (.load1 (.t 33))⟩,
   ⟨(some 35), none, (.mv (.t 6))⟩,
   ⟨(some 36), none, (.bin .xor .num (.t 34) (.t 35))⟩,
   ⟨(some 37), none, (.ixSlice 1 (.t 27) (.t 32))⟩,
   ⟨none, none, (.store 1 (.t 37) (.t 36))⟩])
 (.seq
 (.seq
 (.reg [⟨(some 38), none, (.fieldAddr 8 1 (.t 10))⟩,
   ⟨(some 39), none, (.load1 (.t 38))⟩,
   ⟨(some 40), none, (.len (.t 39))⟩,
   ⟨(some 41), none, (.bin .gtr .num (.t 40) (.c (.int .i64 300)))⟩])
 (.cond (.t 41)
 (.reg [⟨(some 42), none, (.fieldAddr 8 1 (.t 10))⟩,
   ⟨(some 43), none, (.load1 (.t 42))⟩,
   ⟨(some 44), none, (.cut 1 (.t 43) none (some (.c (.int .i64 300))) none)⟩,
   ⟨(some 45), none, (.fieldAddr 8 1 (.t 10))⟩,
   ⟨none, none, (.store 1 (.t 45) (.t 44))⟩]) .skip))
 (.seq
 (.dreg [⟨(some 46), none, (.loadN 9 (.t 15))⟩,
   ⟨(some 47), none, (.call 10 [(.t 46)])⟩,
   ⟨(some 48), none, (.mv (.t 47))⟩,
   ⟨(some 49), (some (48, true)), (.loadN 9 (.t 15))⟩,
   ⟨(some 50), (some (48, true)), (.mv (.t 1))⟩,
   ⟨(some 51), (some (48, true)), (.mv (.t 2))⟩,
   ⟨(some 52), (some (48, true)), (.call 11 [(.t 49), (.t 50), (.t 51)])⟩,
   ⟨(some 53), (some (48, true)), (.call 10 [(.t 52)])⟩,
   ⟨(some 54), none, (.pick (.t 48) (.t 53) (.c (.bool false)))⟩,
   ⟨(some 55), none, (.mv (.t 54))⟩,
   ⟨(some 56), (some (55, true)), (.loadN 9 (.t 15))⟩,
   ⟨(some 57), (some (55, true)), (.mv (.t 1))⟩,
   ⟨(some 58), (some (55, true)), (.mv (.t 2))⟩,
   ⟨(some 59), (some (55, true)), (.call 11 [(.t 56), (.t 57), (.t 58)])⟩,
   ⟨(some 60), (some (55, true)), (.mv (.t 5))⟩,
   ⟨(some 61), (some (55, true)), (.mv (.t 2))⟩,
   ⟨(some 62), (some (55, true)), (.bin .and .num (.t 61) (.c (.int .i64 127)))⟩,
   ⟨(some 63), (some (55, true)), (.call 11 [(.t 59), (.t 60), (.t 62)])⟩,
   ⟨(some 64), (some (55, true)), (.call 10 [(.t 63)])⟩,
   ⟨(some 65), none, (.pick (.t 55) (.t 64) (.c (.bool false)))⟩,
   ⟨(some 66), none, (.mv (.t 65))⟩,
   ⟨(some 67), (some (66, true)), (.loadN 9 (.t 10))⟩,
   ⟨(some 68), (some (66, true)), (.call 10 [(.t 67)])⟩,
   ⟨(some 69), none, (.pick (.t 66) (.t 68) (.c (.bool false)))⟩,
   ⟨(some 70), none, (.mv (.t 69))⟩,
   ⟨(some 71), (some (70, true)), (.mv (.t 16))⟩,
   ⟨(some 72), (some (70, true)), (.call 13 [(.t 71)])⟩,
   ⟨(some 73), none, (.pick (.t 70) (.t 72) (.c (.bool false)))⟩,
   ⟨(some 74), none, (.mv (.t 73))⟩,
   ⟨(some 75), (some (74, true)), (.mv (.t 4))⟩,
   ⟨(some 76), (some (74, true)), (.call 13 [(.t 75)])⟩,
   ⟨(some 77), none, (.pick (.t 74) (.t 76) (.c (.bool false)))⟩,
   ⟨(some 78), none, (.mv (.t 77))⟩,
   ⟨(some 79), (some (78, true)), (.mv (.t 6))⟩,
   ⟨(some 80), (some (78, true)), (.bin .and .num (.t 79) (.c (.int .u8 63)))⟩,
   ⟨(some 81), (some (78, true)), (.bin .or .num (.c (.int .u8 128)) (.t 80))⟩,
   ⟨(some 82), (some (78, true)), (.buildSlice 1 [(.int .u8 0)] 1 [(0, (1, (.t 81)))])⟩,
   ⟨(some 83), (some (78, true)), (.mv (.t 4))⟩,
   ⟨(some 84), (some (78, true)), (.append 1 1 (.t 82) (.t 83))⟩,
   ⟨(some 85), (some (78, true)), (.call 13 [(.t 84)])⟩,
   ⟨(some 86), none, (.pick (.t 78) (.t 85) (.c (.bool false)))⟩,
   ⟨(some 87), none, (.mv (.t 86))⟩,
   ⟨(some 88), (some (87, true)), (.loadN 9 (.t 15))⟩,
   ⟨(some 89), (some (87, true)), (.loadN 9 (.t 10))⟩,
   ⟨(some 90), (some (87, true)), (.call 16 [(.t 88), (.t 89)])⟩,
   ⟨(some 91), (some (87, true)), (.loadN 9 (.t 15))⟩,
   ⟨(some 92), (some (87, true)), (.loadN 9 (.t 10))⟩,
   ⟨(some 93), (some (87, true)), (.call 17 [(.t 91), (.t 92)])⟩,
   ⟨(some 94), (some (87, true)), (.bin .eql .bool (.t 90) (.t 93))⟩,
   ⟨(some 95), none, (.pick (.t 87) (.t 94) (.c (.bool false)))⟩,
   ⟨(some 96), none, (.mv (.t 95))⟩,
   ⟨(some 97), (some (96, true)), (.call 14 [])⟩,
   ⟨(some 98), none, (.pick (.t 96) (.t 97) (.c (.bool false)))⟩,
   ⟨(some 14), none, (.mv (.t 98))⟩] [(45, 44), (46, 44)]) .ret))))))⟩
theorem caf4 : cFunc Try.prog Try.f4 = some af4 := by kernel_rfl
/-- limelight/limelightlaw3.RtpBack -/
def af5 : AFunc := ⟨95, [(.tmp 6)],
 (.seq
 (.reg [⟨(some 6), none, (.mv (.c (.bool false)))⟩])
 (.seq
 (.reg [⟨(some 18), none, (.mv (.t 0))⟩,
   ⟨(some 19), none, (.build [(.slice none 0 0 none), (.int .i64 0)] [(0, (1, (.t 18)))])⟩,
   ⟨(some 20), none, (.box (.t 19))⟩,
   ⟨(some 21), none, (.call 9 [(.t 20)])⟩,
   ⟨(some 7), none, (.alloc [(.bool false), (.int .i64 0), (.int .u16 0), (.int .u32 0), (.int .u32 0), (.slice none 0 0 none), (.int .u16 0), (.slice none 0 0 none), (.slice none 0 0 none)])⟩,
   ⟨none, none, (.store 9 (.t 7) (.t 21))⟩])
 (.seq
 (.reg [⟨(some 23), none, (.loadN 9 (.t 7))⟩,
   ⟨(some 24), none, (.call 18 [(.t 23)])⟩,
   ⟨(some 22), none, (.mv (.t 24))⟩,
   ⟨(some 25), none, (.extract 0 (.t 22))⟩,
   ⟨(some 26), none, (.extract 1 (.t 22))⟩,
   ⟨(some 8), none, (.mv (.t 25))⟩,
   ⟨(some 9), none, (.mv (.t 26))⟩])
 (.seq
 (.reg [⟨(some 28), none, (.mv (.t 8))⟩,
   ⟨(some 29), none, (.call 19 [(.t 28)])⟩,
   ⟨(some 27), none, (.mv (.t 29))⟩,
   ⟨(some 30), none, (.extract 0 (.t 27))⟩,
   ⟨(some 31), none, (.extract 1 (.t 27))⟩,
   ⟨(some 10), none, (.alloc [(.bool false), (.int .i64 0), (.int .u16 0), (.int .u32 0), (.int .u32 0), (.slice none 0 0 none), (.int .u16 0), (.slice none 0 0 none), (.slice none 0 0 none)])⟩,
   ⟨none, none, (.store 9 (.t 10) (.t 30))⟩,
   ⟨(some 11), none, (.mv (.t 31))⟩])
 (.seq
 (.seq
 (.reg [⟨(some 32), none, (.mv (.t 9))⟩,
   ⟨(some 33), none, (.bin .neq .num (.t 32) (.c (.int .i64 0)))⟩,
   ⟨(some 34), none, (.mv (.t 33))⟩,
   ⟨(some 35), (some (34, false)), (.mv (.t 11))⟩,
   ⟨(some 36), (some (34, false)), (.bin .neq .num (.t 35) (.c (.int .i64 0)))⟩,
   ⟨(some 37), none, (.pick (.t 34) (.c (.bool true)) (.t 36))⟩,
   ⟨(some 38), none, (.mv (.t 37))⟩,
   ⟨(some 39), (some (38, false)), (.loadN 9 (.t 7))⟩,
   ⟨(some 40), (some (38, false)), (.loadN 9 (.t 10))⟩,
   ⟨(some 41), (some (38, false)), (.call 17 [(.t 39), (.t 40)])⟩,
   ⟨(some 42), (some (38, false)), (.un .not (.t 41))⟩,
   ⟨(some 43), none, (.pick (.t 38) (.c (.bool true)) (.t 42))⟩,
   ⟨(some 44), none, (.mv (.t 43))⟩,
   ⟨(some 45), (some (44, false)), (.mv (.t 8))⟩,
   ⟨(some 46), (some (44, false)), (.len (.t 45))⟩,
   ⟨(some 47), (some (44, false)), (.bin .lss .num (.t 46) (.c (.int .i64 12)))⟩,
   ⟨(some 48), none, (.pick (.t 44) (.c (.bool true)) (.t 47))⟩])
 (.cond (.t 48)
 (.seq
 (.reg [⟨(some 6), none, (.mv (.c (.bool false)))⟩]) .ret) .skip))
 (.seq
 (.reg [⟨(some 49), none, (.mv (.t 1))⟩,
   ⟨(some 50), none, (.call 15 [(.t 49), (.c (.int .i64 1)), (.c (.int .i64 40))])⟩,
   ⟨(some 12), none, (.mv (.t 50))⟩])
 (.seq
 (.reg [⟨(some 51), none, (.buildSlice 1 [(.int .u8 0)] 0 [])⟩,
   ⟨(some 52), none, (.mv (.t 8))⟩,
   ⟨(some 53), none, (.append 1 1 (.t 51) (.t 52))⟩,
   ⟨(some 54), none, (.mv (.t 12))⟩,
   ⟨(some 55), none, (.appendZ 1 1 [(.int .u8 0)] (.t 53) (.t 54))⟩,
   ⟨(some 13), none, (.mv (.t 55))⟩])
 (.seq
 (.reg [⟨(some 56), none, (.mv (.t 13))⟩,
   ⟨(some 57), none, (.ixSlice 1 (.t 56) (.c (.int .i64 0)))⟩,
   ⟨(some 58), none, (.load1 (.t 57))⟩,
   ⟨(some 59), none, (.bin .or .num (.t 58) (.c (.int .u8 32)))⟩,
   ⟨(some 60), none, (.ixSlice 1 (.t 56) (.c (.int .i64 0)))⟩,
   ⟨none, none, (.store 1 (.t 60) (.t 59))⟩])
 (.seq
 (.reg [⟨(some 61), none, (.mv (.t 13))⟩,
   ⟨(some 62), none, (.mv (.t 13))⟩,
   ⟨(some 63), none, (.len (.t 62))⟩,
   ⟨(some 64), none, (.bin .sub .num (.t 63) (.c (.int .i64 1)))⟩,
   ⟨(some 65), none, (.mv (.t 12))⟩,
   ⟨(some 66), none, (.conv (.int .u8) (.t 65))⟩,
   ⟨(some 67), none, (.ixSlice 1 (.t 61) (.t 64))⟩,
   ⟨none, none, (.store 1 (.t 67) (.t 66))⟩])
 (.seq
 (.reg [⟨(some 69), none, (.mv (.t 13))⟩,
   ⟨(some 70), none, (.call 19 [(.t 69)])⟩,
   ⟨(some 68), none, (.mv (.t 70))⟩,
   ⟨(some 71), none, (.extract 0 (.t 68))⟩,
   ⟨(some 72), none, (.extract 1 (.t 68))⟩,
   ⟨(some 14), none, (.alloc [(.bool false), (.int .i64 0), (.int .u16 0), (.int .u32 0), (.int .u32 0), (.slice none 0 0 none), (.int .u16 0), (.slice none 0 0 none), (.slice none 0 0 none)])⟩,
   ⟨none, none, (.store 9 (.t 14) (.t 71))⟩,
   ⟨(some 15), none, (.mv (.t 72))⟩])
 (.seq
 (.reg [⟨(some 74), none, (.mv (.t 8))⟩,
   ⟨(some 75), none, (.mv (.t 2))⟩,
   ⟨(some 76), none, (.call 15 [(.t 75), (.c (.int .i64 0)), (.c (.int .i64 11))])⟩,
   ⟨(some 77), none, (.cut 1 (.t 74) none (some (.t 76)) none)⟩,
   ⟨(some 78), none, (.call 19 [(.t 77)])⟩,
   ⟨(some 73), none, (.mv (.t 78))⟩,
   ⟨(some 79), none, (.extract 0 (.t 73))⟩,
   ⟨(some 80), none, (.extract 1 (.t 73))⟩,
   ⟨(some 16), none, (.alloc [(.bool false), (.int .i64 0), (.int .u16 0), (.int .u32 0), (.int .u32 0), (.slice none 0 0 none), (.int .u16 0), (.slice none 0 0 none), (.slice none 0 0 none)])⟩,
   ⟨none, none, (.store 9 (.t 16) (.t 79))⟩,
   ⟨(some 17), none, (.mv (.t 80))⟩])
 (.seq
 (.reg [⟨(some 81), none, (.mv (.t 15))⟩,
   ⟨(some 82), none, (.bin .eql .num (.t 81) (.c (.int .i64 0)))⟩,
   ⟨(some 83), none, (.mv (.t 82))⟩,
   ⟨(some 84), (some (83, true)), (.loadN 9 (.t 14))⟩,
   ⟨(some 85), (some (83, true)), (.loadN 9 (.t 7))⟩,
   ⟨(some 86), (some (83, true)), (.call 17 [(.t 84), (.t 85)])⟩,
   ⟨(some 87), none, (.pick (.t 83) (.t 86) (.c (.bool false)))⟩,
   ⟨(some 88), none, (.mv (.t 87))⟩,
   ⟨(some 89), (some (88, true)), (.mv (.t 17))⟩,
   ⟨(some 90), (some (88, true)), (.bin .eql .num (.t 89) (.c (.int .i64 13)))⟩,
   ⟨(some 91), none, (.pick (.t 88) (.t 90) (.c (.bool false)))⟩,
   ⟨(some 92), none, (.mv (.t 91))⟩,
   ⟨(some 93), (some (92, true)), (.call 14 [])⟩,
   ⟨(some 94), none, (.pick (.t 92) (.t 93) (.c (.bool false)))⟩,
   ⟨(some 6), none, (.mv (.t 94))⟩]) .ret))))))))))))⟩
theorem caf5 : cFunc Try.prog Try.f5 = some af5 := by kernel_rfl
/-- limelight/limelightlaw3.RtpExt -/
def af6 : AFunc := ⟨109, [(.tmp 6)],
 (.seq
 (.reg [⟨(some 6), none, (.mv (.c (.bool false)))⟩])
 (.seq
 (.reg [⟨(some 17), none, (.mv (.t 0))⟩,
   ⟨(some 18), none, (.build [(.slice none 0 0 none), (.int .i64 0)] [(0, (1, (.t 17)))])⟩,
   ⟨(some 19), none, (.box (.t 18))⟩,
   ⟨(some 20), none, (.call 9 [(.t 19)])⟩,
   ⟨(some 7), none, (.alloc [(.bool false), (.int .i64 0), (.int .u16 0), (.int .u32 0), (.int .u32 0), (.slice none 0 0 none), (.int .u16 0), (.slice none 0 0 none), (.slice none 0 0 none)])⟩,
   ⟨none, none, (.store 9 (.t 7) (.t 20))⟩])
 (.seq
 (.reg [⟨(some 21), none, (.fieldAddr 6 1 (.t 7))⟩,
   ⟨none, none, (.store 1 (.t 21) (.c (.int .u16 0)))⟩,
   ⟨(some 22), none, (.fieldAddr 7 1 (.t 7))⟩,
   ⟨none, none, (.store 1 (.t 22) (.c (.slice none 0 0 none)))⟩])
 (.seq
 (.reg [⟨(some 23), none, (.loadN 9 (.t 7))⟩,
   ⟨(some 8), none, (.alloc [(.bool false), (.int .i64 0), (.int .u16 0), (.int .u32 0), (.int .u32 0), (.slice none 0 0 none), (.int .u16 0), (.slice none 0 0 none), (.slice none 0 0 none)])⟩,
   ⟨none, none, (.store 9 (.t 8) (.t 23))⟩])
 (.seq
 (.reg [⟨(some 24), none, (.mv (.t 2))⟩,
   ⟨(some 25), none, (.bin .and .num (.t 24) (.c (.int .u16 32767)))⟩,
   ⟨(some 26), none, (.bin .add .num (.c (.int .u16 1)) (.t 25))⟩,
   ⟨(some 27), none, (.fieldAddr 6 1 (.t 8))⟩,
   ⟨none, none, (.store 1 (.t 27) (.t 26))⟩])
 (.seq
 (.reg [⟨(some 28), none, (.mv (.t 1))⟩,
   ⟨(some 29), none, (.mv (.t 1))⟩,
   ⟨(some 30), none, (.len (.t 29))⟩,
   ⟨(some 31), none, (.mn [(.t 30), (.c (.int .i64 200))])⟩,
   ⟨(some 32), none, (.bin .quo .num (.t 31) (.c (.int .i64 4)))⟩,
   ⟨(some 33), none, (.bin .mul .num (.t 32) (.c (.int .i64 4)))⟩,
   ⟨(some 34), none, (.cut 1 (.t 28) none (some (.t 33)) none)⟩,
   ⟨(some 35), none, (.fieldAddr 7 1 (.t 8))⟩,
   ⟨none, none, (.store 1 (.t 35) (.t 34))⟩])
 (.seq
 (.reg [⟨(some 37), none, (.loadN 9 (.t 7))⟩,
   ⟨(some 38), none, (.call 18 [(.t 37)])⟩,
   ⟨(some 36), none, (.mv (.t 38))⟩,
   ⟨(some 39), none, (.extract 0 (.t 36))⟩,
   ⟨(some 40), none, (.extract 1 (.t 36))⟩,
   ⟨(some 9), none, (.mv (.t 39))⟩,
   ⟨(some 10), none, (.mv (.t 40))⟩])
 (.seq
 (.reg [⟨(some 42), none, (.loadN 9 (.t 8))⟩,
   ⟨(some 43), none, (.call 18 [(.t 42)])⟩,
   ⟨(some 41), none, (.mv (.t 43))⟩,
   ⟨(some 44), none, (.extract 0 (.t 41))⟩,
   ⟨(some 45), none, (.extract 1 (.t 41))⟩,
   ⟨(some 11), none, (.mv (.t 44))⟩,
   ⟨(some 12), none, (.mv (.t 45))⟩])
 (.seq
 (.reg [⟨(some 47), none, (.mv (.t 11))⟩,
   ⟨(some 48), none, (.call 19 [(.t 47)])⟩,
   ⟨(some 46), none, (.mv (.t 48))⟩,
   ⟨(some 49), none, (.extract 0 (.t 46))⟩,
   ⟨(some 50), none, (.extract 1 (.t 46))⟩,
   ⟨(some 13), none, (.alloc [(.bool false), (.int .i64 0), (.int .u16 0), (.int .u32 0), (.int .u32 0), (.slice none 0 0 none), (.int .u16 0), (.slice none 0 0 none), (.slice none 0 0 none)])⟩,
   ⟨none, none, (.store 9 (.t 13) (.t 49))⟩,
   ⟨(some 14), none, (.mv (.t 50))⟩])
 (.seq
 (.reg [⟨(some 52), none, (.mv (.t 9))⟩,
   ⟨(some 53), none, (.call 19 [(.t 52)])⟩,
   ⟨(some 51), none, (.mv (.t 53))⟩,
   ⟨(some 54), none, (.extract 0 (.t 51))⟩,
   ⟨(some 55), none, (.extract 1 (.t 51))⟩,
   ⟨(some 15), none, (.alloc [(.bool false), (.int .i64 0), (.int .u16 0), (.int .u32 0), (.int .u32 0), (.slice none 0 0 none), (.int .u16 0), (.slice none 0 0 none), (.slice none 0 0 none)])⟩,
   ⟨none, none, (.store 9 (.t 15) (.t 54))⟩,
   ⟨(some 16), none, (.mv (.t 55))⟩])
 (.seq
 (.reg [⟨(some 56), none, (.fieldAddr 6 1 (.t 13))⟩,
   ⟨none, none, (.store 1 (.t 56) (.c (.int .u16 0)))⟩,
   ⟨(some 57), none, (.fieldAddr 7 1 (.t 13))⟩,
   ⟨none, none, (.store 1 (.t 57) (.c (.slice none 0 0 none)))⟩])
 (.seq
 (.dreg [⟨(some 58), none, (.mv (.t 10))⟩,
   ⟨(some 59), none, (.bin .eql .num (.t 58) (.c (.int .i64 0)))⟩,
   ⟨(some 60), none, (.mv (.t 59))⟩,
   ⟨(some 61), (some (60, true)), (.mv (.t 12))⟩,
   ⟨(some 62), (some (60, true)), (.bin .eql .num (.t 61) (.c (.int .i64 0)))⟩,
   ⟨(some 63), none, (.pick (.t 60) (.t 62) (.c (.bool false)))⟩,
   ⟨(some 64), none, (.mv (.t 63))⟩,
   ⟨(some 65), (some (64, true)), (.mv (.t 14))⟩,
   ⟨(some 66), (some (64, true)), (.bin .eql .num (.t 65) (.c (.int .i64 0)))⟩,
   ⟨(some 67), none, (.pick (.t 64) (.t 66) (.c (.bool false)))⟩,
   ⟨(some 68), none, (.mv (.t 67))⟩,
   ⟨(some 69), (some (68, true)), (.mv (.t 16))⟩,
   ⟨(some 70), (some (68, true)), (.bin .eql .num (.t 69) (.c (.int .i64 0)))⟩,
   ⟨(some 71), none, (.pick (.t 68) (.t 70) (.c (.bool false)))⟩,
   ⟨(some 72), none, (.mv (.t 71))⟩,
   ⟨(some 73), (some (72, true)), (.mv (.t 11))⟩,
   ⟨(some 74), (some (72, true)), (.len (.t 73))⟩,
   ⟨(some 75), (some (72, true)), (.mv (.t 9))⟩,
   ⟨(some 76), (some (72, true)), (.len (.t 75))⟩,
   ⟨(some 77), (some (72, true)), (.bin .add .num (.t 76) (.c (.int .i64 4)))⟩,
   ⟨(some 78), (some (72, true)), (.fieldAddr 7 1 (.t 8))⟩,
   ⟨(some 79), (some (72, true)), (.load1 (.t 78))⟩,
   ⟨(some 80), (some (72, true)), (.len (.t 79))⟩,
   ⟨(some 81), (some (72, true)), (.bin .add .num (.t 77) (.t 80))⟩,
   ⟨(some 82), (some (72, true)), (.bin .eql .num (.t 74) (.t 81))⟩,
   ⟨(some 83), none, (.pick (.t 72) (.t 82) (.c (.bool false)))⟩,
   ⟨(some 84), none, (.mv (.t 83))⟩,
   ⟨(some 85), (some (84, true)), (.loadN 9 (.t 13))⟩,
   ⟨(some 86), (some (84, true)), (.loadN 9 (.t 15))⟩,
   ⟨(some 87), (some (84, true)), (.call 16 [(.t 85), (.t 86)])⟩,
   ⟨(some 88), none, (.pick (.t 84) (.t 87) (.c (.bool false)))⟩,
   ⟨(some 89), none, (.mv (.t 88))⟩,
   ⟨(some 90), (some (89, true)), (.loadN 9 (.t 8))⟩,
   ⟨(some 91), (some (89, true)), (.call 20 [(.t 90)])⟩,
   ⟨(some 92), (some (89, true)), (.mv (.t 11))⟩,
   ⟨(some 93), (some (89, true)), (.len (.t 92))⟩,
   ⟨(some 94), (some (89, true)), (.bin .eql .num (.t 91) (.t 93))⟩,
   ⟨(some 95), none, (.pick (.t 89) (.t 94) (.c (.bool false)))⟩,
   ⟨(some 96), none, (.mv (.t 95))⟩,
   ⟨(some 97), (some (96, true)), (.mv (.t 9))⟩,
   ⟨(some 98), (some (96, true)), (.ixSlice 1 (.t 97) (.c (.int .i64 0)))⟩,
   ⟨(some 99), (some (96, true)), (.load1 (.t 98))⟩,
   ⟨(some 100), (some (96, true)), (.bin .or .num (.t 99) (.c (.int .u8 16)))⟩,
   ⟨(some 101), (some (96, true)), (.mv (.t 11))⟩,
   ⟨(some 102), (some (96, true)), (.ixSlice 1 (.t 101) (.c (.int .i64 0)))⟩,
   ⟨(some 103), (some (96, true)), (.load1 (.t 102))⟩,
   ⟨(some 104), (some (96, true)), (.bin .eql .num (.t 100) (.t 103))⟩,
   ⟨(some 105), none, (.pick (.t 96) (.t 104) (.c (.bool false)))⟩,
   ⟨(some 106), none, (.mv (.t 105))⟩,
   ⟨(some 107), (some (106, true)), (.call 14 [])⟩,
   ⟨(some 108), none, (.pick (.t 106) (.t 107) (.c (.bool false)))⟩,
   ⟨(some 6), none, (.mv (.t 108))⟩] []) .ret))))))))))))⟩
theorem caf6 : cFunc Try.prog Try.f6 = some af6 := by kernel_rfl
/-- limelight/limelightlaw3.RtpApart -/
def af7 : AFunc := ⟨104, [(.tmp 6)],
 (.seq
 (.reg [⟨(some 6), none, (.mv (.c (.bool false)))⟩])
 (.seq
 (.reg [⟨(some 16), none, (.mv (.t 0))⟩,
   ⟨(some 17), none, (.build [(.slice none 0 0 none), (.int .i64 0)] [(0, (1, (.t 16)))])⟩,
   ⟨(some 18), none, (.box (.t 17))⟩,
   ⟨(some 19), none, (.call 9 [(.t 18)])⟩,
   ⟨(some 20), none, (.mv (.t 1))⟩,
   ⟨(some 21), none, (.build [(.slice none 0 0 none), (.int .i64 0)] [(0, (1, (.t 20)))])⟩,
   ⟨(some 22), none, (.box (.t 21))⟩,
   ⟨(some 23), none, (.call 9 [(.t 22)])⟩,
   ⟨(some 7), none, (.alloc [(.bool false), (.int .i64 0), (.int .u16 0), (.int .u32 0), (.int .u32 0), (.slice none 0 0 none), (.int .u16 0), (.slice none 0 0 none), (.slice none 0 0 none)])⟩,
   ⟨(some 8), none, (.alloc [(.bool false), (.int .i64 0), (.int .u16 0), (.int .u32 0), (.int .u32 0), (.slice none 0 0 none), (.int .u16 0), (.slice none 0 0 none), (.slice none 0 0 none)])⟩,
   ⟨none, none, (.store 9 (.t 7) (.t 19))⟩,
   ⟨none, none, (.store 9 (.t 8) (.t 23))⟩])
 (.seq
 (.reg [⟨(some 25), none, (.loadN 9 (.t 7))⟩,
   ⟨(some 26), none, (.call 18 [(.t 25)])⟩,
   ⟨(some 24), none, (.mv (.t 26))⟩,
   ⟨(some 27), none, (.extract 0 (.t 24))⟩,
   ⟨(some 28), none, (.extract 1 (.t 24))⟩,
   ⟨(some 9), none, (.mv (.t 27))⟩,
   ⟨(some 10), none, (.mv (.t 28))⟩])
 (.seq
 (.reg [⟨(some 30), none, (.loadN 9 (.t 8))⟩,
   ⟨(some 31), none, (.call 18 [(.t 30)])⟩,
   ⟨(some 29), none, (.mv (.t 31))⟩,
   ⟨(some 32), none, (.extract 0 (.t 29))⟩,
   ⟨(some 33), none, (.extract 1 (.t 29))⟩,
   ⟨(some 11), none, (.mv (.t 32))⟩,
   ⟨(some 12), none, (.mv (.t 33))⟩])
 (.seq
 (.reg [⟨(some 34), none, (.loadN 9 (.t 7))⟩,
   ⟨(some 13), none, (.alloc [(.bool false), (.int .i64 0), (.int .u16 0), (.int .u32 0), (.int .u32 0), (.slice none 0 0 none), (.int .u16 0), (.slice none 0 0 none), (.slice none 0 0 none)])⟩,
   ⟨none, none, (.store 9 (.t 13) (.t 34))⟩])
 (.seq
 (.seq
 (.reg [⟨(some 35), none, (.mv (.t 2))⟩,
   ⟨(some 36), none, (.call 15 [(.t 35), (.c (.int .i64 0)), (.c (.int .i64 3))])⟩])
 (.block 0
 (.seq
 (.reg [⟨(some 45), none, (.bin .eql .num (.t 36) (.c (.int .i64 0)))⟩,
   ⟨(some 44), none, (.mv (.t 45))⟩])
 (.cond (.t 44)
 (.reg [⟨(some 46), none, (.fieldAddr 2 1 (.t 13))⟩,
   ⟨(some 47), none, (.load1 (.t 46))⟩,
   ⟨(some 48), none, (.bin .add .num (.t 47) (.c (.int .u16 1)))⟩,
   ⟨(some 49), none, (.fieldAddr 2 1 (.t 13))⟩,
   ⟨none, none, (.store 1 (.t 49) (.t 48))⟩])
 (.seq
 (.reg [⟨(some 51), none, (.bin .eql .num (.t 36) (.c (.int .i64 1)))⟩,
   ⟨(some 50), none, (.mv (.t 51))⟩])
 (.cond (.t 50)
 (.reg [⟨(some 52), none, (.fieldAddr 3 1 (.t 13))⟩,
   ⟨(some 53), none, (.load1 (.t 52))⟩,
   ⟨(some 54), none, (.bin .add .num (.t 53) (.c (.int .u32 1)))⟩,
   ⟨(some 55), none, (.fieldAddr 3 1 (.t 13))⟩,
   ⟨none, none, (.store 1 (.t 55) (.t 54))⟩])
 (.seq
 (.reg [⟨(some 57), none, (.bin .eql .num (.t 36) (.c (.int .i64 2)))⟩,
   ⟨(some 56), none, (.mv (.t 57))⟩])
 (.cond (.t 56)
 (.reg [⟨(some 58), none, (.fieldAddr 0 1 (.t 13))⟩,
   ⟨(some 59), none, (.load1 (.t 58))⟩,
   ⟨(some 60), none, (.un .not (.t 59))⟩,
   ⟨(some 61), none, (.fieldAddr 0 1 (.t 13))⟩,
   ⟨none, none, (.store 1 (.t 61) (.t 60))⟩])
 (.reg [⟨(some 37), none, (.buildSlice 1 [(.int .u8 0)] 0 [])⟩,
   ⟨(some 38), none, (.fieldAddr 8 1 (.t 13))⟩,
   ⟨(some 39), none, (.load1 (.t 38))⟩,
   ⟨(some 40), none, (.append 1 1 (.t 37) (.t 39))⟩,
   ⟨(some 41), none, (.buildSlice 1 [(.int .u8 0)] 1 [(0, (1, (.c (.int .u8 7))))])⟩,
   ⟨(some 42), none, (.append 1 1 (.t 40) (.t 41))⟩,
   ⟨(some 43), none, (.fieldAddr 8 1 (.t 13))⟩,
   ⟨none, none, (.store 1 (.t 43) (.t 42))⟩])))))))))
 (.seq
 (.reg [⟨(some 63), none, (.loadN 9 (.t 13))⟩,
   ⟨(some 64), none, (.call 18 [(.t 63)])⟩,
   ⟨(some 62), none, (.mv (.t 64))⟩,
   ⟨(some 65), none, (.extract 0 (.t 62))⟩,
   ⟨(some 66), none, (.extract 1 (.t 62))⟩,
   ⟨(some 14), none, (.mv (.t 65))⟩,
   ⟨(some 15), none, (.mv (.t 66))⟩])
 (.seq
 (.dreg [⟨(some 67), none, (.mv (.t 10))⟩,
   ⟨(some 68), none, (.bin .eql .num (.t 67) (.c (.int .i64 0)))⟩,
   ⟨(some 69), none, (.mv (.t 68))⟩,
   ⟨(some 70), (some (69, true)), (.mv (.t 12))⟩,
   ⟨(some 71), (some (69, true)), (.bin .eql .num (.t 70) (.c (.int .i64 0)))⟩,
   ⟨(some 72), none, (.pick (.t 69) (.t 71) (.c (.bool false)))⟩,
   ⟨(some 73), none, (.mv (.t 72))⟩,
   ⟨(some 74), (some (73, true)), (.mv (.t 15))⟩,
   ⟨(some 75), (some (73, true)), (.bin .eql .num (.t 74) (.c (.int .i64 0)))⟩,
   ⟨(some 76), none, (.pick (.t 73) (.t 75) (.c (.bool false)))⟩,
   ⟨(some 77), none, (.mv (.t 76))⟩,
   ⟨(some 78), (some (77, true)), (.mv (.t 9))⟩,
   ⟨(some 79), (some (77, true)), (.conv .bytesStr (.t 78))⟩,
   ⟨(some 80), (some (77, true)), (.mv (.t 11))⟩,
   ⟨(some 81), (some (77, true)), (.conv .bytesStr (.t 80))⟩,
   ⟨(some 82), (some (77, true)), (.bin .eql .str (.t 79) (.t 81))⟩,
   ⟨(some 83), (some (77, true)), (.loadN 9 (.t 7))⟩,
   ⟨(some 84), (some (77, true)), (.loadN 9 (.t 8))⟩,
   ⟨(some 85), (some (77, true)), (.call 17 [(.t 83), (.t 84)])⟩,
   ⟨(some 86), (some (77, true)), (.bin .eql .bool (.t 82) (.t 85))⟩,
   ⟨(some 87), none, (.pick (.t 77) (.t 86) (.c (.bool false)))⟩,
   ⟨(some 88), none, (.mv (.t 87))⟩,
   ⟨(some 89), (some (88, true)), (.mv (.t 9))⟩,
   ⟨(some 90), (some (88, true)), (.conv .bytesStr (.t 89))⟩,
   ⟨(some 91), (some (88, true)), (.mv (.t 14))⟩,
   ⟨(some 92), (some (88, true)), (.conv .bytesStr (.t 91))⟩,
   ⟨(some 93), (some (88, true)), (.bin .neq .str (.t 90) (.t 92))⟩,
   ⟨(some 94), none, (.pick (.t 88) (.t 93) (.c (.bool false)))⟩,
   ⟨(some 95), none, (.mv (.t 94))⟩,
   ⟨(some 96), (some (95, true)), (.loadN 9 (.t 7))⟩,
   ⟨(some 97), (some (95, true)), (.loadN 9 (.t 13))⟩,
   ⟨(some 98), (some (95, true)), (.call 16 [(.t 96), (.t 97)])⟩,
   ⟨(some 99), (some (95, true)), (.un .not (.t 98))⟩,
   ⟨(some 100), none, (.pick (.t 95) (.t 99) (.c (.bool false)))⟩,
   ⟨(some 101), none, (.mv (.t 100))⟩,
   ⟨(some 102), (some (101, true)), (.call 14 [])⟩,
   ⟨(some 103), none, (.pick (.t 101) (.t 102) (.c (.bool false)))⟩,
   ⟨(some 6), none, (.mv (.t 103))⟩] [(12, 19), (14, 19)]) .ret))))))))⟩
theorem caf7 : cFunc Try.prog Try.f7 = some af7 := by kernel_rfl
def af8_l0 : AC :=
 (.seq
 (.seq
 (.reg [⟨(some 5), none, (.mv (.t 4))⟩,
   ⟨(some 6), none, (.bin .lss .num (.t 5) (.c (.int .i64 400)))⟩])
 (.cond (.t 6) .skip (.exit 0)))
 (.seq
 (.block 1
 (.reg [⟨(some 9), none, (.mv (.t 3))⟩,
   ⟨(some 10), none, (.mv (.t 4))⟩,
   ⟨(some 11), none, (.mv (.t 4))⟩,
   ⟨(some 12), none, (.bin .mul .num (.t 10) (.t 11))⟩,
   ⟨(some 13), none, (.bin .mul .num (.t 12) (.c (.int .i64 7)))⟩,
   ⟨(some 14), none, (.mv (.t 0))⟩,
   ⟨(some 15), none, (.bin .mul .num (.t 14) (.c (.int .i64 23)))⟩,
   ⟨(some 16), none, (.bin .add .num (.t 13) (.t 15))⟩,
   ⟨(some 17), none, (.mv (.t 4))⟩,
   ⟨(some 18), none, (.mv (.t 0))⟩,
   ⟨(some 19), none, (.bin .mul .num (.t 17) (.t 18))⟩,
   ⟨(some 20), none, (.bin .add .num (.t 16) (.t 19))⟩,
   ⟨(some 21), none, (.bin .rem .num (.t 20) (.c (.int .i64 211)))⟩,
   ⟨(some 22), none, (.buildSlice 1 [(.int .i64 0)] 1 [(0, (1, (.t 21)))])⟩,
   ⟨(some 23), none, (.append 1 8 (.t 9) (.t 22))⟩,
   ⟨(some 3), none, (.mv (.t 23))⟩]))
 (.reg [⟨(some 7), none, (.mv (.t 4))⟩,
   ⟨(some 8), none, (.bin .add .num (.t 7) (.c (.int .i64 1)))⟩,
   ⟨(some 4), none, (.mv (.t 8))⟩])))
/-- limelight/limelightlaw3.tape -/
def af8 : AFunc := ⟨25, [(.tmp 2)],
 (.seq
 (.reg [⟨(some 2), none, (.mv (.c (.slice none 0 0 none)))⟩])
 (.seq
 (.reg [⟨(some 3), none, (.mv (.c (.slice none 0 0 none)))⟩])
 (.seq
 (.seq
 (.reg [⟨(some 4), none, (.mv (.c (.int .i64 0)))⟩])
 (.block 0
 (.loop af8_l0)))
 (.seq
 (.reg [⟨(some 24), none, (.mv (.t 3))⟩,
   ⟨(some 2), none, (.mv (.t 24))⟩]) .ret))))⟩
theorem caf8 : cFunc Try.prog Try.f8 = some af8 := by kernel_rfl
def af9_l0 : AC :=
 (.seq
 (.seq
 (.reg [⟨(some 22), none, (.mv (.t 4))⟩,
   ⟨(some 23), none, (.bin .gtr .num (.t 22) (.c (.int .i64 0)))⟩])
 (.cond (.t 23) .skip (.exit 0)))
 (.seq
 (.block 1
 (.dreg [⟨(some 26), none, (.fieldAddr 5 1 (.t 3))⟩,
   ⟨(some 27), none, (.load1 (.t 26))⟩,
   ⟨(some 28), none, (.mv (.t 0))⟩,
   ⟨(some 29), none, (.call 22 [(.t 28)])⟩,
   ⟨(some 30), none, (.buildSlice 1 [(.int .u32 0)] 1 [(0, (1, (.t 29)))])⟩,
   ⟨(some 31), none, (.append 1 4 (.t 27) (.t 30))⟩,
   ⟨(some 32), none, (.fieldAddr 5 1 (.t 3))⟩,
   ⟨none, none, (.store 1 (.t 32) (.t 31))⟩] [(1, 4), (1, 5)]))
 (.reg [⟨(some 24), none, (.mv (.t 4))⟩,
   ⟨(some 25), none, (.bin .sub .num (.t 24) (.c (.int .i64 1)))⟩,
   ⟨(some 4), none, (.mv (.t 25))⟩])))
/-- (*limelight/limelightkeep.Tape).Rtp -/
def af9 : AFunc := ⟨71, [(.cellN 2 9)],
 (.seq
 (.reg [⟨(some 2), none, (.alloc [(.bool false), (.int .i64 0), (.int .u16 0), (.int .u32 0), (.int .u32 0), (.slice none 0 0 none), (.int .u16 0), (.slice none 0 0 none), (.slice none 0 0 none)])⟩])
 (.seq
 (.reg [⟨(some 5), none, (.mv (.t 0))⟩,
   ⟨(some 6), none, (.call 21 [(.t 5), (.c (.int .i64 2))])⟩,
   ⟨(some 7), none, (.bin .eql .num (.t 6) (.c (.int .i64 0)))⟩,
   ⟨(some 8), none, (.mv (.t 0))⟩,
   ⟨(some 9), none, (.call 21 [(.t 8), (.c (.int .i64 128))])⟩,
   ⟨(some 10), none, (.mv (.t 0))⟩,
   ⟨(some 11), none, (.call 21 [(.t 10), (.c (.int .i64 65536))])⟩,
   ⟨(some 12), none, (.conv (.int .u16) (.t 11))⟩,
   ⟨(some 13), none, (.mv (.t 0))⟩,
   ⟨(some 14), none, (.call 22 [(.t 13)])⟩,
   ⟨(some 15), none, (.mv (.t 0))⟩,
   ⟨(some 16), none, (.call 22 [(.t 15)])⟩,
   ⟨(some 17), none, (.mv (.t 0))⟩,
   ⟨(some 18), none, (.call 23 [(.t 17), (.c (.int .i64 30))])⟩,
   ⟨(some 19), none, (.build [(.bool false), (.int .i64 0), (.int .u16 0), (.int .u32 0), (.int .u32 0), (.slice none 0 0 none), (.int .u16 0), (.slice none 0 0 none), (.slice none 0 0 none)] [(0, (1, (.t 7))), (1, (1, (.t 9))), (2, (1, (.t 12))), (3, (1, (.t 14))), (4, (1, (.t 16))), (8, (1, (.t 18)))])⟩,
   ⟨(some 3), none, (.alloc [(.bool false), (.int .i64 0), (.int .u16 0), (.int .u32 0), (.int .u32 0), (.slice none 0 0 none), (.int .u16 0), (.slice none 0 0 none), (.slice none 0 0 none)])⟩,
   ⟨none, none, (.store 9 (.t 3) (.t 19))⟩])
 (.seq
 (.seq
 (.reg [⟨(some 20), none, (.mv (.t 0))⟩,
   ⟨(some 21), none, (.call 21 [(.t 20), (.c (.int .i64 4))])⟩,
   ⟨(some 4), none, (.mv (.t 21))⟩])
 (.block 0
 (.loop af9_l0)))
 (.seq
 (.seq
 (.reg [⟨(some 33), none, (.mv (.t 0))⟩,
   ⟨(some 34), none, (.call 21 [(.t 33), (.c (.int .i64 4))])⟩])
 (.block 2
 (.seq
 (.reg [⟨(some 36), none, (.bin .eql .num (.t 34) (.c (.int .i64 0)))⟩,
   ⟨(some 35), none, (.mv (.t 36))⟩])
 (.cond (.t 35)
 (.seq
 (.reg [⟨(some 37), none, (.fieldAddr 6 1 (.t 3))⟩,
   ⟨none, none, (.store 1 (.t 37) (.c (.int .u16 48862)))⟩])
 (.dreg [⟨(some 39), none, (.fieldAddr 6 1 (.t 3))⟩,
   ⟨(some 40), none, (.load1 (.t 39))⟩,
   ⟨(some 41), none, (.mv (.t 0))⟩,
   ⟨(some 42), none, (.call 25 [(.t 41), (.c (.bool false))])⟩,
   ⟨(some 43), none, (.call 24 [(.t 40), (.t 42)])⟩,
   ⟨(some 38), none, (.mv (.t 43))⟩,
   ⟨(some 44), none, (.extract 0 (.t 38))⟩,
   ⟨(some 45), none, (.extract 1 (.t 38))⟩,
   ⟨(some 46), none, (.fieldAddr 7 1 (.t 3))⟩,
   ⟨none, none, (.store 1 (.t 46) (.t 44))⟩] [(1, 4)]))
 (.seq
 (.reg [⟨(some 48), none, (.bin .eql .num (.t 34) (.c (.int .i64 1)))⟩,
   ⟨(some 47), none, (.mv (.t 48))⟩])
 (.cond (.t 47)
 (.seq
 (.reg [⟨(some 49), none, (.fieldAddr 6 1 (.t 3))⟩,
   ⟨none, none, (.store 1 (.t 49) (.c (.int .u16 4096)))⟩])
 (.dreg [⟨(some 51), none, (.fieldAddr 6 1 (.t 3))⟩,
   ⟨(some 52), none, (.load1 (.t 51))⟩,
   ⟨(some 53), none, (.mv (.t 0))⟩,
   ⟨(some 54), none, (.call 25 [(.t 53), (.c (.bool true))])⟩,
   ⟨(some 55), none, (.call 24 [(.t 52), (.t 54)])⟩,
   ⟨(some 50), none, (.mv (.t 55))⟩,
   ⟨(some 56), none, (.extract 0 (.t 50))⟩,
   ⟨(some 57), none, (.extract 1 (.t 50))⟩,
   ⟨(some 58), none, (.fieldAddr 7 1 (.t 3))⟩,
   ⟨none, none, (.store 1 (.t 58) (.t 56))⟩] [(1, 4)]))
 (.seq
 (.reg [⟨(some 60), none, (.bin .eql .num (.t 34) (.c (.int .i64 2)))⟩,
   ⟨(some 59), none, (.mv (.t 60))⟩])
 (.cond (.t 59)
 (.seq
 (.reg [⟨(some 61), none, (.mv (.t 0))⟩,
   ⟨(some 62), none, (.call 21 [(.t 61), (.c (.int .i64 65535))])⟩,
   ⟨(some 63), none, (.bin .add .num (.c (.int .i64 1)) (.t 62))⟩,
   ⟨(some 64), none, (.conv (.int .u16) (.t 63))⟩,
   ⟨(some 65), none, (.fieldAddr 6 1 (.t 3))⟩,
   ⟨none, none, (.store 1 (.t 65) (.t 64))⟩])
 (.reg [⟨(some 66), none, (.mv (.t 0))⟩,
   ⟨(some 67), none, (.call 23 [(.t 66), (.c (.int .i64 12))])⟩,
   ⟨(some 68), none, (.call 26 [(.t 67), (.c (.int .i64 4))])⟩,
   ⟨(some 69), none, (.fieldAddr 7 1 (.t 3))⟩,
   ⟨none, none, (.store 1 (.t 69) (.t 68))⟩])) .skip))))))))
 (.seq
 (.reg [⟨(some 70), none, (.loadN 9 (.t 3))⟩,
   ⟨none, none, (.store 9 (.t 2) (.t 70))⟩]) .ret)))))⟩
theorem caf9 : cFunc Try.prog Try.f9 = some af9 := by kernel_rfl
/-- limelight/limelightlaw3.same -/
def af10 : AFunc := ⟨54, [(.tmp 2)],
 (.seq
 (.reg [⟨(some 1), none, (.box (.t 0))⟩,
   ⟨(some 2), none, (.mv (.c (.bool false)))⟩])
 (.seq
 (.reg [⟨(some 8), none, (.loadN 9 (.t 1))⟩,
   ⟨(some 9), none, (.call 18 [(.t 8)])⟩,
   ⟨(some 7), none, (.mv (.t 9))⟩,
   ⟨(some 10), none, (.extract 0 (.t 7))⟩,
   ⟨(some 11), none, (.extract 1 (.t 7))⟩,
   ⟨(some 3), none, (.mv (.t 10))⟩,
   ⟨(some 4), none, (.mv (.t 11))⟩])
 (.seq
 (.reg [⟨(some 13), none, (.loadN 9 (.t 1))⟩,
   ⟨(some 14), none, (.call 12 [(.t 13)])⟩,
   ⟨(some 12), none, (.mv (.t 14))⟩,
   ⟨(some 15), none, (.extract 0 (.t 12))⟩,
   ⟨(some 16), none, (.extract 1 (.t 12))⟩,
   ⟨(some 5), none, (.mv (.t 15))⟩,
   ⟨(some 6), none, (.mv (.t 16))⟩])
 (.seq
 (.dreg [⟨(some 17), none, (.loadN 9 (.t 1))⟩,
   ⟨(some 18), none, (.call 27 [(.t 17)])⟩,
   ⟨(some 19), none, (.loadN 9 (.t 1))⟩,
   ⟨(some 20), none, (.call 28 [(.t 19)])⟩,
   ⟨(some 21), none, (.bin .eql .num (.t 18) (.t 20))⟩,
   ⟨(some 22), none, (.mv (.t 21))⟩,
   ⟨(some 23), (some (22, true)), (.mv (.t 4))⟩,
   ⟨(some 24), (some (22, true)), (.mv (.t 6))⟩,
   ⟨(some 25), (some (22, true)), (.bin .eql .num (.t 23) (.t 24))⟩,
   ⟨(some 26), none, (.pick (.t 22) (.t 25) (.c (.bool false)))⟩,
   ⟨(some 27), none, (.mv (.t 26))⟩,
   ⟨(some 28), (some (27, true)), (.mv (.t 3))⟩,
   ⟨(some 29), (some (27, true)), (.conv .bytesStr (.t 28))⟩,
   ⟨(some 30), (some (27, true)), (.mv (.t 5))⟩,
   ⟨(some 31), (some (27, true)), (.conv .bytesStr (.t 30))⟩,
   ⟨(some 32), (some (27, true)), (.bin .eql .str (.t 29) (.t 31))⟩,
   ⟨(some 33), none, (.pick (.t 27) (.t 32) (.c (.bool false)))⟩,
   ⟨(some 34), none, (.mv (.t 33))⟩,
   ⟨(some 35), (some (34, true)), (.loadN 9 (.t 1))⟩,
   ⟨(some 36), (some (34, true)), (.call 20 [(.t 35)])⟩,
   ⟨(some 37), (some (34, true)), (.mv (.t 5))⟩,
   ⟨(some 38), (some (34, true)), (.len (.t 37))⟩,
   ⟨(some 39), (some (34, true)), (.bin .eql .num (.t 36) (.t 38))⟩,
   ⟨(some 40), none, (.pick (.t 34) (.t 39) (.c (.bool false)))⟩,
   ⟨(some 41), none, (.mv (.t 40))⟩,
   ⟨(some 42), (some (41, true)), (.loadN 9 (.t 1))⟩,
   ⟨(some 43), (some (41, true)), (.loadN 9 (.t 1))⟩,
   ⟨(some 44), (some (41, true)), (.call 16 [(.t 42), (.t 43)])⟩,
   ⟨(some 45), none, (.pick (.t 41) (.t 44) (.c (.bool false)))⟩,
   ⟨(some 46), none, (.mv (.t 45))⟩,
   ⟨(some 47), (some (46, true)), (.mv (.t 6))⟩,
   ⟨(some 48), (some (46, true)), (.bin .neq .num (.t 47) (.c (.int .i64 0)))⟩,
   ⟨(some 49), (some (46, true)), (.mv (.t 48))⟩,
   ⟨(some 50), (some (49, false)), (.mv (.t 5))⟩,
   ⟨(some 51), (some (49, false)), (.call 13 [(.t 50)])⟩,
   ⟨(some 52), (some (46, true)), (.pick (.t 49) (.c (.bool true)) (.t 51))⟩,
   ⟨(some 53), none, (.pick (.t 46) (.t 52) (.c (.bool false)))⟩,
   ⟨(some 2), none, (.mv (.t 53))⟩] [(2, 1)]) .ret))))⟩
theorem caf10 : cFunc Try.prog Try.f10 = some af10 := by kernel_rfl
/-- limelight/limelightlaw3.odd -/
def af11 : AFunc := ⟨42, [(.cellN 6 9)],
 (.seq
 (.reg [⟨(some 3), none, (.box (.t 0))⟩,
   ⟨(some 6), none, (.alloc [(.bool false), (.int .i64 0), (.int .u16 0), (.int .u32 0), (.int .u32 0), (.slice none 0 0 none), (.int .u16 0), (.slice none 0 0 none), (.slice none 0 0 none)])⟩])
 (.seq
 (.seq
 (.reg [⟨(some 7), none, (.mv (.t 1))⟩,
   ⟨(some 8), none, (.call 15 [(.t 7), (.c (.int .i64 0)), (.c (.int .i64 5))])⟩])
 (.block 0
 (.seq
 (.reg [⟨(some 12), none, (.bin .eql .num (.t 8) (.c (.int .i64 0)))⟩,
   ⟨(some 11), none, (.mv (.t 12))⟩])
 (.cond (.t 11)
 (.reg [⟨(some 13), none, (.mv (.t 2))⟩,
   ⟨(some 14), none, (.fieldAddr 1 1 (.t 3))⟩,
   ⟨none, none, (.store 1 (.t 14) (.t 13))⟩])
 (.seq
 (.reg [⟨(some 16), none, (.bin .eql .num (.t 8) (.c (.int .i64 1)))⟩,
   ⟨(some 15), none, (.mv (.t 16))⟩])
 (.cond (.t 15)
 (.reg [⟨(some 17), none, (.mv (.t 2))⟩,
   ⟨(some 18), none, (.bin .and .num (.t 17) (.c (.int .i64 31)))⟩,
   ⟨(some 19), none, (.mkSlice 1 4 [(.int .u32 0)] (.t 18) (.t 18))⟩,
   ⟨(some 20), none, (.fieldAddr 5 1 (.t 3))⟩,
   ⟨none, none, (.store 1 (.t 20) (.t 19))⟩])
 (.seq
 (.reg [⟨(some 22), none, (.bin .eql .num (.t 8) (.c (.int .i64 2)))⟩,
   ⟨(some 21), none, (.mv (.t 22))⟩])
 (.cond (.t 21)
 (.reg [⟨(some 23), none, (.buildSlice 1 [(.int .u8 0)] 0 [])⟩,
   ⟨(some 24), none, (.fieldAddr 7 1 (.t 3))⟩,
   ⟨(some 25), none, (.load1 (.t 24))⟩,
   ⟨(some 26), none, (.append 1 1 (.t 23) (.t 25))⟩,
   ⟨(some 27), none, (.buildSlice 1 [(.int .u8 0)] 1 [(0, (1, (.c (.int .u8 1))))])⟩,
   ⟨(some 28), none, (.append 1 1 (.t 26) (.t 27))⟩,
   ⟨(some 29), none, (.fieldAddr 7 1 (.t 3))⟩,
   ⟨none, none, (.store 1 (.t 29) (.t 28))⟩])
 (.seq
 (.reg [⟨(some 31), none, (.bin .eql .num (.t 8) (.c (.int .i64 3)))⟩,
   ⟨(some 30), none, (.mv (.t 31))⟩])
 (.cond (.t 30)
 (.reg [⟨(some 32), none, (.mv (.t 2))⟩,
   ⟨(some 33), none, (.conv (.int .u16) (.t 32))⟩,
   ⟨(some 34), none, (.fieldAddr 6 1 (.t 3))⟩,
   ⟨none, none, (.store 1 (.t 34) (.t 33))⟩])
 (.seq
 (.reg [⟨(some 36), none, (.bin .eql .num (.t 8) (.c (.int .i64 4)))⟩,
   ⟨(some 35), none, (.mv (.t 36))⟩])
 (.cond (.t 35)
 (.reg [⟨(some 37), none, (.mv (.t 2))⟩,
   ⟨(some 38), none, (.bin .and .num (.t 37) (.c (.int .i64 2047)))⟩,
   ⟨(some 39), none, (.mkSlice 1 1 [(.int .u8 0)] (.t 38) (.t 38))⟩,
   ⟨(some 40), none, (.fieldAddr 8 1 (.t 3))⟩,
   ⟨none, none, (.store 1 (.t 40) (.t 39))⟩])
 (.reg [⟨(some 9), none, (.fieldAddr 6 1 (.t 3))⟩,
   ⟨none, none, (.store 1 (.t 9) (.c (.int .u16 0)))⟩,
   ⟨(some 10), none, (.fieldAddr 7 1 (.t 3))⟩,
   ⟨none, none, (.store 1 (.t 10) (.c (.slice none 0 0 none)))⟩])))))))))))))
 (.seq
 (.reg [⟨(some 41), none, (.loadN 9 (.t 3))⟩,
   ⟨none, none, (.store 9 (.t 6) (.t 41))⟩]) .ret)))⟩
theorem caf11 : cFunc Try.prog Try.f11 = some af11 := by kernel_rfl
def af12_l0 : AC :=
 (.seq
 (.reg [⟨(some 52), none, (.bin .lss .num (.t 51) (.t 50))⟩])
 (.seq
 (.cond (.t 52) .skip (.exit 0))
 (.seq
 (.block 1
 (.seq
 (.reg [⟨(some 53), none, (.ixSlice 1 (.t 49) (.t 51))⟩,
   ⟨(some 54), none, (.load1 (.t 53))⟩,
   ⟨(some 9), none, (.mv (.t 54))⟩])
 (.reg [⟨(some 55), none, (.mv (.t 7))⟩,
   ⟨(some 56), none, (.mv (.t 9))⟩,
   ⟨(some 57), none, (.conv (.int .u64) (.t 56))⟩,
   ⟨(some 58), none, (.call 29 [(.t 55), (.t 57), (.c (.int .i64 4))])⟩,
   ⟨(some 7), none, (.mv (.t 58))⟩])))
 (.reg [⟨(some 59), none, (.bin .add .num (.t 51) (.c (.int .i64 1)))⟩,
   ⟨(some 51), none, (.mv (.t 59))⟩]))))
/-- limelight/limelightref3.Bytes -/
def af12 : AFunc := ⟨82, [(.tmp 2), (.tmp 3)],
 (.seq
 (.reg [⟨(some 1), none, (.box (.t 0))⟩,
   ⟨(some 2), none, (.mv (.c (.slice none 0 0 none)))⟩,
   ⟨(some 3), none, (.mv (.c (.int .i64 0)))⟩])
 (.seq
 (.seq
 (.reg [⟨(some 10), none, (.loadN 9 (.t 1))⟩,
   ⟨(some 11), none, (.call 28 [(.t 10)])⟩,
   ⟨(some 4), none, (.mv (.t 11))⟩])
 (.seq
 (.reg [⟨(some 12), none, (.mv (.t 4))⟩,
   ⟨(some 13), none, (.bin .neq .num (.t 12) (.c (.int .i64 0)))⟩])
 (.cond (.t 13)
 (.seq
 (.reg [⟨(some 14), none, (.mv (.t 4))⟩,
   ⟨(some 2), none, (.mv (.c (.slice none 0 0 none)))⟩,
   ⟨(some 3), none, (.mv (.t 14))⟩]) .ret) .skip)))
 (.seq
 (.dreg [⟨(some 15), none, (.fieldAddr 5 1 (.t 1))⟩,
   ⟨(some 16), none, (.load1 (.t 15))⟩,
   ⟨(some 17), none, (.len (.t 16))⟩,
   ⟨(some 18), none, (.bin .or .num (.c (.int .i64 128)) (.t 17))⟩,
   ⟨(some 19), none, (.fieldAddr 1 1 (.t 1))⟩,
   ⟨(some 20), none, (.load1 (.t 19))⟩,
   ⟨(some 5), none, (.mv (.t 18))⟩,
   ⟨(some 6), none, (.mv (.t 20))⟩] [])
 (.seq
 (.seq
 (.reg [⟨(some 21), none, (.fieldAddr 6 1 (.t 1))⟩,
   ⟨(some 22), none, (.load1 (.t 21))⟩,
   ⟨(some 23), none, (.bin .neq .num (.t 22) (.c (.int .u16 0)))⟩])
 (.cond (.t 23)
 (.reg [⟨(some 24), none, (.mv (.t 5))⟩,
   ⟨(some 25), none, (.bin .or .num (.t 24) (.c (.int .i64 16)))⟩,
   ⟨(some 5), none, (.mv (.t 25))⟩]) .skip))
 (.seq
 (.seq
 (.reg [⟨(some 26), none, (.fieldAddr 0 1 (.t 1))⟩,
   ⟨(some 27), none, (.load1 (.t 26))⟩])
 (.cond (.t 27)
 (.reg [⟨(some 28), none, (.mv (.t 6))⟩,
   ⟨(some 29), none, (.bin .or .num (.t 28) (.c (.int .i64 128)))⟩,
   ⟨(some 6), none, (.mv (.t 29))⟩]) .skip))
 (.seq
 (.reg [⟨(some 30), none, (.mv (.t 5))⟩,
   ⟨(some 31), none, (.conv (.int .u8) (.t 30))⟩,
   ⟨(some 32), none, (.mv (.t 6))⟩,
   ⟨(some 33), none, (.conv (.int .u8) (.t 32))⟩,
   ⟨(some 34), none, (.buildSlice 1 [(.int .u8 0)] 2 [(0, (1, (.t 31))), (1, (1, (.t 33)))])⟩,
   ⟨(some 35), none, (.fieldAddr 2 1 (.t 1))⟩,
   ⟨(some 36), none, (.load1 (.t 35))⟩,
   ⟨(some 37), none, (.conv (.int .u64) (.t 36))⟩,
   ⟨(some 38), none, (.call 29 [(.t 34), (.t 37), (.c (.int .i64 2))])⟩,
   ⟨(some 7), none, (.mv (.t 38))⟩])
 (.seq
 (.dreg [⟨(some 39), none, (.mv (.t 7))⟩,
   ⟨(some 40), none, (.fieldAddr 3 1 (.t 1))⟩,
   ⟨(some 41), none, (.load1 (.t 40))⟩,
   ⟨(some 42), none, (.conv (.int .u64) (.t 41))⟩,
   ⟨(some 43), none, (.call 29 [(.t 39), (.t 42), (.c (.int .i64 4))])⟩,
   ⟨(some 44), none, (.fieldAddr 4 1 (.t 1))⟩,
   ⟨(some 45), none, (.load1 (.t 44))⟩,
   ⟨(some 46), none, (.conv (.int .u64) (.t 45))⟩,
   ⟨(some 47), none, (.call 29 [(.t 43), (.t 46), (.c (.int .i64 4))])⟩,
   ⟨(some 7), none, (.mv (.t 47))⟩] [(6, 4)])
 (.seq
 (.seq
 (.reg [⟨(some 48), none, (.fieldAddr 5 1 (.t 1))⟩,
   ⟨(some 49), none, (.load1 (.t 48))⟩,
   ⟨(some 50), none, (.len (.t 49))⟩,
   ⟨(some 51), none, (.mv (.c (.int .i64 0)))⟩])
 (.block 0
 (.loop af12_l0)))
 (.seq
 (.seq
 (.reg [⟨(some 60), none, (.fieldAddr 6 1 (.t 1))⟩,
   ⟨(some 61), none, (.load1 (.t 60))⟩,
   ⟨(some 62), none, (.bin .neq .num (.t 61) (.c (.int .u16 0)))⟩])
 (.cond (.t 62)
 (.seq
 (.dreg [⟨(some 63), none, (.mv (.t 7))⟩,
   ⟨(some 64), none, (.fieldAddr 6 1 (.t 1))⟩,
   ⟨(some 65), none, (.load1 (.t 64))⟩,
   ⟨(some 66), none, (.conv (.int .u64) (.t 65))⟩,
   ⟨(some 67), none, (.call 29 [(.t 63), (.t 66), (.c (.int .i64 2))])⟩,
   ⟨(some 68), none, (.fieldAddr 7 1 (.t 1))⟩,
   ⟨(some 69), none, (.load1 (.t 68))⟩,
   ⟨(some 70), none, (.len (.t 69))⟩,
   ⟨(some 71), none, (.bin .quo .num (.t 70) (.c (.int .i64 4)))⟩,
   ⟨(some 72), none, (.conv (.int .u64) (.t 71))⟩,
   ⟨(some 73), none, (.call 29 [(.t 67), (.t 72), (.c (.int .i64 2))])⟩,
   ⟨(some 7), none, (.mv (.t 73))⟩] [(6, 4)])
 (.reg [⟨(some 74), none, (.mv (.t 7))⟩,
   ⟨(some 75), none, (.fieldAddr 7 1 (.t 1))⟩,
   ⟨(some 76), none, (.load1 (.t 75))⟩,
   ⟨(some 77), none, (.append 1 1 (.t 74) (.t 76))⟩,
   ⟨(some 7), none, (.mv (.t 77))⟩])) .skip))
 (.seq
 (.reg [⟨(some 78), none, (.mv (.t 7))⟩,
   ⟨(some 79), none, (.fieldAddr 8 1 (.t 1))⟩,
   ⟨(some 80), none, (.load1 (.t 79))⟩,
   ⟨(some 81), none, (.append 1 1 (.t 78) (.t 80))⟩,
   ⟨(some 2), none, (.mv (.t 81))⟩,
   ⟨(some 3), none, (.mv (.c (.int .i64 0)))⟩]) .ret))))))))))⟩
theorem caf12 : cFunc Try.prog Try.f12 = some af12 := by kernel_rfl
/-- limelight/limelightlaw3.reads -/
def af13 : AFunc := ⟨25, [(.tmp 2)],
 (.seq
 (.reg [⟨(some 2), none, (.mv (.c (.bool false)))⟩])
 (.seq
 (.reg [⟨(some 8), none, (.mv (.t 0))⟩,
   ⟨(some 9), none, (.call 19 [(.t 8)])⟩,
   ⟨(some 7), none, (.mv (.t 9))⟩,
   ⟨(some 10), none, (.extract 0 (.t 7))⟩,
   ⟨(some 11), none, (.extract 1 (.t 7))⟩,
   ⟨(some 3), none, (.alloc [(.bool false), (.int .i64 0), (.int .u16 0), (.int .u32 0), (.int .u32 0), (.slice none 0 0 none), (.int .u16 0), (.slice none 0 0 none), (.slice none 0 0 none)])⟩,
   ⟨none, none, (.store 9 (.t 3) (.t 10))⟩,
   ⟨(some 4), none, (.mv (.t 11))⟩])
 (.seq
 (.reg [⟨(some 13), none, (.mv (.t 0))⟩,
   ⟨(some 14), none, (.call 30 [(.t 13)])⟩,
   ⟨(some 12), none, (.mv (.t 14))⟩,
   ⟨(some 15), none, (.extract 0 (.t 12))⟩,
   ⟨(some 16), none, (.extract 1 (.t 12))⟩,
   ⟨(some 5), none, (.alloc [(.bool false), (.int .i64 0), (.int .u16 0), (.int .u32 0), (.int .u32 0), (.slice none 0 0 none), (.int .u16 0), (.slice none 0 0 none), (.slice none 0 0 none)])⟩,
   ⟨none, none, (.store 9 (.t 5) (.t 15))⟩,
   ⟨(some 6), none, (.mv (.t 16))⟩])
 (.seq
 (.reg [⟨(some 17), none, (.mv (.t 4))⟩,
   ⟨(some 18), none, (.mv (.t 6))⟩,
   ⟨(some 19), none, (.bin .eql .num (.t 17) (.t 18))⟩,
   ⟨(some 20), none, (.mv (.t 19))⟩,
   ⟨(some 21), (some (20, true)), (.loadN 9 (.t 3))⟩,
   ⟨(some 22), (some (20, true)), (.loadN 9 (.t 5))⟩,
   ⟨(some 23), (some (20, true)), (.call 17 [(.t 21), (.t 22)])⟩,
   ⟨(some 24), none, (.pick (.t 20) (.t 23) (.c (.bool false)))⟩,
   ⟨(some 2), none, (.mv (.t 24))⟩]) .ret))))⟩
theorem caf13 : cFunc Try.prog Try.f13 = some af13 := by kernel_rfl
/-- limelight/limelightlaw3.known -/
def af14 : AFunc := ⟨96, [(.tmp 0)],
 (.seq
 (.reg [⟨(some 0), none, (.mv (.c (.bool false)))⟩])
 (.seq
 (.reg [⟨(some 12), none, (.buildSlice 1 [(.int .u8 0)] 2 [(0, (1, (.c (.int .u8 120)))), (1, (1, (.c (.int .u8 121))))])⟩,
   ⟨(some 13), none, (.conv .mark (.t 12))⟩,
   ⟨(some 14), none, (.build [(.bool false), (.int .i64 0), (.int .u16 0), (.int .u32 0), (.int .u32 0), (.slice none 0 0 none), (.int .u16 0), (.slice none 0 0 none), (.slice none 0 0 none)] [(0, (1, (.c (.bool true)))), (1, (1, (.c (.int .i64 96)))), (2, (1, (.c (.int .u16 7)))), (3, (1, (.c (.int .u32 9)))), (4, (1, (.c (.int .u32 5)))), (8, (1, (.t 13)))])⟩,
   ⟨(some 1), none, (.alloc [(.bool false), (.int .i64 0), (.int .u16 0), (.int .u32 0), (.int .u32 0), (.slice none 0 0 none), (.int .u16 0), (.slice none 0 0 none), (.slice none 0 0 none)])⟩,
   ⟨none, none, (.store 9 (.t 1) (.t 14))⟩])
 (.seq
 (.reg [⟨(some 16), none, (.loadN 9 (.t 1))⟩,
   ⟨(some 17), none, (.call 18 [(.t 16)])⟩,
   ⟨(some 15), none, (.mv (.t 17))⟩,
   ⟨(some 18), none, (.extract 0 (.t 15))⟩,
   ⟨(some 19), none, (.extract 1 (.t 15))⟩,
   ⟨(some 2), none, (.mv (.t 18))⟩,
   ⟨(some 3), none, (.mv (.t 19))⟩])
 (.seq
 (.reg [⟨(some 21), none, (.mv (.t 2))⟩,
   ⟨(some 22), none, (.call 19 [(.t 21)])⟩,
   ⟨(some 20), none, (.mv (.t 22))⟩,
   ⟨(some 23), none, (.extract 0 (.t 20))⟩,
   ⟨(some 24), none, (.extract 1 (.t 20))⟩,
   ⟨(some 4), none, (.alloc [(.bool false), (.int .i64 0), (.int .u16 0), (.int .u32 0), (.int .u32 0), (.slice none 0 0 none), (.int .u16 0), (.slice none 0 0 none), (.slice none 0 0 none)])⟩,
   ⟨none, none, (.store 9 (.t 4) (.t 23))⟩,
   ⟨(some 5), none, (.mv (.t 24))⟩])
 (.seq
 (.reg [⟨(some 26), none, (.call 19 [(.c (.slice none 0 0 none))])⟩,
   ⟨(some 25), none, (.mv (.t 26))⟩,
   ⟨(some 27), none, (.extract 0 (.t 25))⟩,
   ⟨(some 28), none, (.extract 1 (.t 25))⟩,
   ⟨(some 6), none, (.alloc [(.bool false), (.int .i64 0), (.int .u16 0), (.int .u32 0), (.int .u32 0), (.slice none 0 0 none), (.int .u16 0), (.slice none 0 0 none), (.slice none 0 0 none)])⟩,
   ⟨none, none, (.store 9 (.t 6) (.t 27))⟩,
   ⟨(some 7), none, (.mv (.t 28))⟩])
 (.seq
 (.reg [⟨(some 30), none, (.buildSlice 1 [(.int .u8 0)] 1 [(0, (1, (.c (.int .u8 64))))])⟩,
   ⟨(some 31), none, (.appendZ 1 1 [(.int .u8 0)] (.t 30) (.c (.int .i64 11)))⟩,
   ⟨(some 32), none, (.call 19 [(.t 31)])⟩,
   ⟨(some 29), none, (.mv (.t 32))⟩,
   ⟨(some 33), none, (.extract 0 (.t 29))⟩,
   ⟨(some 34), none, (.extract 1 (.t 29))⟩,
   ⟨(some 8), none, (.alloc [(.bool false), (.int .i64 0), (.int .u16 0), (.int .u32 0), (.int .u32 0), (.slice none 0 0 none), (.int .u16 0), (.slice none 0 0 none), (.slice none 0 0 none)])⟩,
   ⟨none, none, (.store 9 (.t 8) (.t 33))⟩,
   ⟨(some 9), none, (.mv (.t 34))⟩])
 (.seq
 (.reg [⟨(some 36), none, (.buildSlice 1 [(.int .u8 0)] 1 [(0, (1, (.c (.int .u8 160))))])⟩,
   ⟨(some 37), none, (.appendZ 1 1 [(.int .u8 0)] (.t 36) (.c (.int .i64 12)))⟩,
   ⟨(some 38), none, (.call 19 [(.t 37)])⟩,
   ⟨(some 35), none, (.mv (.t 38))⟩,
   ⟨(some 39), none, (.extract 0 (.t 35))⟩,
   ⟨(some 40), none, (.extract 1 (.t 35))⟩,
   ⟨(some 10), none, (.alloc [(.bool false), (.int .i64 0), (.int .u16 0), (.int .u32 0), (.int .u32 0), (.slice none 0 0 none), (.int .u16 0), (.slice none 0 0 none), (.slice none 0 0 none)])⟩,
   ⟨none, none, (.store 9 (.t 10) (.t 39))⟩,
   ⟨(some 11), none, (.mv (.t 40))⟩])
 (.seq
 (.reg [⟨(some 41), none, (.mv (.t 3))⟩,
   ⟨(some 42), none, (.bin .eql .num (.t 41) (.c (.int .i64 0)))⟩,
   ⟨(some 43), none, (.mv (.t 42))⟩,
   ⟨(some 44), (some (43, true)), (.mv (.t 2))⟩,
   ⟨(some 45), (some (43, true)), (.len (.t 44))⟩,
   ⟨(some 46), (some (43, true)), (.bin .eql .num (.t 45) (.c (.int .i64 14)))⟩,
   ⟨(some 47), none, (.pick (.t 43) (.t 46) (.c (.bool false)))⟩,
   ⟨(some 48), none, (.mv (.t 47))⟩,
   ⟨(some 49), (some (48, true)), (.mv (.t 2))⟩,
   ⟨(some 50), (some (48, true)), (.ixSlice 1 (.t 49) (.c (.int .i64 0)))⟩,
   ⟨(some 51), (some (48, true)), (.load1 (.t 50))⟩,
   ⟨(some 52), (some (48, true)), (.bin .eql .num (.t 51) (.c (.int .u8 128)))⟩,
   ⟨(some 53), none, (.pick (.t 48) (.t 52) (.c (.bool false)))⟩,
   ⟨(some 54), none, (.mv (.t 53))⟩,
   ⟨(some 55), (some (54, true)), (.mv (.t 2))⟩,
   ⟨(some 56), (some (54, true)), (.ixSlice 1 (.t 55) (.c (.int .i64 1)))⟩,
   ⟨(some 57), (some (54, true)), (.load1 (.t 56))⟩,
   ⟨(some 58), (some (54, true)), (.bin .eql .num (.t 57) (.c (.int .u8 224)))⟩,
   ⟨(some 59), none, (.pick (.t 54) (.t 58) (.c (.bool false)))⟩,
   ⟨(some 60), none, (.mv (.t 59))⟩,
   ⟨(some 61), (some (60, true)), (.mv (.t 5))⟩,
   ⟨(some 62), (some (60, true)), (.bin .eql .num (.t 61) (.c (.int .i64 0)))⟩,
   ⟨(some 63), none, (.pick (.t 60) (.t 62) (.c (.bool false)))⟩,
   ⟨(some 64), none, (.mv (.t 63))⟩,
   ⟨(some 65), (some (64, true)), (.loadN 9 (.t 1))⟩,
   ⟨(some 66), (some (64, true)), (.loadN 9 (.t 4))⟩,
   ⟨(some 67), (some (64, true)), (.call 16 [(.t 65), (.t 66)])⟩,
   ⟨(some 68), none, (.pick (.t 64) (.t 67) (.c (.bool false)))⟩,
   ⟨(some 69), none, (.mv (.t 68))⟩,
   ⟨(some 70), (some (69, true)), (.mv (.t 7))⟩,
   ⟨(some 71), (some (69, true)), (.bin .eql .num (.t 70) (.c (.int .i64 13)))⟩,
   ⟨(some 72), none, (.pick (.t 69) (.t 71) (.c (.bool false)))⟩,
   ⟨(some 73), none, (.mv (.t 72))⟩,
   ⟨(some 74), (some (73, true)), (.mv (.t 9))⟩,
   ⟨(some 75), (some (73, true)), (.bin .eql .num (.t 74) (.c (.int .i64 12)))⟩,
   ⟨(some 76), none, (.pick (.t 73) (.t 75) (.c (.bool false)))⟩,
   ⟨(some 77), none, (.mv (.t 76))⟩,
   ⟨(some 78), (some (77, true)), (.mv (.t 11))⟩,
   ⟨(some 79), (some (77, true)), (.bin .eql .num (.t 78) (.c (.int .i64 13)))⟩,
   ⟨(some 80), none, (.pick (.t 77) (.t 79) (.c (.bool false)))⟩,
   ⟨(some 81), none, (.mv (.t 80))⟩,
   ⟨(some 82), (some (81, true)), (.loadN 9 (.t 1))⟩,
   ⟨(some 83), (some (81, true)), (.call 20 [(.t 82)])⟩,
   ⟨(some 84), (some (81, true)), (.bin .eql .num (.t 83) (.c (.int .i64 14)))⟩,
   ⟨(some 85), none, (.pick (.t 81) (.t 84) (.c (.bool false)))⟩,
   ⟨(some 86), none, (.mv (.t 85))⟩,
   ⟨(some 87), (some (86, true)), (.build [(.bool false), (.int .i64 0), (.int .u16 0), (.int .u32 0), (.int .u32 0), (.slice none 0 0 none), (.int .u16 0), (.slice none 0 0 none), (.slice none 0 0 none)] [(1, (1, (.c (.int .i64 128))))])⟩,
   ⟨(some 88), (some (86, true)), (.call 27 [(.t 87)])⟩,
   ⟨(some 89), (some (86, true)), (.bin .eql .num (.t 88) (.c (.int .i64 1)))⟩,
   ⟨(some 90), none, (.pick (.t 86) (.t 89) (.c (.bool false)))⟩,
   ⟨(some 91), none, (.mv (.t 90))⟩,
   ⟨(some 92), (some (91, true)), (.build [(.bool false), (.int .i64 0), (.int .u16 0), (.int .u32 0), (.int .u32 0), (.slice none 0 0 none), (.int .u16 0), (.slice none 0 0 none), (.slice none 0 0 none)] [(1, (1, (.c (.int .i64 (-1)))))])⟩,
   ⟨(some 93), (some (91, true)), (.call 20 [(.t 92)])⟩,
   ⟨(some 94), (some (91, true)), (.bin .eql .num (.t 93) (.c (.int .i64 0)))⟩,
   ⟨(some 95), none, (.pick (.t 91) (.t 94) (.c (.bool false)))⟩,
   ⟨(some 0), none, (.mv (.t 95))⟩]) .ret))))))))⟩
theorem caf14 : cFunc Try.prog Try.f14 = some af14 := by kernel_rfl
/-- limelight/limelightbook.Within -/
def af15 : AFunc := ⟨33, [(.tmp 6)],
 (.seq
 (.reg [⟨(some 6), none, (.mv (.c (.int .i64 0)))⟩])
 (.seq
 (.seq
 (.reg [⟨(some 7), none, (.mv (.t 0))⟩,
   ⟨(some 8), none, (.mv (.t 1))⟩,
   ⟨(some 9), none, (.bin .geq .num (.t 7) (.t 8))⟩,
   ⟨(some 10), none, (.mv (.t 9))⟩,
   ⟨(some 11), (some (10, true)), (.mv (.t 0))⟩,
   ⟨(some 12), (some (10, true)), (.mv (.t 2))⟩,
   ⟨(some 13), (some (10, true)), (.bin .leq .num (.t 11) (.t 12))⟩,
   ⟨(some 14), none, (.pick (.t 10) (.t 13) (.c (.bool false)))⟩])
 (.cond (.t 14)
 (.seq
 (.reg [⟨(some 15), none, (.mv (.t 0))⟩,
   ⟨(some 6), none, (.mv (.t 15))⟩]) .ret) .skip))
 (.seq
 (.reg [⟨(some 16), none, (.mv (.t 0))⟩,
   ⟨(some 17), none, (.mv (.t 2))⟩,
   ⟨(some 18), none, (.mv (.t 1))⟩,
   ⟨(some 19), none, (.bin .sub .num (.t 17) (.t 18))⟩,
   ⟨(some 20), none, (.bin .add .num (.t 19) (.c (.int .i64 1)))⟩,
   ⟨(some 21), none, (.bin .rem .num (.t 16) (.t 20))⟩,
   ⟨(some 0), none, (.mv (.t 21))⟩])
 (.seq
 (.seq
 (.reg [⟨(some 22), none, (.mv (.t 0))⟩,
   ⟨(some 23), none, (.bin .lss .num (.t 22) (.c (.int .i64 0)))⟩])
 (.cond (.t 23)
 (.reg [⟨(some 24), none, (.mv (.t 0))⟩,
   ⟨(some 25), none, (.mv (.t 2))⟩,
   ⟨(some 26), none, (.bin .add .num (.t 24) (.t 25))⟩,
   ⟨(some 27), none, (.mv (.t 1))⟩,
   ⟨(some 28), none, (.bin .sub .num (.t 26) (.t 27))⟩,
   ⟨(some 29), none, (.bin .add .num (.t 28) (.c (.int .i64 1)))⟩,
   ⟨(some 0), none, (.mv (.t 29))⟩]) .skip))
 (.seq
 (.reg [⟨(some 30), none, (.mv (.t 1))⟩,
   ⟨(some 31), none, (.mv (.t 0))⟩,
   ⟨(some 32), none, (.bin .add .num (.t 30) (.t 31))⟩,
   ⟨(some 6), none, (.mv (.t 32))⟩]) .ret)))))⟩
theorem caf15 : cFunc Try.prog Try.f15 = some af15 := by kernel_rfl
/-- limelight/rtp.Same -/
def af16 : AFunc := ⟨66, [(.tmp 4)],
 (.seq
 (.reg [⟨(some 2), none, (.box (.t 0))⟩,
   ⟨(some 3), none, (.box (.t 1))⟩,
   ⟨(some 4), none, (.mv (.c (.bool false)))⟩])
 (.seq
 (.reg [⟨(some 5), none, (.fieldAddr 0 1 (.t 2))⟩,
   ⟨(some 6), none, (.load1 (.t 5))⟩,
   ⟨(some 7), none, (.fieldAddr 0 1 (.t 3))⟩,
   ⟨(some 8), none, (.load1 (.t 7))⟩,
   ⟨(some 9), none, (.bin .eql .bool (.t 6) (.t 8))⟩,
   ⟨(some 10), none, (.mv (.t 9))⟩,
   ⟨(some 11), (some (10, true)), (.fieldAddr 1 1 (.t 2))⟩,
   ⟨(some 12), (some (10, true)), (.load1 (.t 11))⟩,
   ⟨(some 13), (some (10, true)), (.fieldAddr 1 1 (.t 3))⟩,
   ⟨(some 14), (some (10, true)), (.load1 (.t 13))⟩,
   ⟨(some 15), (some (10, true)), (.bin .eql .num (.t 12) (.t 14))⟩,
   ⟨(some 16), none, (.pick (.t 10) (.t 15) (.c (.bool false)))⟩,
   ⟨(some 17), none, (.mv (.t 16))⟩,
   ⟨(some 18), (some (17, true)), (.fieldAddr 2 1 (.t 2))⟩,
   ⟨(some 19), (some (17, true)), (.load1 (.t 18))⟩,
   ⟨(some 20), (some (17, true)), (.fieldAddr 2 1 (.t 3))⟩,
   ⟨(some 21), (some (17, true)), (.load1 (.t 20))⟩,
   ⟨(some 22), (some (17, true)), (.bin .eql .num (.t 19) (.t 21))⟩,
   ⟨(some 23), none, (.pick (.t 17) (.t 22) (.c (.bool false)))⟩,
   ⟨(some 24), none, (.mv (.t 23))⟩,
   ⟨(some 25), (some (24, true)), (.fieldAddr 3 1 (.t 2))⟩,
   ⟨(some 26), (some (24, true)), (.load1 (.t 25))⟩,
   ⟨(some 27), (some (24, true)), (.fieldAddr 3 1 (.t 3))⟩,
   ⟨(some 28), (some (24, true)), (.load1 (.t 27))⟩,
   ⟨(some 29), (some (24, true)), (.bin .eql .num (.t 26) (.t 28))⟩,
   ⟨(some 30), none, (.pick (.t 24) (.t 29) (.c (.bool false)))⟩,
   ⟨(some 31), none, (.mv (.t 30))⟩,
   ⟨(some 32), (some (31, true)), (.fieldAddr 4 1 (.t 2))⟩,
   ⟨(some 33), (some (31, true)), (.load1 (.t 32))⟩,
   ⟨(some 34), (some (31, true)), (.fieldAddr 4 1 (.t 3))⟩,
   ⟨(some 35), (some (31, true)), (.load1 (.t 34))⟩,
   ⟨(some 36), (some (31, true)), (.bin .eql .num (.t 33) (.t 35))⟩,
   ⟨(some 37), none, (.pick (.t 31) (.t 36) (.c (.bool false)))⟩,
   ⟨(some 38), none, (.mv (.t 37))⟩,
   ⟨(some 39), (some (38, true)), (.fieldAddr 5 1 (.t 2))⟩,
   ⟨(some 40), (some (38, true)), (.load1 (.t 39))⟩,
   ⟨(some 41), (some (38, true)), (.fieldAddr 5 1 (.t 3))⟩,
   ⟨(some 42), (some (38, true)), (.load1 (.t 41))⟩,
   ⟨(some 43), (some (38, true)), (.call 31 [(.t 40), (.t 42)])⟩,
   ⟨(some 44), none, (.pick (.t 38) (.t 43) (.c (.bool false)))⟩,
   ⟨(some 45), none, (.mv (.t 44))⟩,
   ⟨(some 46), (some (45, true)), (.fieldAddr 6 1 (.t 2))⟩,
   ⟨(some 47), (some (45, true)), (.load1 (.t 46))⟩,
   ⟨(some 48), (some (45, true)), (.fieldAddr 6 1 (.t 3))⟩,
   ⟨(some 49), (some (45, true)), (.load1 (.t 48))⟩,
   ⟨(some 50), (some (45, true)), (.bin .eql .num (.t 47) (.t 49))⟩,
   ⟨(some 51), none, (.pick (.t 45) (.t 50) (.c (.bool false)))⟩,
   ⟨(some 52), none, (.mv (.t 51))⟩,
   ⟨(some 53), (some (52, true)), (.fieldAddr 7 1 (.t 2))⟩,
   ⟨(some 54), (some (52, true)), (.load1 (.t 53))⟩,
   ⟨(some 55), (some (52, true)), (.fieldAddr 7 1 (.t 3))⟩,
   ⟨(some 56), (some (52, true)), (.load1 (.t 55))⟩,
   ⟨(some 57), (some (52, true)), (.call 32 [(.t 54), (.t 56)])⟩,
   ⟨(some 58), none, (.pick (.t 52) (.t 57) (.c (.bool false)))⟩,
   ⟨(some 59), none, (.mv (.t 58))⟩,
   ⟨(some 60), (some (59, true)), (.fieldAddr 8 1 (.t 2))⟩,
   ⟨(some 61), (some (59, true)), (.load1 (.t 60))⟩,
   ⟨(some 62), (some (59, true)), (.fieldAddr 8 1 (.t 3))⟩,
   ⟨(some 63), (some (59, true)), (.load1 (.t 62))⟩,
   ⟨(some 64), (some (59, true)), (.call 32 [(.t 61), (.t 63)])⟩,
   ⟨(some 65), none, (.pick (.t 59) (.t 64) (.c (.bool false)))⟩,
   ⟨(some 4), none, (.mv (.t 65))⟩]) .ret))⟩
theorem caf16 : cFunc Try.prog Try.f16 = some af16 := by kernel_rfl
def af17_l0 : AC :=
 (.seq
 (.reg [⟨(some 77), none, (.bin .lss .num (.t 76) (.t 75))⟩])
 (.seq
 (.cond (.t 77) .skip (.exit 0))
 (.seq
 (.block 1
 (.seq
 (.reg [⟨(some 78), none, (.mv (.t 76))⟩,
   ⟨(some 5), none, (.mv (.t 78))⟩])
 (.seq
 (.dreg [⟨(some 79), none, (.fieldAddr 5 1 (.t 2))⟩,
   ⟨(some 80), none, (.load1 (.t 79))⟩,
   ⟨(some 81), none, (.mv (.t 5))⟩,
   ⟨(some 82), none, (.ixSlice 1 (.t 80) (.t 81))⟩,
   ⟨(some 83), none, (.load1 (.t 82))⟩,
   ⟨(some 84), none, (.fieldAddr 5 1 (.t 3))⟩,
   ⟨(some 85), none, (.load1 (.t 84))⟩,
   ⟨(some 86), none, (.mv (.t 5))⟩,
   ⟨(some 87), none, (.ixSlice 1 (.t 85) (.t 86))⟩,
   ⟨(some 88), none, (.load1 (.t 87))⟩,
   ⟨(some 89), none, (.bin .neq .num (.t 83) (.t 88))⟩] [])
 (.cond (.t 89)
 (.seq
 (.reg [⟨(some 4), none, (.mv (.c (.bool false)))⟩]) .ret) .skip))))
 (.reg [⟨(some 90), none, (.bin .add .num (.t 76) (.c (.int .i64 1)))⟩,
   ⟨(some 76), none, (.mv (.t 90))⟩]))))
/-- limelight/limelightref3.Same -/
def af17 : AFunc := ⟨91, [(.tmp 4)],
 (.seq
 (.reg [⟨(some 2), none, (.box (.t 0))⟩,
   ⟨(some 3), none, (.box (.t 1))⟩,
   ⟨(some 4), none, (.mv (.c (.bool false)))⟩])
 (.seq
 (.seq
 (.reg [⟨(some 6), none, (.fieldAddr 0 1 (.t 2))⟩,
   ⟨(some 7), none, (.load1 (.t 6))⟩,
   ⟨(some 8), none, (.fieldAddr 0 1 (.t 3))⟩,
   ⟨(some 9), none, (.load1 (.t 8))⟩,
   ⟨(some 10), none, (.bin .neq .bool (.t 7) (.t 9))⟩,
   ⟨(some 11), none, (.mv (.t 10))⟩,
   ⟨(some 12), (some (11, false)), (.fieldAddr 1 1 (.t 2))⟩,
   ⟨(some 13), (some (11, false)), (.load1 (.t 12))⟩,
   ⟨(some 14), (some (11, false)), (.fieldAddr 1 1 (.t 3))⟩,
   ⟨(some 15), (some (11, false)), (.load1 (.t 14))⟩,
   ⟨(some 16), (some (11, false)), (.bin .neq .num (.t 13) (.t 15))⟩,
   ⟨(some 17), none, (.pick (.t 11) (.c (.bool true)) (.t 16))⟩,
   ⟨(some 18), none, (.mv (.t 17))⟩,
   ⟨(some 19), (some (18, false)), (.fieldAddr 2 1 (.t 2))⟩,
   ⟨(some 20), (some (18, false)), (.load1 (.t 19))⟩,
   ⟨(some 21), (some (18, false)), (.fieldAddr 2 1 (.t 3))⟩,
   ⟨(some 22), (some (18, false)), (.load1 (.t 21))⟩,
   ⟨(some 23), (some (18, false)), (.bin .neq .num (.t 20) (.t 22))⟩,
   ⟨(some 24), none, (.pick (.t 18) (.c (.bool true)) (.t 23))⟩,
   ⟨(some 25), none, (.mv (.t 24))⟩,
   ⟨(some 26), (some (25, false)), (.fieldAddr 3 1 (.t 2))⟩,
   ⟨(some 27), (some (25, false)), (.load1 (.t 26))⟩,
   ⟨(some 28), (some (25, false)), (.fieldAddr 3 1 (.t 3))⟩,
   ⟨(some 29), (some (25, false)), (.load1 (.t 28))⟩,
   ⟨(some 30), (some (25, false)), (.bin .neq .num (.t 27) (.t 29))⟩,
   ⟨(some 31), none, (.pick (.t 25) (.c (.bool true)) (.t 30))⟩,
   ⟨(some 32), none, (.mv (.t 31))⟩,
   ⟨(some 33), (some (32, false)), (.fieldAddr 4 1 (.t 2))⟩,
   ⟨(some 34), (some (32, false)), (.load1 (.t 33))⟩,
   ⟨(some 35), (some (32, false)), (.fieldAddr 4 1 (.t 3))⟩,
   ⟨(some 36), (some (32, false)), (.load1 (.t 35))⟩,
   ⟨(some 37), (some (32, false)), (.bin .neq .num (.t 34) (.t 36))⟩,
   ⟨(some 38), none, (.pick (.t 32) (.c (.bool true)) (.t 37))⟩,
   ⟨(some 39), none, (.mv (.t 38))⟩,
   ⟨(some 40), (some (39, false)), (.fieldAddr 6 1 (.t 2))⟩,
   ⟨(some 41), (some (39, false)), (.load1 (.t 40))⟩,
   ⟨(some 42), (some (39, false)), (.fieldAddr 6 1 (.t 3))⟩,
   ⟨(some 43), (some (39, false)), (.load1 (.t 42))⟩,
   ⟨(some 44), (some (39, false)), (.bin .neq .num (.t 41) (.t 43))⟩,
   ⟨(some 45), none, (.pick (.t 39) (.c (.bool true)) (.t 44))⟩,
   ⟨(some 46), none, (.mv (.t 45))⟩,
   ⟨(some 47), (some (46, false)), (.fieldAddr 7 1 (.t 2))⟩,
   ⟨(some 48), (some (46, false)), (.load1 (.t 47))⟩,
   ⟨(some 49), (some (46, false)), (.conv .bytesStr (.t 48))⟩,
   ⟨(some 50), (some (46, false)), (.fieldAddr 7 1 (.t 3))⟩,
   ⟨(some 51), (some (46, false)), (.load1 (.t 50))⟩,
   ⟨(some 52), (some (46, false)), (.conv .bytesStr (.t 51))⟩,
   ⟨(some 53), (some (46, false)), (.bin .neq .str (.t 49) (.t 52))⟩,
   ⟨(some 54), none, (.pick (.t 46) (.c (.bool true)) (.t 53))⟩,
   ⟨(some 55), none, (.mv (.t 54))⟩,
   ⟨(some 56), (some (55, false)), (.fieldAddr 8 1 (.t 2))⟩,
   ⟨(some 57), (some (55, false)), (.load1 (.t 56))⟩,
   ⟨(some 58), (some (55, false)), (.conv .bytesStr (.t 57))⟩,
   ⟨(some 59), (some (55, false)), (.fieldAddr 8 1 (.t 3))⟩,
   ⟨(some 60), (some (55, false)), (.load1 (.t 59))⟩,
   ⟨(some 61), (some (55, false)), (.conv .bytesStr (.t 60))⟩,
   ⟨(some 62), (some (55, false)), (.bin .neq .str (.t 58) (.t 61))⟩,
   ⟨(some 63), none, (.pick (.t 55) (.c (.bool true)) (.t 62))⟩,
   ⟨(some 64), none, (.mv (.t 63))⟩,
   ⟨(some 65), (some (64, false)), (.fieldAddr 5 1 (.t 2))⟩,
   ⟨(some 66), (some (64, false)), (.load1 (.t 65))⟩,
   ⟨(some 67), (some (64, false)), (.len (.t 66))⟩,
   ⟨(some 68), (some (64, false)), (.fieldAddr 5 1 (.t 3))⟩,
   ⟨(some 69), (some (64, false)), (.load1 (.t 68))⟩,
   ⟨(some 70), (some (64, false)), (.len (.t 69))⟩,
   ⟨(some 71), (some (64, false)), (.bin .neq .num (.t 67) (.t 70))⟩,
   ⟨(some 72), none, (.pick (.t 64) (.c (.bool true)) (.t 71))⟩])
 (.cond (.t 72)
 (.seq
 (.reg [⟨(some 4), none, (.mv (.c (.bool false)))⟩]) .ret) .skip))
 (.seq
 (.seq
 (.reg [⟨(some 73), none, (.fieldAddr 5 1 (.t 2))⟩,
   ⟨(some 74), none, (.load1 (.t 73))⟩,
   ⟨(some 75), none, (.len (.t 74))⟩,
   ⟨(some 76), none, (.mv (.c (.int .i64 0)))⟩])
 (.block 0
 (.loop af17_l0)))
 (.seq
 (.reg [⟨(some 4), none, (.mv (.c (.bool true)))⟩]) .ret))))⟩
theorem caf17 : cFunc Try.prog Try.f17 = some af17 := by kernel_rfl
def af18_l0 : AC :=
 (.seq
 (.reg [⟨(some 52), none, (.bin .lss .num (.t 51) (.t 50))⟩])
 (.seq
 (.cond (.t 52) .skip (.exit 0))
 (.seq
 (.block 1
 (.seq
 (.reg [⟨(some 53), none, (.ixSlice 1 (.t 49) (.t 51))⟩,
   ⟨(some 54), none, (.load1 (.t 53))⟩,
   ⟨(some 9), none, (.mv (.t 54))⟩])
 (.reg [⟨(some 55), none, (.mv (.t 7))⟩,
   ⟨(some 56), none, (.mv (.t 9))⟩,
   ⟨(some 57), none, (.conv (.int .u64) (.t 56))⟩,
   ⟨(some 58), none, (.call 33 [(.t 55), (.t 57), (.c (.int .i64 4))])⟩,
   ⟨(some 7), none, (.mv (.t 58))⟩])))
 (.reg [⟨(some 59), none, (.bin .add .num (.t 51) (.c (.int .i64 1)))⟩,
   ⟨(some 51), none, (.mv (.t 59))⟩]))))
/-- limelight/rtp.Bytes -/
def af18 : AFunc := ⟨83, [(.tmp 2), (.tmp 3)],
 (.seq
 (.reg [⟨(some 1), none, (.box (.t 0))⟩,
   ⟨(some 2), none, (.mv (.c (.slice none 0 0 none)))⟩,
   ⟨(some 3), none, (.mv (.c (.int .i64 0)))⟩])
 (.seq
 (.seq
 (.reg [⟨(some 10), none, (.loadN 9 (.t 1))⟩,
   ⟨(some 11), none, (.call 27 [(.t 10)])⟩,
   ⟨(some 4), none, (.mv (.t 11))⟩])
 (.seq
 (.reg [⟨(some 12), none, (.mv (.t 4))⟩,
   ⟨(some 13), none, (.bin .neq .num (.t 12) (.c (.int .i64 0)))⟩])
 (.cond (.t 13)
 (.seq
 (.reg [⟨(some 14), none, (.mv (.t 4))⟩,
   ⟨(some 2), none, (.mv (.c (.slice none 0 0 none)))⟩,
   ⟨(some 3), none, (.mv (.t 14))⟩]) .ret) .skip)))
 (.seq
 (.dreg [⟨(some 15), none, (.fieldAddr 5 1 (.t 1))⟩,
   ⟨(some 16), none, (.load1 (.t 15))⟩,
   ⟨(some 17), none, (.len (.t 16))⟩,
   ⟨(some 18), none, (.bin .or .num (.c (.int .i64 128)) (.t 17))⟩,
   ⟨(some 19), none, (.conv (.int .u8) (.t 18))⟩,
   ⟨(some 20), none, (.fieldAddr 1 1 (.t 1))⟩,
   ⟨(some 21), none, (.load1 (.t 20))⟩,
   ⟨(some 22), none, (.conv (.int .u8) (.t 21))⟩,
   ⟨(some 5), none, (.mv (.t 19))⟩,
   ⟨(some 6), none, (.mv (.t 22))⟩] [])
 (.seq
 (.seq
 (.reg [⟨(some 23), none, (.fieldAddr 6 1 (.t 1))⟩,
   ⟨(some 24), none, (.load1 (.t 23))⟩,
   ⟨(some 25), none, (.bin .neq .num (.t 24) (.c (.int .u16 0)))⟩])
 (.cond (.t 25)
 (.reg [⟨(some 26), none, (.mv (.t 5))⟩,
   ⟨(some 27), none, (.bin .or .num (.t 26) (.c (.int .u8 16)))⟩,
   ⟨(some 5), none, (.mv (.t 27))⟩]) .skip))
 (.seq
 (.seq
 (.reg [⟨(some 28), none, (.fieldAddr 0 1 (.t 1))⟩,
   ⟨(some 29), none, (.load1 (.t 28))⟩])
 (.cond (.t 29)
 (.reg [⟨(some 30), none, (.mv (.t 6))⟩,
   ⟨(some 31), none, (.bin .or .num (.t 30) (.c (.int .u8 128)))⟩,
   ⟨(some 6), none, (.mv (.t 31))⟩]) .skip))
 (.seq
 (.reg [⟨(some 32), none, (.mv (.t 5))⟩,
   ⟨(some 33), none, (.mv (.t 6))⟩,
   ⟨(some 34), none, (.buildSlice 1 [(.int .u8 0)] 2 [(0, (1, (.t 32))), (1, (1, (.t 33)))])⟩,
   ⟨(some 35), none, (.fieldAddr 2 1 (.t 1))⟩,
   ⟨(some 36), none, (.load1 (.t 35))⟩,
   ⟨(some 37), none, (.conv (.int .u64) (.t 36))⟩,
   ⟨(some 38), none, (.call 33 [(.t 34), (.t 37), (.c (.int .i64 2))])⟩,
   ⟨(some 7), none, (.mv (.t 38))⟩])
 (.seq
 (.dreg [⟨(some 39), none, (.mv (.t 7))⟩,
   ⟨(some 40), none, (.fieldAddr 3 1 (.t 1))⟩,
   ⟨(some 41), none, (.load1 (.t 40))⟩,
   ⟨(some 42), none, (.conv (.int .u64) (.t 41))⟩,
   ⟨(some 43), none, (.call 33 [(.t 39), (.t 42), (.c (.int .i64 4))])⟩,
   ⟨(some 44), none, (.fieldAddr 4 1 (.t 1))⟩,
   ⟨(some 45), none, (.load1 (.t 44))⟩,
   ⟨(some 46), none, (.conv (.int .u64) (.t 45))⟩,
   ⟨(some 47), none, (.call 33 [(.t 43), (.t 46), (.c (.int .i64 4))])⟩,
   ⟨(some 7), none, (.mv (.t 47))⟩] [(6, 4)])
 (.seq
 (.seq
 (.reg [⟨(some 48), none, (.fieldAddr 5 1 (.t 1))⟩,
   ⟨(some 49), none, (.load1 (.t 48))⟩,
   ⟨(some 50), none, (.len (.t 49))⟩,
   ⟨(some 51), none, (.mv (.c (.int .i64 0)))⟩])
 (.block 0
 (.loop af18_l0)))
 (.seq
 (.seq
 (.reg [⟨(some 60), none, (.fieldAddr 6 1 (.t 1))⟩,
   ⟨(some 61), none, (.load1 (.t 60))⟩,
   ⟨(some 62), none, (.bin .neq .num (.t 61) (.c (.int .u16 0)))⟩])
 (.cond (.t 62)
 (.seq
 (.dreg [⟨(some 63), none, (.mv (.t 7))⟩,
   ⟨(some 64), none, (.fieldAddr 6 1 (.t 1))⟩,
   ⟨(some 65), none, (.load1 (.t 64))⟩,
   ⟨(some 66), none, (.conv (.int .u64) (.t 65))⟩,
   ⟨(some 67), none, (.call 33 [(.t 63), (.t 66), (.c (.int .i64 2))])⟩,
   ⟨(some 68), none, (.fieldAddr 7 1 (.t 1))⟩,
   ⟨(some 69), none, (.load1 (.t 68))⟩,
   ⟨(some 70), none, (.len (.t 69))⟩,
   ⟨(some 71), none, (.bin .quo .num (.t 70) (.c (.int .i64 4)))⟩,
   ⟨(some 72), none, (.conv (.int .u64) (.t 71))⟩,
   ⟨(some 73), none, (.call 33 [(.t 67), (.t 72), (.c (.int .i64 2))])⟩,
   ⟨(some 7), none, (.mv (.t 73))⟩] [(6, 4)])
 (.reg [⟨(some 74), none, (.mv (.t 7))⟩,
   ⟨(some 75), none, (.fieldAddr 7 1 (.t 1))⟩,
   ⟨(some 76), none, (.load1 (.t 75))⟩,
   ⟨(some 77), none, (.append 1 1 (.t 74) (.t 76))⟩,
   ⟨(some 7), none, (.mv (.t 77))⟩])) .skip))
 (.seq
 (.reg [⟨(some 78), none, (.mv (.t 7))⟩,
   ⟨(some 79), none, (.fieldAddr 8 1 (.t 1))⟩,
   ⟨(some 80), none, (.load1 (.t 79))⟩,
   ⟨(some 81), none, (.buildSlice 1 [(.slice none 0 0 none)] 2 [(0, (1, (.t 78))), (1, (1, (.t 80)))])⟩,
   ⟨(some 82), none, (.call 34 [(.t 81)])⟩,
   ⟨(some 2), none, (.mv (.t 82))⟩,
   ⟨(some 3), none, (.mv (.c (.int .i64 0)))⟩]) .ret))))))))))⟩
theorem caf18 : cFunc Try.prog Try.f18 = some af18 := by kernel_rfl
def af19_l0 : AC :=
 (.seq
 (.reg [⟨(some 52), none, (.bin .lss .num (.t 51) (.t 50))⟩])
 (.seq
 (.cond (.t 52) .skip (.exit 1))
 (.seq
 (.block 2
 (.dreg [⟨(some 53), none, (.fieldAddr 5 1 (.t 7))⟩,
   ⟨(some 54), none, (.load1 (.t 53))⟩,
   ⟨(some 55), none, (.mv (.t 4))⟩,
   ⟨(some 56), none, (.call 35 [(.t 55), (.c (.int .i64 4))])⟩,
   ⟨(some 57), none, (.conv (.int .u32) (.t 56))⟩,
   ⟨(some 58), none, (.buildSlice 1 [(.int .u32 0)] 1 [(0, (1, (.t 57)))])⟩,
   ⟨(some 59), none, (.append 1 4 (.t 54) (.t 58))⟩,
   ⟨(some 60), none, (.fieldAddr 5 1 (.t 7))⟩,
   ⟨none, none, (.store 1 (.t 60) (.t 59))⟩] [(1, 4), (1, 6)]))
 (.reg [⟨(some 61), none, (.bin .add .num (.t 51) (.c (.int .u64 1)))⟩,
   ⟨(some 51), none, (.mv (.t 61))⟩]))))
/-- limelight/rtp.Read -/
def af19 : AFunc := ⟨127, [(.cellN 2 9), (.tmp 3)],
 (.seq
 (.reg [⟨(some 2), none, (.alloc [(.bool false), (.int .i64 0), (.int .u16 0), (.int .u32 0), (.int .u32 0), (.slice none 0 0 none), (.int .u16 0), (.slice none 0 0 none), (.slice none 0 0 none)])⟩,
   ⟨(some 3), none, (.mv (.c (.int .i64 0)))⟩])
 (.seq
 (.block 0
 (.seq
 (.reg [⟨(some 11), none, (.mv (.t 0))⟩,
   ⟨(some 12), none, (.len (.t 11))⟩,
   ⟨(some 13), none, (.bin .gtr .num (.t 12) (.c (.int .i64 1500)))⟩,
   ⟨(some 10), none, (.mv (.t 13))⟩])
 (.cond (.t 10)
 (.seq
 (.reg [⟨(some 14), none, (.build [(.bool false), (.int .i64 0), (.int .u16 0), (.int .u32 0), (.int .u32 0), (.slice none 0 0 none), (.int .u16 0), (.slice none 0 0 none), (.slice none 0 0 none)] [])⟩,
   ⟨none, none, (.store 9 (.t 2) (.t 14))⟩,
   ⟨(some 3), none, (.mv (.c (.int .i64 3)))⟩]) .ret)
 (.seq
 (.reg [⟨(some 16), none, (.mv (.t 0))⟩,
   ⟨(some 17), none, (.len (.t 16))⟩,
   ⟨(some 18), none, (.bin .eql .num (.t 17) (.c (.int .i64 0)))⟩,
   ⟨(some 15), none, (.mv (.t 18))⟩])
 (.cond (.t 15)
 (.seq
 (.reg [⟨(some 19), none, (.build [(.bool false), (.int .i64 0), (.int .u16 0), (.int .u32 0), (.int .u32 0), (.slice none 0 0 none), (.int .u16 0), (.slice none 0 0 none), (.slice none 0 0 none)] [])⟩,
   ⟨none, none, (.store 9 (.t 2) (.t 19))⟩,
   ⟨(some 3), none, (.mv (.c (.int .i64 13)))⟩]) .ret)
 (.seq
 (.reg [⟨(some 21), none, (.mv (.t 0))⟩,
   ⟨(some 22), none, (.ixSlice 1 (.t 21) (.c (.int .i64 0)))⟩,
   ⟨(some 23), none, (.load1 (.t 22))⟩,
   ⟨(some 24), none, (.bin .and .num (.t 23) (.c (.int .u8 192)))⟩,
   ⟨(some 25), none, (.bin .neq .num (.t 24) (.c (.int .u8 128)))⟩,
   ⟨(some 20), none, (.mv (.t 25))⟩])
 (.cond (.t 20)
 (.seq
 (.reg [⟨(some 26), none, (.build [(.bool false), (.int .i64 0), (.int .u16 0), (.int .u32 0), (.int .u32 0), (.slice none 0 0 none), (.int .u16 0), (.slice none 0 0 none), (.slice none 0 0 none)] [])⟩,
   ⟨none, none, (.store 9 (.t 2) (.t 26))⟩,
   ⟨(some 3), none, (.mv (.c (.int .i64 12)))⟩]) .ret) .skip)))))))
 (.seq
 (.reg [⟨(some 27), none, (.mv (.t 0))⟩,
   ⟨(some 28), none, (.build [(.slice none 0 0 none), (.int .i64 0), (.bool false)] [(0, (1, (.t 27)))])⟩,
   ⟨(some 29), none, (.box (.t 28))⟩,
   ⟨(some 4), none, (.mv (.t 29))⟩])
 (.seq
 (.reg [⟨(some 30), none, (.mv (.t 4))⟩,
   ⟨(some 31), none, (.call 35 [(.t 30), (.c (.int .i64 1))])⟩,
   ⟨(some 32), none, (.mv (.t 4))⟩,
   ⟨(some 33), none, (.call 35 [(.t 32), (.c (.int .i64 1))])⟩,
   ⟨(some 5), none, (.mv (.t 31))⟩,
   ⟨(some 6), none, (.mv (.t 33))⟩])
 (.seq
 (.reg [⟨(some 34), none, (.mv (.t 6))⟩,
   ⟨(some 35), none, (.bin .geq .num (.t 34) (.c (.int .u64 128)))⟩,
   ⟨(some 36), none, (.mv (.t 6))⟩,
   ⟨(some 37), none, (.bin .rem .num (.t 36) (.c (.int .u64 128)))⟩,
   ⟨(some 38), none, (.conv (.int .i64) (.t 37))⟩,
   ⟨(some 39), none, (.mv (.t 4))⟩,
   ⟨(some 40), none, (.call 35 [(.t 39), (.c (.int .i64 2))])⟩,
   ⟨(some 41), none, (.conv (.int .u16) (.t 40))⟩,
   ⟨(some 42), none, (.mv (.t 4))⟩,
   ⟨(some 43), none, (.call 35 [(.t 42), (.c (.int .i64 4))])⟩,
   ⟨(some 44), none, (.conv (.int .u32) (.t 43))⟩,
   ⟨(some 45), none, (.mv (.t 4))⟩,
   ⟨(some 46), none, (.call 35 [(.t 45), (.c (.int .i64 4))])⟩,
   ⟨(some 47), none, (.conv (.int .u32) (.t 46))⟩,
   ⟨(some 48), none, (.build [(.bool false), (.int .i64 0), (.int .u16 0), (.int .u32 0), (.int .u32 0), (.slice none 0 0 none), (.int .u16 0), (.slice none 0 0 none), (.slice none 0 0 none)] [(0, (1, (.t 35))), (1, (1, (.t 38))), (2, (1, (.t 41))), (3, (1, (.t 44))), (4, (1, (.t 47)))])⟩,
   ⟨(some 7), none, (.alloc [(.bool false), (.int .i64 0), (.int .u16 0), (.int .u32 0), (.int .u32 0), (.slice none 0 0 none), (.int .u16 0), (.slice none 0 0 none), (.slice none 0 0 none)])⟩,
   ⟨none, none, (.store 9 (.t 7) (.t 48))⟩])
 (.seq
 (.seq
 (.reg [⟨(some 49), none, (.mv (.t 5))⟩,
   ⟨(some 50), none, (.bin .and .num (.t 49) (.c (.int .u64 15)))⟩,
   ⟨(some 51), none, (.mv (.c (.int .u64 0)))⟩])
 (.block 1
 (.loop af19_l0)))
 (.seq
 (.seq
 (.reg [⟨(some 62), none, (.mv (.t 5))⟩,
   ⟨(some 63), none, (.bin .and .num (.t 62) (.c (.int .u64 16)))⟩,
   ⟨(some 64), none, (.bin .neq .num (.t 63) (.c (.int .u64 0)))⟩])
 (.cond (.t 64)
 (.seq
 (.reg [⟨(some 65), none, (.mv (.t 4))⟩,
   ⟨(some 66), none, (.call 35 [(.t 65), (.c (.int .i64 2))])⟩,
   ⟨(some 67), none, (.conv (.int .u16) (.t 66))⟩,
   ⟨(some 68), none, (.fieldAddr 6 1 (.t 7))⟩,
   ⟨none, none, (.store 1 (.t 68) (.t 67))⟩])
 (.reg [⟨(some 69), none, (.mv (.t 4))⟩,
   ⟨(some 70), none, (.mv (.t 4))⟩,
   ⟨(some 71), none, (.call 35 [(.t 70), (.c (.int .i64 2))])⟩,
   ⟨(some 72), none, (.conv (.int .i64) (.t 71))⟩,
   ⟨(some 73), none, (.bin .mul .num (.c (.int .i64 4)) (.t 72))⟩,
   ⟨(some 74), none, (.call 36 [(.t 69), (.t 73)])⟩,
   ⟨(some 75), none, (.fieldAddr 7 1 (.t 7))⟩,
   ⟨none, none, (.store 1 (.t 75) (.t 74))⟩])) .skip))
 (.seq
 (.seq
 (.reg [⟨(some 76), none, (.mv (.t 4))⟩,
   ⟨(some 77), none, (.nilCheck (.t 76))⟩,
   ⟨(some 78), none, (.fieldAddr 2 1 (.t 77))⟩,
   ⟨(some 79), none, (.load1 (.t 78))⟩])
 (.cond (.t 79)
 (.seq
 (.reg [⟨(some 80), none, (.build [(.bool false), (.int .i64 0), (.int .u16 0), (.int .u32 0), (.int .u32 0), (.slice none 0 0 none), (.int .u16 0), (.slice none 0 0 none), (.slice none 0 0 none)] [])⟩,
   ⟨none, none, (.store 9 (.t 2) (.t 80))⟩,
   ⟨(some 3), none, (.mv (.c (.int .i64 13)))⟩]) .ret) .skip))
 (.seq
 (.reg [⟨(some 81), none, (.mv (.t 0))⟩,
   ⟨(some 82), none, (.len (.t 81))⟩,
   ⟨(some 8), none, (.mv (.t 82))⟩])
 (.seq
 (.seq
 (.reg [⟨(some 83), none, (.mv (.t 5))⟩,
   ⟨(some 84), none, (.bin .and .num (.t 83) (.c (.int .u64 32)))⟩,
   ⟨(some 85), none, (.bin .neq .num (.t 84) (.c (.int .u64 0)))⟩])
 (.cond (.t 85)
 (.seq
 (.reg [⟨(some 86), none, (.mv (.t 0))⟩,
   ⟨(some 87), none, (.mv (.t 8))⟩,
   ⟨(some 88), none, (.bin .sub .num (.t 87) (.c (.int .i64 1)))⟩,
   ⟨(some 89), none, (.ixSlice 1 (.t 86) (.t 88))⟩,
   ⟨(some 90), none, (.load1 (.t 89))⟩,
   ⟨(some 91), none, (.conv (.int .i64) (.t 90))⟩,
   ⟨(some 9), none, (.mv (.t 91))⟩])
 (.seq
 (.seq
 (.reg [⟨(some 92), none, (.mv (.t 9))⟩,
   ⟨(some 93), none, (.bin .eql .num (.t 92) (.c (.int .i64 0)))⟩,
   ⟨(some 94), none, (.mv (.t 93))⟩,
   ⟨(some 95), (some (94, false)), (.mv (.t 9))⟩,
   ⟨(some 96), (some (94, false)), (.mv (.t 8))⟩,
   ⟨(some 97), (some (94, false)), (.mv (.t 4))⟩,
   ⟨(some 98), (some (94, false)), (.nilCheck (.t 97))⟩,
   ⟨(some 99), (some (94, false)), (.fieldAddr 1 1 (.t 98))⟩,
   ⟨(some 100), (some (94, false)), (.load1 (.t 99))⟩,
   ⟨(some 101), (some (94, false)), (.bin .sub .num (.t 96) (.t 100))⟩,
   ⟨(some 102), (some (94, false)), (.bin .gtr .num (.t 95) (.t 101))⟩,
   ⟨(some 103), none, (.pick (.t 94) (.c (.bool true)) (.t 102))⟩])
 (.cond (.t 103)
 (.seq
 (.reg [⟨(some 104), none, (.build [(.bool false), (.int .i64 0), (.int .u16 0), (.int .u32 0), (.int .u32 0), (.slice none 0 0 none), (.int .u16 0), (.slice none 0 0 none), (.slice none 0 0 none)] [])⟩,
   ⟨none, none, (.store 9 (.t 2) (.t 104))⟩,
   ⟨(some 3), none, (.mv (.c (.int .i64 13)))⟩]) .ret) .skip))
 (.reg [⟨(some 105), none, (.mv (.t 8))⟩,
   ⟨(some 106), none, (.mv (.t 9))⟩,
   ⟨(some 107), none, (.bin .sub .num (.t 105) (.t 106))⟩,
   ⟨(some 8), none, (.mv (.t 107))⟩]))) .skip))
 (.seq
 (.seq
 (.reg [⟨(some 108), none, (.mv (.t 5))⟩,
   ⟨(some 109), none, (.bin .and .num (.t 108) (.c (.int .u64 16)))⟩,
   ⟨(some 110), none, (.bin .neq .num (.t 109) (.c (.int .u64 0)))⟩,
   ⟨(some 111), none, (.mv (.t 110))⟩,
   ⟨(some 112), (some (111, true)), (.fieldAddr 6 1 (.t 7))⟩,
   ⟨(some 113), (some (111, true)), (.load1 (.t 112))⟩,
   ⟨(some 114), (some (111, true)), (.bin .eql .num (.t 113) (.c (.int .u16 0)))⟩,
   ⟨(some 115), none, (.pick (.t 111) (.t 114) (.c (.bool false)))⟩])
 (.cond (.t 115)
 (.seq
 (.reg [⟨(some 116), none, (.build [(.bool false), (.int .i64 0), (.int .u16 0), (.int .u32 0), (.int .u32 0), (.slice none 0 0 none), (.int .u16 0), (.slice none 0 0 none), (.slice none 0 0 none)] [])⟩,
   ⟨none, none, (.store 9 (.t 2) (.t 116))⟩,
   ⟨(some 3), none, (.mv (.c (.int .i64 12)))⟩]) .ret) .skip))
 (.seq
 (.reg [⟨(some 117), none, (.mv (.t 4))⟩,
   ⟨(some 118), none, (.mv (.t 8))⟩,
   ⟨(some 119), none, (.mv (.t 4))⟩,
   ⟨(some 120), none, (.nilCheck (.t 119))⟩,
   ⟨(some 121), none, (.fieldAddr 1 1 (.t 120))⟩,
   ⟨(some 122), none, (.load1 (.t 121))⟩,
   ⟨(some 123), none, (.bin .sub .num (.t 118) (.t 122))⟩,
   ⟨(some 124), none, (.call 36 [(.t 117), (.t 123)])⟩,
   ⟨(some 125), none, (.fieldAddr 8 1 (.t 7))⟩,
   ⟨none, none, (.store 1 (.t 125) (.t 124))⟩])
 (.seq
 (.reg [⟨(some 126), none, (.loadN 9 (.t 7))⟩,
   ⟨none, none, (.store 9 (.t 2) (.t 126))⟩,
   ⟨(some 3), none, (.mv (.c (.int .i64 0)))⟩]) .ret)))))))))))))⟩
theorem caf19 : cFunc Try.prog Try.f19 = some af19 := by kernel_rfl
/-- limelight/rtp.Size -/
def af20 : AFunc := ⟨8, [(.tmp 2)],
 (.seq
 (.reg [⟨(some 1), none, (.box (.t 0))⟩,
   ⟨(some 2), none, (.mv (.c (.int .i64 0)))⟩])
 (.seq
 (.seq
 (.reg [⟨(some 3), none, (.loadN 9 (.t 1))⟩,
   ⟨(some 4), none, (.call 27 [(.t 3)])⟩,
   ⟨(some 5), none, (.bin .neq .num (.t 4) (.c (.int .i64 0)))⟩])
 (.cond (.t 5)
 (.seq
 (.reg [⟨(some 2), none, (.mv (.c (.int .i64 0)))⟩]) .ret) .skip))
 (.seq
 (.reg [⟨(some 6), none, (.loadN 9 (.t 1))⟩,
   ⟨(some 7), none, (.call 37 [(.t 6)])⟩,
   ⟨(some 2), none, (.mv (.t 7))⟩]) .ret)))⟩
theorem caf20 : cFunc Try.prog Try.f20 = some af20 := by kernel_rfl
/-- (*limelight/limelightkeep.Tape).Next -/
def af21 : AFunc := ⟨40, [(.tmp 4)],
 (.seq
 (.reg [⟨(some 4), none, (.mv (.c (.int .i64 0)))⟩])
 (.seq
 (.seq
 (.dreg [⟨(some 5), none, (.mv (.t 0))⟩,
   ⟨(some 6), none, (.nilCheck (.t 5))⟩,
   ⟨(some 7), none, (.fieldAddr 1 1 (.t 6))⟩,
   ⟨(some 8), none, (.load1 (.t 7))⟩,
   ⟨(some 9), none, (.mv (.t 0))⟩,
   ⟨(some 10), none, (.nilCheck (.t 9))⟩,
   ⟨(some 11), none, (.fieldAddr 0 1 (.t 10))⟩,
   ⟨(some 12), none, (.load1 (.t 11))⟩,
   ⟨(some 13), none, (.len (.t 12))⟩,
   ⟨(some 14), none, (.bin .geq .num (.t 8) (.t 13))⟩,
   ⟨(some 15), none, (.mv (.t 14))⟩,
   ⟨(some 16), (some (15, false)), (.mv (.t 1))⟩,
   ⟨(some 17), (some (15, false)), (.bin .lss .num (.t 16) (.c (.int .i64 1)))⟩,
   ⟨(some 18), none, (.pick (.t 15) (.c (.bool true)) (.t 17))⟩] [])
 (.cond (.t 18)
 (.seq
 (.reg [⟨(some 4), none, (.mv (.c (.int .i64 0)))⟩]) .ret) .skip))
 (.seq
 (.reg [⟨(some 19), none, (.mv (.t 0))⟩,
   ⟨(some 20), none, (.nilCheck (.t 19))⟩,
   ⟨(some 21), none, (.fieldAddr 1 1 (.t 20))⟩,
   ⟨(some 22), none, (.load1 (.t 21))⟩,
   ⟨(some 23), none, (.bin .add .num (.t 22) (.c (.int .i64 1)))⟩,
   ⟨(some 24), none, (.nilCheck (.t 19))⟩,
   ⟨(some 25), none, (.fieldAddr 1 1 (.t 24))⟩,
   ⟨none, none, (.store 1 (.t 25) (.t 23))⟩])
 (.seq
 (.dreg [⟨(some 26), none, (.mv (.t 0))⟩,
   ⟨(some 27), none, (.nilCheck (.t 26))⟩,
   ⟨(some 28), none, (.fieldAddr 0 1 (.t 27))⟩,
   ⟨(some 29), none, (.load1 (.t 28))⟩,
   ⟨(some 30), none, (.mv (.t 0))⟩,
   ⟨(some 31), none, (.nilCheck (.t 30))⟩,
   ⟨(some 32), none, (.fieldAddr 1 1 (.t 31))⟩,
   ⟨(some 33), none, (.load1 (.t 32))⟩,
   ⟨(some 34), none, (.bin .sub .num (.t 33) (.c (.int .i64 1)))⟩,
   ⟨(some 35), none, (.ixSlice 1 (.t 29) (.t 34))⟩,
   ⟨(some 36), none, (.load1 (.t 35))⟩,
   ⟨(some 37), none, (.call 15 [(.t 36), (.c (.int .i64 0)), (.c (.int .i64 1073741824))])⟩,
   ⟨(some 38), none, (.mv (.t 1))⟩,
   ⟨(some 39), none, (.bin .rem .num (.t 37) (.t 38))⟩,
   ⟨(some 4), none, (.mv (.t 39))⟩] []) .ret))))⟩
theorem caf21 : cFunc Try.prog Try.f21 = some af21 := by kernel_rfl
/-- (*limelight/limelightkeep.Tape).Word -/
def af22 : AFunc := ⟨15, [(.tmp 2)],
 (.seq
 (.reg [⟨(some 2), none, (.mv (.c (.int .u32 0)))⟩])
 (.seq
 (.reg [⟨(some 3), none, (.mv (.t 0))⟩,
   ⟨(some 4), none, (.call 21 [(.t 3), (.c (.int .i64 1048576))])⟩,
   ⟨(some 5), none, (.conv (.int .u32) (.t 4))⟩,
   ⟨(some 6), none, (.mv (.t 0))⟩,
   ⟨(some 7), none, (.call 21 [(.t 6), (.c (.int .i64 4096))])⟩,
   ⟨(some 8), none, (.bin .add .num (.c (.int .i64 1)) (.t 7))⟩,
   ⟨(some 9), none, (.conv (.int .u32) (.t 8))⟩,
   ⟨(some 10), none, (.bin .mul .num (.t 5) (.t 9))⟩,
   ⟨(some 11), none, (.mv (.t 0))⟩,
   ⟨(some 12), none, (.call 21 [(.t 11), (.c (.int .i64 5))])⟩,
   ⟨(some 13), none, (.conv (.int .u32) (.t 12))⟩,
   ⟨(some 14), none, (.bin .add .num (.t 10) (.t 13))⟩,
   ⟨(some 2), none, (.mv (.t 14))⟩]) .ret))⟩
theorem caf22 : cFunc Try.prog Try.f22 = some af22 := by kernel_rfl
def af23_l0 : AC :=
 (.seq
 (.seq
 (.reg [⟨(some 11), none, (.mv (.t 6))⟩,
   ⟨(some 12), none, (.bin .gtr .num (.t 11) (.c (.int .i64 0)))⟩])
 (.cond (.t 12) .skip (.exit 0)))
 (.seq
 (.block 1
 (.reg [⟨(some 15), none, (.mv (.t 5))⟩,
   ⟨(some 16), none, (.mv (.t 0))⟩,
   ⟨(some 17), none, (.call 21 [(.t 16), (.c (.int .i64 256))])⟩,
   ⟨(some 18), none, (.conv (.int .u8) (.t 17))⟩,
   ⟨(some 19), none, (.buildSlice 1 [(.int .u8 0)] 1 [(0, (1, (.t 18)))])⟩,
   ⟨(some 20), none, (.append 1 1 (.t 15) (.t 19))⟩,
   ⟨(some 5), none, (.mv (.t 20))⟩]))
 (.reg [⟨(some 13), none, (.mv (.t 6))⟩,
   ⟨(some 14), none, (.bin .sub .num (.t 13) (.c (.int .i64 1)))⟩,
   ⟨(some 6), none, (.mv (.t 14))⟩])))
/-- (*limelight/limelightkeep.Tape).Bytes -/
def af23 : AFunc := ⟨22, [(.tmp 4)],
 (.seq
 (.reg [⟨(some 4), none, (.mv (.c (.slice none 0 0 none)))⟩])
 (.seq
 (.reg [⟨(some 5), none, (.mv (.c (.slice none 0 0 none)))⟩])
 (.seq
 (.seq
 (.reg [⟨(some 7), none, (.mv (.t 0))⟩,
   ⟨(some 8), none, (.mv (.t 1))⟩,
   ⟨(some 9), none, (.bin .add .num (.t 8) (.c (.int .i64 1)))⟩,
   ⟨(some 10), none, (.call 21 [(.t 7), (.t 9)])⟩,
   ⟨(some 6), none, (.mv (.t 10))⟩])
 (.block 0
 (.loop af23_l0)))
 (.seq
 (.reg [⟨(some 21), none, (.mv (.t 5))⟩,
   ⟨(some 4), none, (.mv (.t 21))⟩]) .ret))))⟩
theorem caf23 : cFunc Try.prog Try.f23 = some af23 := by kernel_rfl
def af24_l0 : AC :=
 (.seq
 (.reg [⟨(some 22), none, (.bin .lss .num (.t 21) (.t 20))⟩])
 (.seq
 (.cond (.t 22) .skip (.exit 0))
 (.seq
 (.block 1
 (.seq
 (.reg [⟨(some 23), none, (.ixSlice 2 (.t 19) (.t 21))⟩,
   ⟨(some 24), none, (.loadN 2 (.t 23))⟩,
   ⟨(some 8), none, (.alloc [(.int .i64 0), (.slice none 0 0 none)])⟩,
   ⟨none, none, (.store 2 (.t 8) (.t 24))⟩])
 (.seq
 (.reg [⟨(some 25), none, (.fieldAddr 1 1 (.t 8))⟩,
   ⟨(some 26), none, (.load1 (.t 25))⟩,
   ⟨(some 27), none, (.len (.t 26))⟩,
   ⟨(some 9), none, (.mv (.t 27))⟩])
 (.seq
 (.seq
 (.reg [⟨(some 28), none, (.mv (.t 0))⟩,
   ⟨(some 29), none, (.bin .eql .num (.t 28) (.c (.int .u16 48862)))⟩,
   ⟨(some 30), none, (.mv (.t 29))⟩,
   ⟨(some 31), (some (30, true)), (.fieldAddr 0 1 (.t 8))⟩,
   ⟨(some 32), (some (30, true)), (.load1 (.t 31))⟩,
   ⟨(some 33), (some (30, true)), (.bin .lss .num (.t 32) (.c (.int .i64 1)))⟩,
   ⟨(some 34), (some (30, true)), (.mv (.t 33))⟩,
   ⟨(some 35), (some (34, false)), (.fieldAddr 0 1 (.t 8))⟩,
   ⟨(some 36), (some (34, false)), (.load1 (.t 35))⟩,
   ⟨(some 37), (some (34, false)), (.bin .gtr .num (.t 36) (.c (.int .i64 14)))⟩,
   ⟨(some 38), (some (30, true)), (.pick (.t 34) (.c (.bool true)) (.t 37))⟩,
   ⟨(some 39), (some (30, true)), (.mv (.t 38))⟩,
   ⟨(some 40), (some (39, false)), (.mv (.t 9))⟩,
   ⟨(some 41), (some (39, false)), (.bin .lss .num (.t 40) (.c (.int .i64 1)))⟩,
   ⟨(some 42), (some (30, true)), (.pick (.t 39) (.c (.bool true)) (.t 41))⟩,
   ⟨(some 43), (some (30, true)), (.mv (.t 42))⟩,
   ⟨(some 44), (some (43, false)), (.mv (.t 9))⟩,
   ⟨(some 45), (some (43, false)), (.bin .gtr .num (.t 44) (.c (.int .i64 16)))⟩,
   ⟨(some 46), (some (30, true)), (.pick (.t 43) (.c (.bool true)) (.t 45))⟩,
   ⟨(some 47), none, (.pick (.t 30) (.t 46) (.c (.bool false)))⟩,
   ⟨(some 48), none, (.mv (.t 47))⟩,
   ⟨(some 49), (some (48, false)), (.fieldAddr 0 1 (.t 8))⟩,
   ⟨(some 50), (some (48, false)), (.load1 (.t 49))⟩,
   ⟨(some 51), (some (48, false)), (.bin .lss .num (.t 50) (.c (.int .i64 1)))⟩,
   ⟨(some 52), none, (.pick (.t 48) (.c (.bool true)) (.t 51))⟩,
   ⟨(some 53), none, (.mv (.t 52))⟩,
   ⟨(some 54), (some (53, false)), (.fieldAddr 0 1 (.t 8))⟩,
   ⟨(some 55), (some (53, false)), (.load1 (.t 54))⟩,
   ⟨(some 56), (some (53, false)), (.bin .gtr .num (.t 55) (.c (.int .i64 255)))⟩,
   ⟨(some 57), none, (.pick (.t 53) (.c (.bool true)) (.t 56))⟩,
   ⟨(some 58), none, (.mv (.t 57))⟩,
   ⟨(some 59), (some (58, false)), (.mv (.t 9))⟩,
   ⟨(some 60), (some (58, false)), (.bin .gtr .num (.t 59) (.c (.int .i64 255)))⟩,
   ⟨(some 61), none, (.pick (.t 58) (.c (.bool true)) (.t 60))⟩])
 (.cond (.t 61)
 (.seq
 (.reg [⟨(some 4), none, (.mv (.c (.slice none 0 0 none)))⟩,
   ⟨(some 5), none, (.mv (.c (.int .i64 1)))⟩]) .ret) .skip))
 (.seq
 (.seq
 (.reg [⟨(some 62), none, (.mv (.t 0))⟩,
   ⟨(some 63), none, (.bin .eql .num (.t 62) (.c (.int .u16 48862)))⟩])
 (.cond (.t 63)
 (.reg [⟨(some 64), none, (.mv (.t 6))⟩,
   ⟨(some 65), none, (.fieldAddr 0 1 (.t 8))⟩,
   ⟨(some 66), none, (.load1 (.t 65))⟩,
   ⟨(some 67), none, (.bin .mul .num (.c (.int .i64 16)) (.t 66))⟩,
   ⟨(some 68), none, (.mv (.t 9))⟩,
   ⟨(some 69), none, (.bin .add .num (.t 67) (.t 68))⟩,
   ⟨(some 70), none, (.bin .sub .num (.t 69) (.c (.int .i64 1)))⟩,
   ⟨(some 71), none, (.conv (.int .u8) (.t 70))⟩,
   ⟨(some 72), none, (.buildSlice 1 [(.int .u8 0)] 1 [(0, (1, (.t 71)))])⟩,
   ⟨(some 73), none, (.append 1 1 (.t 64) (.t 72))⟩,
   ⟨(some 6), none, (.mv (.t 73))⟩])
 (.reg [⟨(some 74), none, (.mv (.t 6))⟩,
   ⟨(some 75), none, (.fieldAddr 0 1 (.t 8))⟩,
   ⟨(some 76), none, (.load1 (.t 75))⟩,
   ⟨(some 77), none, (.conv (.int .u8) (.t 76))⟩,
   ⟨(some 78), none, (.mv (.t 9))⟩,
   ⟨(some 79), none, (.conv (.int .u8) (.t 78))⟩,
   ⟨(some 80), none, (.buildSlice 1 [(.int .u8 0)] 2 [(0, (1, (.t 77))), (1, (1, (.t 79)))])⟩,
   ⟨(some 81), none, (.append 1 1 (.t 74) (.t 80))⟩,
   ⟨(some 6), none, (.mv (.t 81))⟩])))
 (.reg [⟨(some 82), none, (.mv (.t 6))⟩,
   ⟨(some 83), none, (.fieldAddr 1 1 (.t 8))⟩,
   ⟨(some 84), none, (.load1 (.t 83))⟩,
   ⟨(some 85), none, (.append 1 1 (.t 82) (.t 84))⟩,
   ⟨(some 6), none, (.mv (.t 85))⟩]))))))
 (.reg [⟨(some 86), none, (.bin .add .num (.t 21) (.c (.int .i64 1)))⟩,
   ⟨(some 21), none, (.mv (.t 86))⟩]))))
/-- limelight/limelightref3.Elems -/
def af24 : AFunc := ⟨89, [(.tmp 4), (.tmp 5)],
 (.seq
 (.reg [⟨(some 4), none, (.mv (.c (.slice none 0 0 none)))⟩,
   ⟨(some 5), none, (.mv (.c (.int .i64 0)))⟩])
 (.seq
 (.seq
 (.reg [⟨(some 10), none, (.mv (.t 0))⟩,
   ⟨(some 11), none, (.bin .neq .num (.t 10) (.c (.int .u16 48862)))⟩,
   ⟨(some 12), none, (.mv (.t 11))⟩,
   ⟨(some 13), (some (12, true)), (.mv (.t 0))⟩,
   ⟨(some 14), (some (12, true)), (.bin .neq .num (.t 13) (.c (.int .u16 4096)))⟩,
   ⟨(some 15), none, (.pick (.t 12) (.t 14) (.c (.bool false)))⟩])
 (.cond (.t 15)
 (.seq
 (.reg [⟨(some 4), none, (.mv (.c (.slice none 0 0 none)))⟩,
   ⟨(some 5), none, (.mv (.c (.int .i64 1)))⟩]) .ret) .skip))
 (.seq
 (.seq
 (.reg [⟨(some 16), none, (.mv (.t 1))⟩,
   ⟨(some 17), none, (.len (.t 16))⟩,
   ⟨(some 18), none, (.bin .gtr .num (.t 17) (.c (.int .i64 8)))⟩])
 (.cond (.t 18)
 (.seq
 (.reg [⟨(some 4), none, (.mv (.c (.slice none 0 0 none)))⟩,
   ⟨(some 5), none, (.mv (.c (.int .i64 3)))⟩]) .ret) .skip))
 (.seq
 (.reg [⟨(some 6), none, (.mv (.c (.slice none 0 0 none)))⟩])
 (.seq
 (.seq
 (.reg [⟨(some 19), none, (.mv (.t 1))⟩,
   ⟨(some 20), none, (.len (.t 19))⟩,
   ⟨(some 21), none, (.mv (.c (.int .i64 0)))⟩])
 (.block 0
 (.loop af24_l0)))
 (.seq
 (.reg [⟨(some 87), none, (.mv (.t 6))⟩,
   ⟨(some 88), none, (.call 26 [(.t 87), (.c (.int .i64 4))])⟩,
   ⟨(some 4), none, (.mv (.t 88))⟩,
   ⟨(some 5), none, (.mv (.c (.int .i64 0)))⟩]) .ret))))))⟩
theorem caf24 : cFunc Try.prog Try.f24 = some af24 := by kernel_rfl
def af25_l0 : AC :=
 (.seq
 (.seq
 (.reg [⟨(some 10), none, (.mv (.t 6))⟩,
   ⟨(some 11), none, (.bin .gtr .num (.t 10) (.c (.int .i64 0)))⟩])
 (.cond (.t 11) .skip (.exit 0)))
 (.seq
 (.block 1
 (.seq
 (.reg [⟨(some 14), none, (.mv (.t 0))⟩,
   ⟨(some 15), none, (.call 21 [(.t 14), (.c (.int .i64 14))])⟩,
   ⟨(some 16), none, (.bin .add .num (.c (.int .i64 1)) (.t 15))⟩,
   ⟨(some 17), none, (.mv (.t 0))⟩,
   ⟨(some 18), none, (.call 21 [(.t 17), (.c (.int .i64 256))])⟩,
   ⟨(some 19), none, (.conv (.int .u8) (.t 18))⟩,
   ⟨(some 20), none, (.buildSlice 1 [(.int .u8 0)] 1 [(0, (1, (.t 19)))])⟩,
   ⟨(some 21), none, (.mv (.t 0))⟩,
   ⟨(some 22), none, (.call 23 [(.t 21), (.c (.int .i64 9))])⟩,
   ⟨(some 23), none, (.append 1 1 (.t 20) (.t 22))⟩,
   ⟨(some 24), none, (.build [(.int .i64 0), (.slice none 0 0 none)] [(0, (1, (.t 16))), (1, (1, (.t 23)))])⟩,
   ⟨(some 7), none, (.alloc [(.int .i64 0), (.slice none 0 0 none)])⟩,
   ⟨none, none, (.store 2 (.t 7) (.t 24))⟩])
 (.seq
 (.seq
 (.reg [⟨(some 25), none, (.mv (.t 1))⟩,
   ⟨(some 26), none, (.mv (.t 25))⟩,
   ⟨(some 27), (some (26, true)), (.mv (.t 0))⟩,
   ⟨(some 28), (some (26, true)), (.call 21 [(.t 27), (.c (.int .i64 3))])⟩,
   ⟨(some 29), (some (26, true)), (.bin .eql .num (.t 28) (.c (.int .i64 0)))⟩,
   ⟨(some 30), none, (.pick (.t 26) (.t 29) (.c (.bool false)))⟩])
 (.cond (.t 30)
 (.reg [⟨(some 31), none, (.mv (.t 0))⟩,
   ⟨(some 32), none, (.call 21 [(.t 31), (.c (.int .i64 255))])⟩,
   ⟨(some 33), none, (.bin .add .num (.c (.int .i64 1)) (.t 32))⟩,
   ⟨(some 34), none, (.mv (.t 0))⟩,
   ⟨(some 35), none, (.call 23 [(.t 34), (.c (.int .i64 20))])⟩,
   ⟨(some 36), none, (.build [(.int .i64 0), (.slice none 0 0 none)] [(0, (1, (.t 33))), (1, (1, (.t 35)))])⟩,
   ⟨none, none, (.store 2 (.t 7) (.t 36))⟩]) .skip))
 (.reg [⟨(some 37), none, (.mv (.t 5))⟩,
   ⟨(some 38), none, (.loadN 2 (.t 7))⟩,
   ⟨(some 39), none, (.buildSlice 2 [(.int .i64 0), (.slice none 0 0 none)] 1 [(0, (2, (.t 38)))])⟩,
   ⟨(some 40), none, (.append 2 32 (.t 37) (.t 39))⟩,
   ⟨(some 5), none, (.mv (.t 40))⟩]))))
 (.reg [⟨(some 12), none, (.mv (.t 6))⟩,
   ⟨(some 13), none, (.bin .sub .num (.t 12) (.c (.int .i64 1)))⟩,
   ⟨(some 6), none, (.mv (.t 13))⟩])))
/-- (*limelight/limelightkeep.Tape).Elems -/
def af25 : AFunc := ⟨42, [(.tmp 4)],
 (.seq
 (.reg [⟨(some 4), none, (.mv (.c (.slice none 0 0 none)))⟩])
 (.seq
 (.reg [⟨(some 5), none, (.mv (.c (.slice none 0 0 none)))⟩])
 (.seq
 (.seq
 (.reg [⟨(some 8), none, (.mv (.t 0))⟩,
   ⟨(some 9), none, (.call 21 [(.t 8), (.c (.int .i64 4))])⟩,
   ⟨(some 6), none, (.mv (.t 9))⟩])
 (.block 0
 (.loop af25_l0)))
 (.seq
 (.reg [⟨(some 41), none, (.mv (.t 5))⟩,
   ⟨(some 4), none, (.mv (.t 41))⟩]) .ret))))⟩
theorem caf25 : cFunc Try.prog Try.f25 = some af25 := by kernel_rfl
def af26_l0 : AC :=
 (.seq
 (.seq
 (.reg [⟨(some 9), none, (.mv (.t 1))⟩,
   ⟨(some 10), none, (.bin .geq .num (.t 9) (.c (.int .i64 1)))⟩,
   ⟨(some 11), none, (.mv (.t 10))⟩,
   ⟨(some 12), (some (11, true)), (.mv (.t 1))⟩,
   ⟨(some 13), (some (11, true)), (.bin .leq .num (.t 12) (.c (.int .i64 64)))⟩,
   ⟨(some 14), none, (.pick (.t 11) (.t 13) (.c (.bool false)))⟩,
   ⟨(some 15), none, (.mv (.t 14))⟩,
   ⟨(some 16), (some (15, true)), (.mv (.t 5))⟩,
   ⟨(some 17), (some (15, true)), (.len (.t 16))⟩,
   ⟨(some 18), (some (15, true)), (.mv (.t 1))⟩,
   ⟨(some 19), (some (15, true)), (.bin .rem .num (.t 17) (.t 18))⟩,
   ⟨(some 20), (some (15, true)), (.bin .neq .num (.t 19) (.c (.int .i64 0)))⟩,
   ⟨(some 21), none, (.pick (.t 15) (.t 20) (.c (.bool false)))⟩])
 (.cond (.t 21) .skip (.exit 0)))
 (.block 1
 (.reg [⟨(some 22), none, (.mv (.t 5))⟩,
   ⟨(some 23), none, (.buildSlice 1 [(.int .u8 0)] 1 [(0, (1, (.c (.int .u8 0))))])⟩,
   ⟨(some 24), none, (.append 1 1 (.t 22) (.t 23))⟩,
   ⟨(some 5), none, (.mv (.t 24))⟩])))
/-- limelight/limelightref1.Pad -/
def af26 : AFunc := ⟨26, [(.tmp 4)],
 (.seq
 (.reg [⟨(some 4), none, (.mv (.c (.slice none 0 0 none)))⟩])
 (.seq
 (.reg [⟨(some 6), none, (.buildSlice 1 [(.int .u8 0)] 0 [])⟩,
   ⟨(some 7), none, (.mv (.t 0))⟩,
   ⟨(some 8), none, (.append 1 1 (.t 6) (.t 7))⟩,
   ⟨(some 5), none, (.mv (.t 8))⟩])
 (.seq
 (.block 0
 (.loop af26_l0))
 (.seq
 (.reg [⟨(some 25), none, (.mv (.t 5))⟩,
   ⟨(some 4), none, (.mv (.t 25))⟩]) .ret))))⟩
theorem caf26 : cFunc Try.prog Try.f26 = some af26 := by kernel_rfl
/-- limelight/rtp.Right -/
def af27 : AFunc := ⟨40, [(.tmp 2)],
 (.seq
 (.reg [⟨(some 1), none, (.box (.t 0))⟩,
   ⟨(some 2), none, (.mv (.c (.int .i64 0)))⟩])
 (.seq
 (.block 0
 (.seq
 (.reg [⟨(some 4), none, (.fieldAddr 1 1 (.t 1))⟩,
   ⟨(some 5), none, (.load1 (.t 4))⟩,
   ⟨(some 6), none, (.bin .lss .num (.t 5) (.c (.int .i64 0)))⟩,
   ⟨(some 7), none, (.mv (.t 6))⟩,
   ⟨(some 8), (some (7, false)), (.fieldAddr 1 1 (.t 1))⟩,
   ⟨(some 9), (some (7, false)), (.load1 (.t 8))⟩,
   ⟨(some 10), (some (7, false)), (.bin .gtr .num (.t 9) (.c (.int .i64 127)))⟩,
   ⟨(some 11), none, (.pick (.t 7) (.c (.bool true)) (.t 10))⟩,
   ⟨(some 12), none, (.mv (.t 11))⟩,
   ⟨(some 13), (some (12, false)), (.fieldAddr 5 1 (.t 1))⟩,
   ⟨(some 14), (some (12, false)), (.load1 (.t 13))⟩,
   ⟨(some 15), (some (12, false)), (.len (.t 14))⟩,
   ⟨(some 16), (some (12, false)), (.bin .gtr .num (.t 15) (.c (.int .i64 15)))⟩,
   ⟨(some 17), none, (.pick (.t 12) (.c (.bool true)) (.t 16))⟩,
   ⟨(some 18), none, (.mv (.t 17))⟩,
   ⟨(some 19), (some (18, false)), (.fieldAddr 7 1 (.t 1))⟩,
   ⟨(some 20), (some (18, false)), (.load1 (.t 19))⟩,
   ⟨(some 21), (some (18, false)), (.len (.t 20))⟩,
   ⟨(some 22), (some (18, false)), (.bin .rem .num (.t 21) (.c (.int .i64 4)))⟩,
   ⟨(some 23), (some (18, false)), (.bin .neq .num (.t 22) (.c (.int .i64 0)))⟩,
   ⟨(some 24), none, (.pick (.t 18) (.c (.bool true)) (.t 23))⟩,
   ⟨(some 25), none, (.mv (.t 24))⟩,
   ⟨(some 26), (some (25, false)), (.fieldAddr 6 1 (.t 1))⟩,
   ⟨(some 27), (some (25, false)), (.load1 (.t 26))⟩,
   ⟨(some 28), (some (25, false)), (.bin .eql .num (.t 27) (.c (.int .u16 0)))⟩,
   ⟨(some 29), (some (25, false)), (.mv (.t 28))⟩,
   ⟨(some 30), (some (29, true)), (.fieldAddr 7 1 (.t 1))⟩,
   ⟨(some 31), (some (29, true)), (.load1 (.t 30))⟩,
   ⟨(some 32), (some (29, true)), (.len (.t 31))⟩,
   ⟨(some 33), (some (29, true)), (.bin .gtr .num (.t 32) (.c (.int .i64 0)))⟩,
   ⟨(some 34), (some (25, false)), (.pick (.t 29) (.t 33) (.c (.bool false)))⟩,
   ⟨(some 35), none, (.pick (.t 25) (.c (.bool true)) (.t 34))⟩,
   ⟨(some 3), none, (.mv (.t 35))⟩])
 (.cond (.t 3)
 (.seq
 (.reg [⟨(some 2), none, (.mv (.c (.int .i64 1)))⟩]) .ret)
 (.seq
 (.reg [⟨(some 37), none, (.loadN 9 (.t 1))⟩,
   ⟨(some 38), none, (.call 37 [(.t 37)])⟩,
   ⟨(some 39), none, (.bin .gtr .num (.t 38) (.c (.int .i64 1500)))⟩,
   ⟨(some 36), none, (.mv (.t 39))⟩])
 (.cond (.t 36)
 (.seq
 (.reg [⟨(some 2), none, (.mv (.c (.int .i64 3)))⟩]) .ret) .skip)))))
 (.seq
 (.reg [⟨(some 2), none, (.mv (.c (.int .i64 0)))⟩]) .ret)))⟩
theorem caf27 : cFunc Try.prog Try.f27 = some af27 := by kernel_rfl
/-- limelight/limelightref3.Right -/
def af28 : AFunc := ⟨38, [(.tmp 2)],
 (.seq
 (.reg [⟨(some 1), none, (.box (.t 0))⟩,
   ⟨(some 2), none, (.mv (.c (.int .i64 0)))⟩])
 (.seq
 (.seq
 (.reg [⟨(some 3), none, (.fieldAddr 1 1 (.t 1))⟩,
   ⟨(some 4), none, (.load1 (.t 3))⟩,
   ⟨(some 5), none, (.bin .lss .num (.t 4) (.c (.int .i64 0)))⟩,
   ⟨(some 6), none, (.mv (.t 5))⟩,
   ⟨(some 7), (some (6, false)), (.fieldAddr 1 1 (.t 1))⟩,
   ⟨(some 8), (some (6, false)), (.load1 (.t 7))⟩,
   ⟨(some 9), (some (6, false)), (.bin .gtr .num (.t 8) (.c (.int .i64 127)))⟩,
   ⟨(some 10), none, (.pick (.t 6) (.c (.bool true)) (.t 9))⟩,
   ⟨(some 11), none, (.mv (.t 10))⟩,
   ⟨(some 12), (some (11, false)), (.fieldAddr 5 1 (.t 1))⟩,
   ⟨(some 13), (some (11, false)), (.load1 (.t 12))⟩,
   ⟨(some 14), (some (11, false)), (.len (.t 13))⟩,
   ⟨(some 15), (some (11, false)), (.bin .gtr .num (.t 14) (.c (.int .i64 15)))⟩,
   ⟨(some 16), none, (.pick (.t 11) (.c (.bool true)) (.t 15))⟩,
   ⟨(some 17), none, (.mv (.t 16))⟩,
   ⟨(some 18), (some (17, false)), (.fieldAddr 7 1 (.t 1))⟩,
   ⟨(some 19), (some (17, false)), (.load1 (.t 18))⟩,
   ⟨(some 20), (some (17, false)), (.len (.t 19))⟩,
   ⟨(some 21), (some (17, false)), (.bin .rem .num (.t 20) (.c (.int .i64 4)))⟩,
   ⟨(some 22), (some (17, false)), (.bin .neq .num (.t 21) (.c (.int .i64 0)))⟩,
   ⟨(some 23), none, (.pick (.t 17) (.c (.bool true)) (.t 22))⟩,
   ⟨(some 24), none, (.mv (.t 23))⟩,
   ⟨(some 25), (some (24, false)), (.fieldAddr 6 1 (.t 1))⟩,
   ⟨(some 26), (some (24, false)), (.load1 (.t 25))⟩,
   ⟨(some 27), (some (24, false)), (.bin .eql .num (.t 26) (.c (.int .u16 0)))⟩,
   ⟨(some 28), (some (24, false)), (.mv (.t 27))⟩,
   ⟨(some 29), (some (28, true)), (.fieldAddr 7 1 (.t 1))⟩,
   ⟨(some 30), (some (28, true)), (.load1 (.t 29))⟩,
   ⟨(some 31), (some (28, true)), (.len (.t 30))⟩,
   ⟨(some 32), (some (28, true)), (.bin .gtr .num (.t 31) (.c (.int .i64 0)))⟩,
   ⟨(some 33), (some (24, false)), (.pick (.t 28) (.t 32) (.c (.bool false)))⟩,
   ⟨(some 34), none, (.pick (.t 24) (.c (.bool true)) (.t 33))⟩])
 (.cond (.t 34)
 (.seq
 (.reg [⟨(some 2), none, (.mv (.c (.int .i64 1)))⟩]) .ret) .skip))
 (.seq
 (.seq
 (.reg [⟨(some 35), none, (.loadN 9 (.t 1))⟩,
   ⟨(some 36), none, (.call 38 [(.t 35)])⟩,
   ⟨(some 37), none, (.bin .gtr .num (.t 36) (.c (.int .i64 1500)))⟩])
 (.cond (.t 37)
 (.seq
 (.reg [⟨(some 2), none, (.mv (.c (.int .i64 3)))⟩]) .ret) .skip))
 (.seq
 (.reg [⟨(some 2), none, (.mv (.c (.int .i64 0)))⟩]) .ret))))⟩
theorem caf28 : cFunc Try.prog Try.f28 = some af28 := by kernel_rfl
def af29_l0 : AC :=
 (.seq
 (.seq
 (.reg [⟨(some 21), none, (.mv (.t 8))⟩,
   ⟨(some 22), none, (.bin .geq .num (.t 21) (.c (.int .i64 0)))⟩])
 (.cond (.t 22) .skip (.exit 0)))
 (.seq
 (.block 1
 (.reg [⟨(some 25), none, (.mv (.t 7))⟩,
   ⟨(some 26), none, (.mv (.t 1))⟩,
   ⟨(some 27), none, (.mv (.t 8))⟩,
   ⟨(some 28), none, (.bin .mul .num (.c (.int .i64 8)) (.t 27))⟩,
   ⟨(some 29), none, (.conv (.int .u64) (.t 28))⟩,
   ⟨(some 30), none, (.bin .shr .num (.t 26) (.t 29))⟩,
   ⟨(some 31), none, (.conv (.int .u8) (.t 30))⟩,
   ⟨(some 32), none, (.buildSlice 1 [(.int .u8 0)] 1 [(0, (1, (.t 31)))])⟩,
   ⟨(some 33), none, (.append 1 1 (.t 25) (.t 32))⟩,
   ⟨(some 7), none, (.mv (.t 33))⟩]))
 (.reg [⟨(some 23), none, (.mv (.t 8))⟩,
   ⟨(some 24), none, (.bin .sub .num (.t 23) (.c (.int .i64 1)))⟩,
   ⟨(some 8), none, (.mv (.t 24))⟩])))
/-- limelight/limelightref1.Put -/
def af29 : AFunc := ⟨35, [(.tmp 6)],
 (.seq
 (.reg [⟨(some 6), none, (.mv (.c (.slice none 0 0 none)))⟩])
 (.seq
 (.reg [⟨(some 9), none, (.buildSlice 1 [(.int .u8 0)] 0 [])⟩,
   ⟨(some 10), none, (.mv (.t 0))⟩,
   ⟨(some 11), none, (.append 1 1 (.t 9) (.t 10))⟩,
   ⟨(some 7), none, (.mv (.t 11))⟩])
 (.seq
 (.seq
 (.reg [⟨(some 12), none, (.mv (.t 2))⟩,
   ⟨(some 13), none, (.bin .lss .num (.t 12) (.c (.int .i64 1)))⟩,
   ⟨(some 14), none, (.mv (.t 13))⟩,
   ⟨(some 15), (some (14, false)), (.mv (.t 2))⟩,
   ⟨(some 16), (some (14, false)), (.bin .gtr .num (.t 15) (.c (.int .i64 8)))⟩,
   ⟨(some 17), none, (.pick (.t 14) (.c (.bool true)) (.t 16))⟩])
 (.cond (.t 17)
 (.seq
 (.reg [⟨(some 18), none, (.mv (.t 7))⟩,
   ⟨(some 6), none, (.mv (.t 18))⟩]) .ret) .skip))
 (.seq
 (.seq
 (.reg [⟨(some 19), none, (.mv (.t 2))⟩,
   ⟨(some 20), none, (.bin .sub .num (.t 19) (.c (.int .i64 1)))⟩,
   ⟨(some 8), none, (.mv (.t 20))⟩])
 (.block 0
 (.loop af29_l0)))
 (.seq
 (.reg [⟨(some 34), none, (.mv (.t 7))⟩,
   ⟨(some 6), none, (.mv (.t 34))⟩]) .ret)))))⟩
theorem caf29 : cFunc Try.prog Try.f29 = some af29 := by kernel_rfl
def af30_l0 : AC :=
 (.seq
 (.seq
 (.reg [⟨(some 58), none, (.mv (.t 6))⟩,
   ⟨(some 59), none, (.mv (.t 4))⟩,
   ⟨(some 60), none, (.bin .lss .num (.t 58) (.t 59))⟩])
 (.cond (.t 60) .skip (.exit 0)))
 (.seq
 (.block 1
 (.dreg [⟨(some 63), none, (.fieldAddr 5 1 (.t 5))⟩,
   ⟨(some 64), none, (.load1 (.t 63))⟩,
   ⟨(some 65), none, (.mv (.t 0))⟩,
   ⟨(some 66), none, (.mv (.t 6))⟩,
   ⟨(some 67), none, (.call 39 [(.t 65), (.t 66), (.c (.int .i64 4))])⟩,
   ⟨(some 68), none, (.conv (.int .u32) (.t 67))⟩,
   ⟨(some 69), none, (.buildSlice 1 [(.int .u32 0)] 1 [(0, (1, (.t 68)))])⟩,
   ⟨(some 70), none, (.append 1 4 (.t 64) (.t 69))⟩,
   ⟨(some 71), none, (.fieldAddr 5 1 (.t 5))⟩,
   ⟨none, none, (.store 1 (.t 71) (.t 70))⟩] [(1, 5), (1, 7)]))
 (.reg [⟨(some 61), none, (.mv (.t 6))⟩,
   ⟨(some 62), none, (.bin .add .num (.t 61) (.c (.int .i64 4)))⟩,
   ⟨(some 6), none, (.mv (.t 62))⟩])))
/-- limelight/limelightref3.Read -/
def af30 : AFunc := ⟨150, [(.cellN 2 9), (.tmp 3)],
 (.seq
 (.reg [⟨(some 2), none, (.alloc [(.bool false), (.int .i64 0), (.int .u16 0), (.int .u32 0), (.int .u32 0), (.slice none 0 0 none), (.int .u16 0), (.slice none 0 0 none), (.slice none 0 0 none)])⟩,
   ⟨(some 3), none, (.mv (.c (.int .i64 0)))⟩])
 (.seq
 (.seq
 (.reg [⟨(some 12), none, (.mv (.t 0))⟩,
   ⟨(some 13), none, (.len (.t 12))⟩,
   ⟨(some 14), none, (.bin .gtr .num (.t 13) (.c (.int .i64 1500)))⟩])
 (.cond (.t 14)
 (.seq
 (.reg [⟨(some 15), none, (.build [(.bool false), (.int .i64 0), (.int .u16 0), (.int .u32 0), (.int .u32 0), (.slice none 0 0 none), (.int .u16 0), (.slice none 0 0 none), (.slice none 0 0 none)] [])⟩,
   ⟨none, none, (.store 9 (.t 2) (.t 15))⟩,
   ⟨(some 3), none, (.mv (.c (.int .i64 3)))⟩]) .ret) .skip))
 (.seq
 (.seq
 (.reg [⟨(some 16), none, (.mv (.t 0))⟩,
   ⟨(some 17), none, (.len (.t 16))⟩,
   ⟨(some 18), none, (.bin .eql .num (.t 17) (.c (.int .i64 0)))⟩])
 (.cond (.t 18)
 (.seq
 (.reg [⟨(some 19), none, (.build [(.bool false), (.int .i64 0), (.int .u16 0), (.int .u32 0), (.int .u32 0), (.slice none 0 0 none), (.int .u16 0), (.slice none 0 0 none), (.slice none 0 0 none)] [])⟩,
   ⟨none, none, (.store 9 (.t 2) (.t 19))⟩,
   ⟨(some 3), none, (.mv (.c (.int .i64 13)))⟩]) .ret) .skip))
 (.seq
 (.seq
 (.reg [⟨(some 20), none, (.mv (.t 0))⟩,
   ⟨(some 21), none, (.ixSlice 1 (.t 20) (.c (.int .i64 0)))⟩,
   ⟨(some 22), none, (.load1 (.t 21))⟩,
   ⟨(some 23), none, (.bin .shr .num (.t 22) (.c (.int .u64 6)))⟩,
   ⟨(some 24), none, (.bin .neq .num (.t 23) (.c (.int .u8 2)))⟩])
 (.cond (.t 24)
 (.seq
 (.reg [⟨(some 25), none, (.build [(.bool false), (.int .i64 0), (.int .u16 0), (.int .u32 0), (.int .u32 0), (.slice none 0 0 none), (.int .u16 0), (.slice none 0 0 none), (.slice none 0 0 none)] [])⟩,
   ⟨none, none, (.store 9 (.t 2) (.t 25))⟩,
   ⟨(some 3), none, (.mv (.c (.int .i64 12)))⟩]) .ret) .skip))
 (.seq
 (.reg [⟨(some 26), none, (.mv (.t 0))⟩,
   ⟨(some 27), none, (.ixSlice 1 (.t 26) (.c (.int .i64 0)))⟩,
   ⟨(some 28), none, (.load1 (.t 27))⟩,
   ⟨(some 29), none, (.bin .and .num (.t 28) (.c (.int .u8 15)))⟩,
   ⟨(some 30), none, (.conv (.int .i64) (.t 29))⟩,
   ⟨(some 31), none, (.bin .mul .num (.c (.int .i64 4)) (.t 30))⟩,
   ⟨(some 32), none, (.bin .add .num (.c (.int .i64 12)) (.t 31))⟩,
   ⟨(some 4), none, (.mv (.t 32))⟩])
 (.seq
 (.seq
 (.reg [⟨(some 33), none, (.mv (.t 0))⟩,
   ⟨(some 34), none, (.len (.t 33))⟩,
   ⟨(some 35), none, (.mv (.t 4))⟩,
   ⟨(some 36), none, (.bin .lss .num (.t 34) (.t 35))⟩])
 (.cond (.t 36)
 (.seq
 (.reg [⟨(some 37), none, (.build [(.bool false), (.int .i64 0), (.int .u16 0), (.int .u32 0), (.int .u32 0), (.slice none 0 0 none), (.int .u16 0), (.slice none 0 0 none), (.slice none 0 0 none)] [])⟩,
   ⟨none, none, (.store 9 (.t 2) (.t 37))⟩,
   ⟨(some 3), none, (.mv (.c (.int .i64 13)))⟩]) .ret) .skip))
 (.seq
 (.dreg [⟨(some 38), none, (.mv (.t 0))⟩,
   ⟨(some 39), none, (.ixSlice 1 (.t 38) (.c (.int .i64 1)))⟩,
   ⟨(some 40), none, (.load1 (.t 39))⟩,
   ⟨(some 41), none, (.bin .shr .num (.t 40) (.c (.int .u64 7)))⟩,
   ⟨(some 42), none, (.bin .eql .num (.t 41) (.c (.int .u8 1)))⟩,
   ⟨(some 43), none, (.mv (.t 0))⟩,
   ⟨(some 44), none, (.ixSlice 1 (.t 43) (.c (.int .i64 1)))⟩,
   ⟨(some 45), none, (.load1 (.t 44))⟩,
   ⟨(some 46), none, (.bin .and .num (.t 45) (.c (.int .u8 127)))⟩,
   ⟨(some 47), none, (.conv (.int .i64) (.t 46))⟩,
   ⟨(some 48), none, (.mv (.t 0))⟩,
   ⟨(some 49), none, (.call 39 [(.t 48), (.c (.int .i64 2)), (.c (.int .i64 2))])⟩,
   ⟨(some 50), none, (.conv (.int .u16) (.t 49))⟩,
   ⟨(some 51), none, (.mv (.t 0))⟩,
   ⟨(some 52), none, (.call 39 [(.t 51), (.c (.int .i64 4)), (.c (.int .i64 4))])⟩,
   ⟨(some 53), none, (.conv (.int .u32) (.t 52))⟩,
   ⟨(some 54), none, (.mv (.t 0))⟩,
   ⟨(some 55), none, (.call 39 [(.t 54), (.c (.int .i64 8)), (.c (.int .i64 4))])⟩,
   ⟨(some 56), none, (.conv (.int .u32) (.t 55))⟩,
   ⟨(some 57), none, (.build [(.bool false), (.int .i64 0), (.int .u16 0), (.int .u32 0), (.int .u32 0), (.slice none 0 0 none), (.int .u16 0), (.slice none 0 0 none), (.slice none 0 0 none)] [(0, (1, (.t 42))), (1, (1, (.t 47))), (2, (1, (.t 50))), (3, (1, (.t 53))), (4, (1, (.t 56)))])⟩,
   ⟨(some 5), none, (.alloc [(.bool false), (.int .i64 0), (.int .u16 0), (.int .u32 0), (.int .u32 0), (.slice none 0 0 none), (.int .u16 0), (.slice none 0 0 none), (.slice none 0 0 none)])⟩,
   ⟨none, none, (.store 9 (.t 5) (.t 57))⟩] [(20, 20), (2, 12), (2, 15), (2, 18), (2, 21), (7, 12), (7, 15), (7, 18), (7, 21)])
 (.seq
 (.seq
 (.reg [⟨(some 6), none, (.mv (.c (.int .i64 12)))⟩])
 (.block 0
 (.loop af30_l0)))
 (.seq
 (.seq
 (.reg [⟨(some 72), none, (.mv (.t 0))⟩,
   ⟨(some 73), none, (.ixSlice 1 (.t 72) (.c (.int .i64 0)))⟩,
   ⟨(some 74), none, (.load1 (.t 73))⟩,
   ⟨(some 75), none, (.bin .and .num (.t 74) (.c (.int .u8 16)))⟩,
   ⟨(some 76), none, (.bin .neq .num (.t 75) (.c (.int .u8 0)))⟩])
 (.cond (.t 76)
 (.seq
 (.reg [⟨(some 77), none, (.mv (.t 0))⟩,
   ⟨(some 78), none, (.mv (.t 4))⟩,
   ⟨(some 79), none, (.bin .add .num (.t 78) (.c (.int .i64 2)))⟩,
   ⟨(some 80), none, (.call 39 [(.t 77), (.t 79), (.c (.int .i64 2))])⟩,
   ⟨(some 81), none, (.conv (.int .i64) (.t 80))⟩,
   ⟨(some 82), none, (.bin .mul .num (.c (.int .i64 4)) (.t 81))⟩,
   ⟨(some 7), none, (.mv (.t 82))⟩])
 (.seq
 (.reg [⟨(some 84), none, (.mv (.t 0))⟩,
   ⟨(some 85), none, (.mv (.t 4))⟩,
   ⟨(some 86), none, (.bin .add .num (.t 85) (.c (.int .i64 4)))⟩,
   ⟨(some 87), none, (.mv (.t 7))⟩,
   ⟨(some 88), none, (.call 40 [(.t 84), (.t 86), (.t 87)])⟩,
   ⟨(some 83), none, (.mv (.t 88))⟩,
   ⟨(some 89), none, (.extract 0 (.t 83))⟩,
   ⟨(some 90), none, (.extract 1 (.t 83))⟩,
   ⟨(some 8), none, (.mv (.t 89))⟩,
   ⟨(some 9), none, (.mv (.t 90))⟩])
 (.seq
 (.seq
 (.reg [⟨(some 91), none, (.mv (.t 9))⟩,
   ⟨(some 92), none, (.un .not (.t 91))⟩])
 (.cond (.t 92)
 (.seq
 (.reg [⟨(some 93), none, (.build [(.bool false), (.int .i64 0), (.int .u16 0), (.int .u32 0), (.int .u32 0), (.slice none 0 0 none), (.int .u16 0), (.slice none 0 0 none), (.slice none 0 0 none)] [])⟩,
   ⟨none, none, (.store 9 (.t 2) (.t 93))⟩,
   ⟨(some 3), none, (.mv (.c (.int .i64 13)))⟩]) .ret) .skip))
 (.seq
 (.reg [⟨(some 94), none, (.mv (.t 0))⟩,
   ⟨(some 95), none, (.mv (.t 4))⟩,
   ⟨(some 96), none, (.call 39 [(.t 94), (.t 95), (.c (.int .i64 2))])⟩,
   ⟨(some 97), none, (.conv (.int .u16) (.t 96))⟩,
   ⟨(some 98), none, (.mv (.t 8))⟩,
   ⟨(some 99), none, (.fieldAddr 6 1 (.t 5))⟩,
   ⟨none, none, (.store 1 (.t 99) (.t 97))⟩,
   ⟨(some 100), none, (.fieldAddr 7 1 (.t 5))⟩,
   ⟨none, none, (.store 1 (.t 100) (.t 98))⟩])
 (.reg [⟨(some 101), none, (.mv (.t 4))⟩,
   ⟨(some 102), none, (.bin .add .num (.t 101) (.c (.int .i64 4)))⟩,
   ⟨(some 103), none, (.mv (.t 7))⟩,
   ⟨(some 104), none, (.bin .add .num (.t 102) (.t 103))⟩,
   ⟨(some 4), none, (.mv (.t 104))⟩]))))) .skip))
 (.seq
 (.reg [⟨(some 105), none, (.mv (.t 0))⟩,
   ⟨(some 106), none, (.len (.t 105))⟩,
   ⟨(some 10), none, (.mv (.t 106))⟩])
 (.seq
 (.seq
 (.reg [⟨(some 107), none, (.mv (.t 0))⟩,
   ⟨(some 108), none, (.ixSlice 1 (.t 107) (.c (.int .i64 0)))⟩,
   ⟨(some 109), none, (.load1 (.t 108))⟩,
   ⟨(some 110), none, (.bin .and .num (.t 109) (.c (.int .u8 32)))⟩,
   ⟨(some 111), none, (.bin .neq .num (.t 110) (.c (.int .u8 0)))⟩])
 (.cond (.t 111)
 (.seq
 (.reg [⟨(some 112), none, (.mv (.t 0))⟩,
   ⟨(some 113), none, (.mv (.t 10))⟩,
   ⟨(some 114), none, (.bin .sub .num (.t 113) (.c (.int .i64 1)))⟩,
   ⟨(some 115), none, (.ixSlice 1 (.t 112) (.t 114))⟩,
   ⟨(some 116), none, (.load1 (.t 115))⟩,
   ⟨(some 117), none, (.conv (.int .i64) (.t 116))⟩,
   ⟨(some 11), none, (.mv (.t 117))⟩])
 (.seq
 (.seq
 (.reg [⟨(some 118), none, (.mv (.t 11))⟩,
   ⟨(some 119), none, (.bin .eql .num (.t 118) (.c (.int .i64 0)))⟩,
   ⟨(some 120), none, (.mv (.t 119))⟩,
   ⟨(some 121), (some (120, false)), (.mv (.t 11))⟩,
   ⟨(some 122), (some (120, false)), (.mv (.t 10))⟩,
   ⟨(some 123), (some (120, false)), (.mv (.t 4))⟩,
   ⟨(some 124), (some (120, false)), (.bin .sub .num (.t 122) (.t 123))⟩,
   ⟨(some 125), (some (120, false)), (.bin .gtr .num (.t 121) (.t 124))⟩,
   ⟨(some 126), none, (.pick (.t 120) (.c (.bool true)) (.t 125))⟩])
 (.cond (.t 126)
 (.seq
 (.reg [⟨(some 127), none, (.build [(.bool false), (.int .i64 0), (.int .u16 0), (.int .u32 0), (.int .u32 0), (.slice none 0 0 none), (.int .u16 0), (.slice none 0 0 none), (.slice none 0 0 none)] [])⟩,
   ⟨none, none, (.store 9 (.t 2) (.t 127))⟩,
   ⟨(some 3), none, (.mv (.c (.int .i64 13)))⟩]) .ret) .skip))
 (.reg [⟨(some 128), none, (.mv (.t 10))⟩,
   ⟨(some 129), none, (.mv (.t 11))⟩,
   ⟨(some 130), none, (.bin .sub .num (.t 128) (.t 129))⟩,
   ⟨(some 10), none, (.mv (.t 130))⟩]))) .skip))
 (.seq
 (.seq
 (.reg [⟨(some 131), none, (.mv (.t 0))⟩,
   ⟨(some 132), none, (.ixSlice 1 (.t 131) (.c (.int .i64 0)))⟩,
   ⟨(some 133), none, (.load1 (.t 132))⟩,
   ⟨(some 134), none, (.bin .and .num (.t 133) (.c (.int .u8 16)))⟩,
   ⟨(some 135), none, (.bin .neq .num (.t 134) (.c (.int .u8 0)))⟩,
   ⟨(some 136), none, (.mv (.t 135))⟩,
   ⟨(some 137), (some (136, true)), (.fieldAddr 6 1 (.t 5))⟩,
   ⟨(some 138), (some (136, true)), (.load1 (.t 137))⟩,
   ⟨(some 139), (some (136, true)), (.bin .eql .num (.t 138) (.c (.int .u16 0)))⟩,
   ⟨(some 140), none, (.pick (.t 136) (.t 139) (.c (.bool false)))⟩])
 (.cond (.t 140)
 (.seq
 (.reg [⟨(some 141), none, (.build [(.bool false), (.int .i64 0), (.int .u16 0), (.int .u32 0), (.int .u32 0), (.slice none 0 0 none), (.int .u16 0), (.slice none 0 0 none), (.slice none 0 0 none)] [])⟩,
   ⟨none, none, (.store 9 (.t 2) (.t 141))⟩,
   ⟨(some 3), none, (.mv (.c (.int .i64 12)))⟩]) .ret) .skip))
 (.seq
 (.reg [⟨(some 142), none, (.buildSlice 1 [(.int .u8 0)] 0 [])⟩,
   ⟨(some 143), none, (.mv (.t 0))⟩,
   ⟨(some 144), none, (.mv (.t 4))⟩,
   ⟨(some 145), none, (.mv (.t 10))⟩,
   ⟨(some 146), none, (.cut 1 (.t 143) (some (.t 144)) (some (.t 145)) none)⟩,
   ⟨(some 147), none, (.append 1 1 (.t 142) (.t 146))⟩,
   ⟨(some 148), none, (.fieldAddr 8 1 (.t 5))⟩,
   ⟨none, none, (.store 1 (.t 148) (.t 147))⟩])
 (.seq
 (.reg [⟨(some 149), none, (.loadN 9 (.t 5))⟩,
   ⟨none, none, (.store 9 (.t 2) (.t 149))⟩,
   ⟨(some 3), none, (.mv (.c (.int .i64 0)))⟩]) .ret))))))))))))))⟩
theorem caf30 : cFunc Try.prog Try.f30 = some af30 := by kernel_rfl
def af31_l0 : AC :=
 (.seq
 (.reg [⟨(some 14), none, (.bin .lss .num (.t 13) (.t 12))⟩])
 (.seq
 (.cond (.t 14) .skip (.exit 0))
 (.seq
 (.block 1
 (.seq
 (.reg [⟨(some 15), none, (.mv (.t 13))⟩,
   ⟨(some 5), none, (.mv (.t 15))⟩])
 (.seq
 (.dreg [⟨(some 16), none, (.mv (.t 0))⟩,
   ⟨(some 17), none, (.mv (.t 5))⟩,
   ⟨(some 18), none, (.ixSlice 1 (.t 16) (.t 17))⟩,
   ⟨(some 19), none, (.load1 (.t 18))⟩,
   ⟨(some 20), none, (.mv (.t 1))⟩,
   ⟨(some 21), none, (.mv (.t 5))⟩,
   ⟨(some 22), none, (.ixSlice 1 (.t 20) (.t 21))⟩,
   ⟨(some 23), none, (.load1 (.t 22))⟩,
   ⟨(some 24), none, (.bin .neq .num (.t 19) (.t 23))⟩] [])
 (.cond (.t 24)
 (.seq
 (.reg [⟨(some 4), none, (.mv (.c (.bool false)))⟩]) .ret) .skip))))
 (.reg [⟨(some 25), none, (.bin .add .num (.t 13) (.c (.int .i64 1)))⟩,
   ⟨(some 13), none, (.mv (.t 25))⟩]))))
/-- slices.Equal[[]uint32,uint32] -/
def af31 : AFunc := ⟨26, [(.tmp 4)],
 (.seq
 (.reg [⟨(some 4), none, (.mv (.c (.bool false)))⟩])
 (.seq
 (.seq
 (.reg [⟨(some 6), none, (.mv (.t 0))⟩,
   ⟨(some 7), none, (.len (.t 6))⟩,
   ⟨(some 8), none, (.mv (.t 1))⟩,
   ⟨(some 9), none, (.len (.t 8))⟩,
   ⟨(some 10), none, (.bin .neq .num (.t 7) (.t 9))⟩])
 (.cond (.t 10)
 (.seq
 (.reg [⟨(some 4), none, (.mv (.c (.bool false)))⟩]) .ret) .skip))
 (.seq
 (.seq
 (.reg [⟨(some 11), none, (.mv (.t 0))⟩,
   ⟨(some 12), none, (.len (.t 11))⟩,
   ⟨(some 13), none, (.mv (.c (.int .i64 0)))⟩])
 (.block 0
 (.loop af31_l0)))
 (.seq
 (.reg [⟨(some 4), none, (.mv (.c (.bool true)))⟩]) .ret))))⟩
theorem caf31 : cFunc Try.prog Try.f31 = some af31 := by kernel_rfl
def af32_l0 : AC :=
 (.seq
 (.reg [⟨(some 14), none, (.bin .lss .num (.t 13) (.t 12))⟩])
 (.seq
 (.cond (.t 14) .skip (.exit 0))
 (.seq
 (.block 1
 (.seq
 (.reg [⟨(some 15), none, (.mv (.t 13))⟩,
   ⟨(some 5), none, (.mv (.t 15))⟩])
 (.seq
 (.dreg [⟨(some 16), none, (.mv (.t 0))⟩,
   ⟨(some 17), none, (.mv (.t 5))⟩,
   ⟨(some 18), none, (.ixSlice 1 (.t 16) (.t 17))⟩,
   ⟨(some 19), none, (.load1 (.t 18))⟩,
   ⟨(some 20), none, (.mv (.t 1))⟩,
   ⟨(some 21), none, (.mv (.t 5))⟩,
   ⟨(some 22), none, (.ixSlice 1 (.t 20) (.t 21))⟩,
   ⟨(some 23), none, (.load1 (.t 22))⟩,
   ⟨(some 24), none, (.bin .neq .num (.t 19) (.t 23))⟩] [])
 (.cond (.t 24)
 (.seq
 (.reg [⟨(some 4), none, (.mv (.c (.bool false)))⟩]) .ret) .skip))))
 (.reg [⟨(some 25), none, (.bin .add .num (.t 13) (.c (.int .i64 1)))⟩,
   ⟨(some 13), none, (.mv (.t 25))⟩]))))
/-- slices.Equal[[]byte,byte] -/
def af32 : AFunc := ⟨26, [(.tmp 4)],
 (.seq
 (.reg [⟨(some 4), none, (.mv (.c (.bool false)))⟩])
 (.seq
 (.seq
 (.reg [⟨(some 6), none, (.mv (.t 0))⟩,
   ⟨(some 7), none, (.len (.t 6))⟩,
   ⟨(some 8), none, (.mv (.t 1))⟩,
   ⟨(some 9), none, (.len (.t 8))⟩,
   ⟨(some 10), none, (.bin .neq .num (.t 7) (.t 9))⟩])
 (.cond (.t 10)
 (.seq
 (.reg [⟨(some 4), none, (.mv (.c (.bool false)))⟩]) .ret) .skip))
 (.seq
 (.seq
 (.reg [⟨(some 11), none, (.mv (.t 0))⟩,
   ⟨(some 12), none, (.len (.t 11))⟩,
   ⟨(some 13), none, (.mv (.c (.int .i64 0)))⟩])
 (.block 0
 (.loop af32_l0)))
 (.seq
 (.reg [⟨(some 4), none, (.mv (.c (.bool true)))⟩]) .ret))))⟩
theorem caf32 : cFunc Try.prog Try.f32 = some af32 := by kernel_rfl
def af33_l0 : AC :=
 (.seq
 (.seq
 (.reg [⟨(some 20), none, (.mv (.t 8))⟩,
   ⟨(some 21), none, (.bin .geq .num (.t 20) (.c (.int .i64 0)))⟩])
 (.cond (.t 21) .skip (.exit 0)))
 (.seq
 (.block 1
 (.reg [⟨(some 24), none, (.mv (.t 7))⟩,
   ⟨(some 25), none, (.mv (.t 1))⟩,
   ⟨(some 26), none, (.mv (.t 8))⟩,
   ⟨(some 27), none, (.bin .mul .num (.t 26) (.c (.int .i64 8)))⟩,
   ⟨(some 28), none, (.bin .shr .num (.t 25) (.t 27))⟩,
   ⟨(some 29), none, (.conv (.int .u8) (.t 28))⟩,
   ⟨(some 30), none, (.buildSlice 1 [(.int .u8 0)] 1 [(0, (1, (.t 29)))])⟩,
   ⟨(some 31), none, (.append 1 1 (.t 24) (.t 30))⟩,
   ⟨(some 7), none, (.mv (.t 31))⟩]))
 (.reg [⟨(some 22), none, (.mv (.t 8))⟩,
   ⟨(some 23), none, (.bin .sub .num (.t 22) (.c (.int .i64 1)))⟩,
   ⟨(some 8), none, (.mv (.t 23))⟩])))
/-- limelight/octet.Put -/
def af33 : AFunc := ⟨34, [(.tmp 6)],
 (.seq
 (.reg [⟨(some 6), none, (.mv (.c (.slice none 0 0 none)))⟩])
 (.seq
 (.reg [⟨(some 9), none, (.mv (.t 0))⟩,
   ⟨(some 10), none, (.call 41 [(.t 9)])⟩,
   ⟨(some 7), none, (.mv (.t 10))⟩])
 (.seq
 (.seq
 (.reg [⟨(some 11), none, (.mv (.t 2))⟩,
   ⟨(some 12), none, (.bin .lss .num (.t 11) (.c (.int .i64 1)))⟩,
   ⟨(some 13), none, (.mv (.t 12))⟩,
   ⟨(some 14), (some (13, false)), (.mv (.t 2))⟩,
   ⟨(some 15), (some (13, false)), (.bin .gtr .num (.t 14) (.c (.int .i64 8)))⟩,
   ⟨(some 16), none, (.pick (.t 13) (.c (.bool true)) (.t 15))⟩])
 (.cond (.t 16)
 (.seq
 (.reg [⟨(some 17), none, (.mv (.t 7))⟩,
   ⟨(some 6), none, (.mv (.t 17))⟩]) .ret) .skip))
 (.seq
 (.seq
 (.reg [⟨(some 18), none, (.mv (.t 2))⟩,
   ⟨(some 19), none, (.bin .sub .num (.t 18) (.c (.int .i64 1)))⟩,
   ⟨(some 8), none, (.mv (.t 19))⟩])
 (.block 0
 (.loop af33_l0)))
 (.seq
 (.reg [⟨(some 32), none, (.mv (.t 7))⟩,
   ⟨(some 33), none, (.call 42 [(.t 32)])⟩,
   ⟨(some 6), none, (.mv (.t 33))⟩]) .ret)))))⟩
theorem caf33 : cFunc Try.prog Try.f33 = some af33 := by kernel_rfl
def af34_l0 : AC :=
 (.seq
 (.reg [⟨(some 28), none, (.bin .lss .num (.t 27) (.t 26))⟩])
 (.seq
 (.cond (.t 28) .skip (.exit 2))
 (.seq
 (.block 3
 (.seq
 (.reg [⟨(some 29), none, (.ixSlice 1 (.t 25) (.t 27))⟩,
   ⟨(some 30), none, (.load1 (.t 29))⟩,
   ⟨(some 8), none, (.mv (.t 30))⟩])
 (.reg [⟨(some 31), none, (.mv (.t 6))⟩,
   ⟨(some 32), none, (.mv (.t 8))⟩,
   ⟨(some 33), none, (.append 1 1 (.t 31) (.t 32))⟩,
   ⟨(some 6), none, (.mv (.t 33))⟩])))
 (.reg [⟨(some 34), none, (.bin .add .num (.t 27) (.c (.int .i64 1)))⟩,
   ⟨(some 27), none, (.mv (.t 34))⟩]))))
def af34_l1 : AC :=
 (.seq
 (.reg [⟨(some 12), none, (.bin .lss .num (.t 11) (.t 10))⟩])
 (.seq
 (.cond (.t 12) .skip (.exit 0))
 (.seq
 (.block 1
 (.seq
 (.reg [⟨(some 13), none, (.ixSlice 1 (.t 9) (.t 11))⟩,
   ⟨(some 14), none, (.load1 (.t 13))⟩,
   ⟨(some 5), none, (.mv (.t 14))⟩])
 (.seq
 (.reg [⟨(some 15), none, (.mv (.t 3))⟩,
   ⟨(some 16), none, (.mv (.t 5))⟩,
   ⟨(some 17), none, (.len (.t 16))⟩,
   ⟨(some 18), none, (.bin .add .num (.t 15) (.t 17))⟩,
   ⟨(some 3), none, (.mv (.t 18))⟩])
 (.seq
 (.reg [⟨(some 19), none, (.mv (.t 3))⟩,
   ⟨(some 20), none, (.bin .lss .num (.t 19) (.c (.int .i64 0)))⟩])
 (.cond (.t 20)
 (.reg [⟨(some 21), none, (.mkIface 9 (.c (.str [108, 101, 110, 32, 111, 117, 116, 32, 111, 102, 32, 114, 97, 110, 103, 101])))⟩,
   ⟨none, none, .stop⟩]) .skip)))))
 (.reg [⟨(some 22), none, (.bin .add .num (.t 11) (.c (.int .i64 1)))⟩,
   ⟨(some 11), none, (.mv (.t 22))⟩]))))
/-- slices.Concat[[]byte,byte] -/
def af34 : AFunc := ⟨36, [(.tmp 2)],
 (.seq
 (.reg [⟨(some 2), none, (.mv (.c (.slice none 0 0 none)))⟩])
 (.seq
 (.reg [⟨(some 3), none, (.mv (.c (.int .i64 0)))⟩])
 (.seq
 (.seq
 (.reg [⟨(some 9), none, (.mv (.t 0))⟩,
   ⟨(some 10), none, (.len (.t 9))⟩,
   ⟨(some 11), none, (.mv (.c (.int .i64 0)))⟩])
 (.block 0
 (.loop af34_l1)))
 (.seq
 (.reg [⟨(some 23), none, (.mv (.t 3))⟩,
   ⟨(some 24), none, (.call 43 [(.c (.slice none 0 0 none)), (.t 23)])⟩,
   ⟨(some 6), none, (.mv (.t 24))⟩])
 (.seq
 (.seq
 (.reg [⟨(some 25), none, (.mv (.t 0))⟩,
   ⟨(some 26), none, (.len (.t 25))⟩,
   ⟨(some 27), none, (.mv (.c (.int .i64 0)))⟩])
 (.block 2
 (.loop af34_l0)))
 (.seq
 (.reg [⟨(some 35), none, (.mv (.t 6))⟩,
   ⟨(some 2), none, (.mv (.t 35))⟩]) .ret))))))⟩
theorem caf34 : cFunc Try.prog Try.f34 = some af34 := by kernel_rfl
/-- (*limelight/rtp.reader).num -/
def af35 : AFunc := ⟨40, [(.tmp 4)],
 (.seq
 (.reg [⟨(some 4), none, (.mv (.c (.int .u64 0)))⟩])
 (.seq
 (.dreg [⟨(some 8), none, (.mv (.t 0))⟩,
   ⟨(some 9), none, (.nilCheck (.t 8))⟩,
   ⟨(some 10), none, (.fieldAddr 0 1 (.t 9))⟩,
   ⟨(some 11), none, (.load1 (.t 10))⟩,
   ⟨(some 12), none, (.mv (.t 0))⟩,
   ⟨(some 13), none, (.nilCheck (.t 12))⟩,
   ⟨(some 14), none, (.fieldAddr 1 1 (.t 13))⟩,
   ⟨(some 15), none, (.load1 (.t 14))⟩,
   ⟨(some 16), none, (.mv (.t 1))⟩,
   ⟨(some 17), none, (.call 44 [(.t 11), (.t 15), (.t 16)])⟩,
   ⟨(some 7), none, (.mv (.t 17))⟩,
   ⟨(some 18), none, (.extract 0 (.t 7))⟩,
   ⟨(some 19), none, (.extract 1 (.t 7))⟩,
   ⟨(some 5), none, (.mv (.t 18))⟩,
   ⟨(some 6), none, (.mv (.t 19))⟩] [])
 (.seq
 (.reg [⟨(some 20), none, (.mv (.t 0))⟩,
   ⟨(some 21), none, (.mv (.t 0))⟩,
   ⟨(some 22), none, (.nilCheck (.t 21))⟩,
   ⟨(some 23), none, (.fieldAddr 2 1 (.t 22))⟩,
   ⟨(some 24), none, (.load1 (.t 23))⟩,
   ⟨(some 25), none, (.mv (.t 24))⟩,
   ⟨(some 26), (some (25, false)), (.mv (.t 6))⟩,
   ⟨(some 27), (some (25, false)), (.un .not (.t 26))⟩,
   ⟨(some 28), none, (.pick (.t 25) (.c (.bool true)) (.t 27))⟩,
   ⟨(some 29), none, (.nilCheck (.t 20))⟩,
   ⟨(some 30), none, (.fieldAddr 2 1 (.t 29))⟩,
   ⟨none, none, (.store 1 (.t 30) (.t 28))⟩])
 (.seq
 (.reg [⟨(some 31), none, (.mv (.t 0))⟩,
   ⟨(some 32), none, (.nilCheck (.t 31))⟩,
   ⟨(some 33), none, (.fieldAddr 1 1 (.t 32))⟩,
   ⟨(some 34), none, (.load1 (.t 33))⟩,
   ⟨(some 35), none, (.mv (.t 1))⟩,
   ⟨(some 36), none, (.bin .add .num (.t 34) (.t 35))⟩,
   ⟨(some 37), none, (.nilCheck (.t 31))⟩,
   ⟨(some 38), none, (.fieldAddr 1 1 (.t 37))⟩,
   ⟨none, none, (.store 1 (.t 38) (.t 36))⟩])
 (.seq
 (.reg [⟨(some 39), none, (.mv (.t 5))⟩,
   ⟨(some 4), none, (.mv (.t 39))⟩]) .ret)))))⟩
theorem caf35 : cFunc Try.prog Try.f35 = some af35 := by kernel_rfl
/-- (*limelight/rtp.reader).cut -/
def af36 : AFunc := ⟨40, [(.tmp 4)],
 (.seq
 (.reg [⟨(some 4), none, (.mv (.c (.slice none 0 0 none)))⟩])
 (.seq
 (.dreg [⟨(some 8), none, (.mv (.t 0))⟩,
   ⟨(some 9), none, (.nilCheck (.t 8))⟩,
   ⟨(some 10), none, (.fieldAddr 0 1 (.t 9))⟩,
   ⟨(some 11), none, (.load1 (.t 10))⟩,
   ⟨(some 12), none, (.mv (.t 0))⟩,
   ⟨(some 13), none, (.nilCheck (.t 12))⟩,
   ⟨(some 14), none, (.fieldAddr 1 1 (.t 13))⟩,
   ⟨(some 15), none, (.load1 (.t 14))⟩,
   ⟨(some 16), none, (.mv (.t 1))⟩,
   ⟨(some 17), none, (.call 45 [(.t 11), (.t 15), (.t 16)])⟩,
   ⟨(some 7), none, (.mv (.t 17))⟩,
   ⟨(some 18), none, (.extract 0 (.t 7))⟩,
   ⟨(some 19), none, (.extract 1 (.t 7))⟩,
   ⟨(some 5), none, (.mv (.t 18))⟩,
   ⟨(some 6), none, (.mv (.t 19))⟩] [])
 (.seq
 (.reg [⟨(some 20), none, (.mv (.t 0))⟩,
   ⟨(some 21), none, (.mv (.t 0))⟩,
   ⟨(some 22), none, (.nilCheck (.t 21))⟩,
   ⟨(some 23), none, (.fieldAddr 2 1 (.t 22))⟩,
   ⟨(some 24), none, (.load1 (.t 23))⟩,
   ⟨(some 25), none, (.mv (.t 24))⟩,
   ⟨(some 26), (some (25, false)), (.mv (.t 6))⟩,
   ⟨(some 27), (some (25, false)), (.un .not (.t 26))⟩,
   ⟨(some 28), none, (.pick (.t 25) (.c (.bool true)) (.t 27))⟩,
   ⟨(some 29), none, (.nilCheck (.t 20))⟩,
   ⟨(some 30), none, (.fieldAddr 2 1 (.t 29))⟩,
   ⟨none, none, (.store 1 (.t 30) (.t 28))⟩])
 (.seq
 (.reg [⟨(some 31), none, (.mv (.t 0))⟩,
   ⟨(some 32), none, (.nilCheck (.t 31))⟩,
   ⟨(some 33), none, (.fieldAddr 1 1 (.t 32))⟩,
   ⟨(some 34), none, (.load1 (.t 33))⟩,
   ⟨(some 35), none, (.mv (.t 1))⟩,
   ⟨(some 36), none, (.bin .add .num (.t 34) (.t 35))⟩,
   ⟨(some 37), none, (.nilCheck (.t 31))⟩,
   ⟨(some 38), none, (.fieldAddr 1 1 (.t 37))⟩,
   ⟨none, none, (.store 1 (.t 38) (.t 36))⟩])
 (.seq
 (.reg [⟨(some 39), none, (.mv (.t 5))⟩,
   ⟨(some 4), none, (.mv (.t 39))⟩]) .ret)))))⟩
theorem caf36 : cFunc Try.prog Try.f36 = some af36 := by kernel_rfl
/-- limelight/rtp.size -/
def af37 : AFunc := ⟨23, [(.tmp 2)],
 (.seq
 (.reg [⟨(some 1), none, (.box (.t 0))⟩,
   ⟨(some 2), none, (.mv (.c (.int .i64 0)))⟩])
 (.seq
 (.reg [⟨(some 4), none, (.fieldAddr 5 1 (.t 1))⟩,
   ⟨(some 5), none, (.load1 (.t 4))⟩,
   ⟨(some 6), none, (.len (.t 5))⟩,
   ⟨(some 7), none, (.bin .mul .num (.c (.int .i64 4)) (.t 6))⟩,
   ⟨(some 8), none, (.bin .add .num (.c (.int .i64 12)) (.t 7))⟩,
   ⟨(some 9), none, (.fieldAddr 8 1 (.t 1))⟩,
   ⟨(some 10), none, (.load1 (.t 9))⟩,
   ⟨(some 11), none, (.len (.t 10))⟩,
   ⟨(some 12), none, (.bin .add .num (.t 8) (.t 11))⟩,
   ⟨(some 3), none, (.mv (.t 12))⟩])
 (.seq
 (.seq
 (.reg [⟨(some 13), none, (.fieldAddr 6 1 (.t 1))⟩,
   ⟨(some 14), none, (.load1 (.t 13))⟩,
   ⟨(some 15), none, (.bin .neq .num (.t 14) (.c (.int .u16 0)))⟩])
 (.cond (.t 15)
 (.reg [⟨(some 16), none, (.mv (.t 3))⟩,
   ⟨(some 17), none, (.fieldAddr 7 1 (.t 1))⟩,
   ⟨(some 18), none, (.load1 (.t 17))⟩,
   ⟨(some 19), none, (.len (.t 18))⟩,
   ⟨(some 20), none, (.bin .add .num (.c (.int .i64 4)) (.t 19))⟩,
   ⟨(some 21), none, (.bin .add .num (.t 16) (.t 20))⟩,
   ⟨(some 3), none, (.mv (.t 21))⟩]) .skip))
 (.seq
 (.reg [⟨(some 22), none, (.mv (.t 3))⟩,
   ⟨(some 2), none, (.mv (.t 22))⟩]) .ret))))⟩
theorem caf37 : cFunc Try.prog Try.f37 = some af37 := by kernel_rfl
/-- limelight/limelightref3.size -/
def af38 : AFunc := ⟨23, [(.tmp 2)],
 (.seq
 (.reg [⟨(some 1), none, (.box (.t 0))⟩,
   ⟨(some 2), none, (.mv (.c (.int .i64 0)))⟩])
 (.seq
 (.reg [⟨(some 4), none, (.fieldAddr 5 1 (.t 1))⟩,
   ⟨(some 5), none, (.load1 (.t 4))⟩,
   ⟨(some 6), none, (.len (.t 5))⟩,
   ⟨(some 7), none, (.bin .mul .num (.c (.int .i64 4)) (.t 6))⟩,
   ⟨(some 8), none, (.bin .add .num (.c (.int .i64 12)) (.t 7))⟩,
   ⟨(some 9), none, (.fieldAddr 8 1 (.t 1))⟩,
   ⟨(some 10), none, (.load1 (.t 9))⟩,
   ⟨(some 11), none, (.len (.t 10))⟩,
   ⟨(some 12), none, (.bin .add .num (.t 8) (.t 11))⟩,
   ⟨(some 3), none, (.mv (.t 12))⟩])
 (.seq
 (.seq
 (.reg [⟨(some 13), none, (.fieldAddr 6 1 (.t 1))⟩,
   ⟨(some 14), none, (.load1 (.t 13))⟩,
   ⟨(some 15), none, (.bin .neq .num (.t 14) (.c (.int .u16 0)))⟩])
 (.cond (.t 15)
 (.reg [⟨(some 16), none, (.mv (.t 3))⟩,
   ⟨(some 17), none, (.bin .add .num (.t 16) (.c (.int .i64 4)))⟩,
   ⟨(some 18), none, (.fieldAddr 7 1 (.t 1))⟩,
   ⟨(some 19), none, (.load1 (.t 18))⟩,
   ⟨(some 20), none, (.len (.t 19))⟩,
   ⟨(some 21), none, (.bin .add .num (.t 17) (.t 20))⟩,
   ⟨(some 3), none, (.mv (.t 21))⟩]) .skip))
 (.seq
 (.reg [⟨(some 22), none, (.mv (.t 3))⟩,
   ⟨(some 2), none, (.mv (.t 22))⟩]) .ret))))⟩
theorem caf38 : cFunc Try.prog Try.f38 = some af38 := by kernel_rfl
/-- limelight/limelightref3.num -/
def af39 : AFunc := ⟨17, [(.tmp 6)],
 (.seq
 (.reg [⟨(some 6), none, (.mv (.c (.int .u64 0)))⟩])
 (.seq
 (.reg [⟨(some 10), none, (.mv (.t 0))⟩,
   ⟨(some 11), none, (.mv (.t 1))⟩,
   ⟨(some 12), none, (.mv (.t 2))⟩,
   ⟨(some 13), none, (.call 46 [(.t 10), (.t 11), (.t 12)])⟩,
   ⟨(some 9), none, (.mv (.t 13))⟩,
   ⟨(some 14), none, (.extract 0 (.t 9))⟩,
   ⟨(some 15), none, (.extract 1 (.t 9))⟩,
   ⟨(some 7), none, (.mv (.t 14))⟩,
   ⟨(some 8), none, (.mv (.t 15))⟩])
 (.seq
 (.reg [⟨(some 16), none, (.mv (.t 7))⟩,
   ⟨(some 6), none, (.mv (.t 16))⟩]) .ret)))⟩
theorem caf39 : cFunc Try.prog Try.f39 = some af39 := by kernel_rfl
/-- limelight/limelightref1.Cut -/
def af40 : AFunc := ⟨36, [(.tmp 6), (.tmp 7)],
 (.seq
 (.reg [⟨(some 6), none, (.mv (.c (.slice none 0 0 none)))⟩,
   ⟨(some 7), none, (.mv (.c (.bool false)))⟩])
 (.seq
 (.seq
 (.reg [⟨(some 8), none, (.mv (.t 1))⟩,
   ⟨(some 9), none, (.bin .lss .num (.t 8) (.c (.int .i64 0)))⟩,
   ⟨(some 10), none, (.mv (.t 9))⟩,
   ⟨(some 11), (some (10, false)), (.mv (.t 2))⟩,
   ⟨(some 12), (some (10, false)), (.bin .lss .num (.t 11) (.c (.int .i64 0)))⟩,
   ⟨(some 13), none, (.pick (.t 10) (.c (.bool true)) (.t 12))⟩,
   ⟨(some 14), none, (.mv (.t 13))⟩,
   ⟨(some 15), (some (14, false)), (.mv (.t 1))⟩,
   ⟨(some 16), (some (14, false)), (.mv (.t 0))⟩,
   ⟨(some 17), (some (14, false)), (.len (.t 16))⟩,
   ⟨(some 18), (some (14, false)), (.bin .gtr .num (.t 15) (.t 17))⟩,
   ⟨(some 19), none, (.pick (.t 14) (.c (.bool true)) (.t 18))⟩,
   ⟨(some 20), none, (.mv (.t 19))⟩,
   ⟨(some 21), (some (20, false)), (.mv (.t 2))⟩,
   ⟨(some 22), (some (20, false)), (.mv (.t 0))⟩,
   ⟨(some 23), (some (20, false)), (.len (.t 22))⟩,
   ⟨(some 24), (some (20, false)), (.mv (.t 1))⟩,
   ⟨(some 25), (some (20, false)), (.bin .sub .num (.t 23) (.t 24))⟩,
   ⟨(some 26), (some (20, false)), (.bin .gtr .num (.t 21) (.t 25))⟩,
   ⟨(some 27), none, (.pick (.t 20) (.c (.bool true)) (.t 26))⟩])
 (.cond (.t 27)
 (.seq
 (.reg [⟨(some 6), none, (.mv (.c (.slice none 0 0 none)))⟩,
   ⟨(some 7), none, (.mv (.c (.bool false)))⟩]) .ret) .skip))
 (.seq
 (.reg [⟨(some 28), none, (.buildSlice 1 [(.int .u8 0)] 0 [])⟩,
   ⟨(some 29), none, (.mv (.t 0))⟩,
   ⟨(some 30), none, (.mv (.t 1))⟩,
   ⟨(some 31), none, (.mv (.t 1))⟩,
   ⟨(some 32), none, (.mv (.t 2))⟩,
   ⟨(some 33), none, (.bin .add .num (.t 31) (.t 32))⟩,
   ⟨(some 34), none, (.cut 1 (.t 29) (some (.t 30)) (some (.t 33)) none)⟩,
   ⟨(some 35), none, (.append 1 1 (.t 28) (.t 34))⟩,
   ⟨(some 6), none, (.mv (.t 35))⟩,
   ⟨(some 7), none, (.mv (.c (.bool true)))⟩]) .ret)))⟩
theorem caf40 : cFunc Try.prog Try.f40 = some af40 := by kernel_rfl
/-- slices.Clone[[]byte,byte] -/
def af41 : AFunc := ⟨8, [(.tmp 2)],
 (.seq
 (.reg [⟨(some 2), none, (.mv (.c (.slice none 0 0 none)))⟩])
 (.seq
 (.seq
 (.reg [⟨(some 3), none, (.mv (.t 0))⟩,
   ⟨(some 4), none, (.bin .eql .slc (.t 3) (.c (.slice none 0 0 none)))⟩])
 (.cond (.t 4)
 (.seq
 (.reg [⟨(some 2), none, (.mv (.c (.slice none 0 0 none)))⟩]) .ret) .skip))
 (.seq
 (.reg [⟨(some 5), none, (.buildSlice 1 [(.int .u8 0)] 0 [])⟩,
   ⟨(some 6), none, (.mv (.t 0))⟩,
   ⟨(some 7), none, (.append 1 1 (.t 5) (.t 6))⟩,
   ⟨(some 2), none, (.mv (.t 7))⟩]) .ret)))⟩
theorem caf41 : cFunc Try.prog Try.f41 = some af41 := by kernel_rfl
/-- slices.Clip[[]byte,byte] -/
def af42 : AFunc := ⟨9, [(.tmp 2)],
 (.seq
 (.reg [⟨(some 2), none, (.mv (.c (.slice none 0 0 none)))⟩])
 (.seq
 (.reg [⟨(some 3), none, (.mv (.t 0))⟩,
   ⟨(some 4), none, (.mv (.t 0))⟩,
   ⟨(some 5), none, (.len (.t 4))⟩,
   ⟨(some 6), none, (.mv (.t 0))⟩,
   ⟨(some 7), none, (.len (.t 6))⟩,
   ⟨(some 8), none, (.cut 1 (.t 3) none (some (.t 5)) (some (.t 7)))⟩,
   ⟨(some 2), none, (.mv (.t 8))⟩]) .ret))⟩
theorem caf42 : cFunc Try.prog Try.f42 = some af42 := by kernel_rfl
/-- slices.Grow[[]byte,byte] -/
def af43 : AFunc := ⟨27, [(.tmp 4)],
 (.seq
 (.reg [⟨(some 4), none, (.mv (.c (.slice none 0 0 none)))⟩])
 (.seq
 (.seq
 (.reg [⟨(some 5), none, (.mv (.t 1))⟩,
   ⟨(some 6), none, (.bin .lss .num (.t 5) (.c (.int .i64 0)))⟩])
 (.cond (.t 6)
 (.reg [⟨(some 7), none, (.mkIface 9 (.c (.str [99, 97, 110, 110, 111, 116, 32, 98, 101, 32, 110, 101, 103, 97, 116, 105, 118, 101])))⟩,
   ⟨none, none, .stop⟩]) .skip))
 (.seq
 (.seq
 (.reg [⟨(some 8), none, (.mv (.t 1))⟩,
   ⟨(some 9), none, (.mv (.t 0))⟩,
   ⟨(some 10), none, (.cap (.t 9))⟩,
   ⟨(some 11), none, (.mv (.t 0))⟩,
   ⟨(some 12), none, (.len (.t 11))⟩,
   ⟨(some 13), none, (.bin .sub .num (.t 10) (.t 12))⟩,
   ⟨(some 14), none, (.bin .sub .num (.t 8) (.t 13))⟩,
   ⟨(some 1), none, (.mv (.t 14))⟩])
 (.seq
 (.reg [⟨(some 15), none, (.mv (.t 1))⟩,
   ⟨(some 16), none, (.bin .gtr .num (.t 15) (.c (.int .i64 0)))⟩])
 (.cond (.t 16)
 (.reg [⟨(some 17), none, (.mv (.t 0))⟩,
   ⟨(some 18), none, (.mv (.t 0))⟩,
   ⟨(some 19), none, (.cap (.t 18))⟩,
   ⟨(some 20), none, (.cut 1 (.t 17) none (some (.t 19)) none)⟩,
   ⟨(some 21), none, (.mv (.t 1))⟩,
   ⟨(some 22), none, (.appendZ 1 1 [(.int .u8 0)] (.t 20) (.t 21))⟩,
   ⟨(some 23), none, (.mv (.t 0))⟩,
   ⟨(some 24), none, (.len (.t 23))⟩,
   ⟨(some 25), none, (.cut 1 (.t 22) none (some (.t 24)) none)⟩,
   ⟨(some 0), none, (.mv (.t 25))⟩]) .skip)))
 (.seq
 (.reg [⟨(some 26), none, (.mv (.t 0))⟩,
   ⟨(some 4), none, (.mv (.t 26))⟩]) .ret))))⟩
theorem caf43 : cFunc Try.prog Try.f43 = some af43 := by kernel_rfl
def af44_l0 : AC :=
 (.seq
 (.reg [⟨(some 33), none, (.bin .lss .num (.t 32) (.t 31))⟩])
 (.seq
 (.cond (.t 33) .skip (.exit 0))
 (.seq
 (.block 1
 (.seq
 (.reg [⟨(some 34), none, (.ixSlice 1 (.t 30) (.t 32))⟩,
   ⟨(some 35), none, (.load1 (.t 34))⟩,
   ⟨(some 12), none, (.mv (.t 35))⟩])
 (.reg [⟨(some 36), none, (.mv (.t 10))⟩,
   ⟨(some 37), none, (.bin .shl .num (.t 36) (.c (.int .u64 8)))⟩,
   ⟨(some 38), none, (.mv (.t 12))⟩,
   ⟨(some 39), none, (.conv (.int .u64) (.t 38))⟩,
   ⟨(some 40), none, (.bin .or .num (.t 37) (.t 39))⟩,
   ⟨(some 10), none, (.mv (.t 40))⟩])))
 (.reg [⟨(some 41), none, (.bin .add .num (.t 32) (.c (.int .i64 1)))⟩,
   ⟨(some 32), none, (.mv (.t 41))⟩]))))
/-- limelight/octet.Get -/
def af44 : AFunc := ⟨43, [(.tmp 6), (.tmp 7)],
 (.seq
 (.reg [⟨(some 6), none, (.mv (.c (.int .u64 0)))⟩,
   ⟨(some 7), none, (.mv (.c (.bool false)))⟩])
 (.seq
 (.reg [⟨(some 14), none, (.mv (.t 0))⟩,
   ⟨(some 15), none, (.mv (.t 1))⟩,
   ⟨(some 16), none, (.mv (.t 2))⟩,
   ⟨(some 17), none, (.call 45 [(.t 14), (.t 15), (.t 16)])⟩,
   ⟨(some 13), none, (.mv (.t 17))⟩,
   ⟨(some 18), none, (.extract 0 (.t 13))⟩,
   ⟨(some 19), none, (.extract 1 (.t 13))⟩,
   ⟨(some 8), none, (.mv (.t 18))⟩,
   ⟨(some 9), none, (.mv (.t 19))⟩])
 (.seq
 (.seq
 (.reg [⟨(some 20), none, (.mv (.t 9))⟩,
   ⟨(some 21), none, (.un .not (.t 20))⟩,
   ⟨(some 22), none, (.mv (.t 21))⟩,
   ⟨(some 23), (some (22, false)), (.mv (.t 2))⟩,
   ⟨(some 24), (some (22, false)), (.bin .lss .num (.t 23) (.c (.int .i64 1)))⟩,
   ⟨(some 25), none, (.pick (.t 22) (.c (.bool true)) (.t 24))⟩,
   ⟨(some 26), none, (.mv (.t 25))⟩,
   ⟨(some 27), (some (26, false)), (.mv (.t 2))⟩,
   ⟨(some 28), (some (26, false)), (.bin .gtr .num (.t 27) (.c (.int .i64 8)))⟩,
   ⟨(some 29), none, (.pick (.t 26) (.c (.bool true)) (.t 28))⟩])
 (.cond (.t 29)
 (.seq
 (.reg [⟨(some 6), none, (.mv (.c (.int .u64 0)))⟩,
   ⟨(some 7), none, (.mv (.c (.bool false)))⟩]) .ret) .skip))
 (.seq
 (.reg [⟨(some 10), none, (.mv (.c (.int .u64 0)))⟩])
 (.seq
 (.seq
 (.reg [⟨(some 30), none, (.mv (.t 8))⟩,
   ⟨(some 31), none, (.len (.t 30))⟩,
   ⟨(some 32), none, (.mv (.c (.int .i64 0)))⟩])
 (.block 0
 (.loop af44_l0)))
 (.seq
 (.reg [⟨(some 42), none, (.mv (.t 10))⟩,
   ⟨(some 6), none, (.mv (.t 42))⟩,
   ⟨(some 7), none, (.mv (.c (.bool true)))⟩]) .ret))))))⟩
theorem caf44 : cFunc Try.prog Try.f44 = some af44 := by kernel_rfl
/-- limelight/octet.Cut -/
def af45 : AFunc := ⟨35, [(.tmp 6), (.tmp 7)],
 (.seq
 (.reg [⟨(some 6), none, (.mv (.c (.slice none 0 0 none)))⟩,
   ⟨(some 7), none, (.mv (.c (.bool false)))⟩])
 (.seq
 (.seq
 (.reg [⟨(some 8), none, (.mv (.t 1))⟩,
   ⟨(some 9), none, (.bin .lss .num (.t 8) (.c (.int .i64 0)))⟩,
   ⟨(some 10), none, (.mv (.t 9))⟩,
   ⟨(some 11), (some (10, false)), (.mv (.t 2))⟩,
   ⟨(some 12), (some (10, false)), (.bin .lss .num (.t 11) (.c (.int .i64 0)))⟩,
   ⟨(some 13), none, (.pick (.t 10) (.c (.bool true)) (.t 12))⟩,
   ⟨(some 14), none, (.mv (.t 13))⟩,
   ⟨(some 15), (some (14, false)), (.mv (.t 1))⟩,
   ⟨(some 16), (some (14, false)), (.mv (.t 0))⟩,
   ⟨(some 17), (some (14, false)), (.len (.t 16))⟩,
   ⟨(some 18), (some (14, false)), (.bin .gtr .num (.t 15) (.t 17))⟩,
   ⟨(some 19), none, (.pick (.t 14) (.c (.bool true)) (.t 18))⟩,
   ⟨(some 20), none, (.mv (.t 19))⟩,
   ⟨(some 21), (some (20, false)), (.mv (.t 2))⟩,
   ⟨(some 22), (some (20, false)), (.mv (.t 0))⟩,
   ⟨(some 23), (some (20, false)), (.len (.t 22))⟩,
   ⟨(some 24), (some (20, false)), (.mv (.t 1))⟩,
   ⟨(some 25), (some (20, false)), (.bin .sub .num (.t 23) (.t 24))⟩,
   ⟨(some 26), (some (20, false)), (.bin .gtr .num (.t 21) (.t 25))⟩,
   ⟨(some 27), none, (.pick (.t 20) (.c (.bool true)) (.t 26))⟩])
 (.cond (.t 27)
 (.seq
 (.reg [⟨(some 6), none, (.mv (.c (.slice none 0 0 none)))⟩,
   ⟨(some 7), none, (.mv (.c (.bool false)))⟩]) .ret) .skip))
 (.seq
 (.reg [⟨(some 28), none, (.mv (.t 0))⟩,
   ⟨(some 29), none, (.mv (.t 1))⟩,
   ⟨(some 30), none, (.mv (.t 1))⟩,
   ⟨(some 31), none, (.mv (.t 2))⟩,
   ⟨(some 32), none, (.bin .add .num (.t 30) (.t 31))⟩,
   ⟨(some 33), none, (.cut 1 (.t 28) (some (.t 29)) (some (.t 32)) none)⟩,
   ⟨(some 34), none, (.call 41 [(.t 33)])⟩,
   ⟨(some 6), none, (.mv (.t 34))⟩,
   ⟨(some 7), none, (.mv (.c (.bool true)))⟩]) .ret)))⟩
theorem caf45 : cFunc Try.prog Try.f45 = some af45 := by kernel_rfl
def af46_l0 : AC :=
 (.seq
 (.seq
 (.reg [⟨(some 34), none, (.mv (.t 9))⟩,
   ⟨(some 35), none, (.mv (.t 2))⟩,
   ⟨(some 36), none, (.bin .lss .num (.t 34) (.t 35))⟩])
 (.cond (.t 36) .skip (.exit 0)))
 (.seq
 (.block 1
 (.reg [⟨(some 39), none, (.mv (.t 8))⟩,
   ⟨(some 40), none, (.bin .shl .num (.t 39) (.c (.int .u64 8)))⟩,
   ⟨(some 41), none, (.mv (.t 0))⟩,
   ⟨(some 42), none, (.mv (.t 1))⟩,
   ⟨(some 43), none, (.mv (.t 9))⟩,
   ⟨(some 44), none, (.bin .add .num (.t 42) (.t 43))⟩,
   ⟨(some 45), none, (.ixSlice 1 (.t 41) (.t 44))⟩,
   ⟨(some 46), none, (.load1 (.t 45))⟩,
   ⟨(some 47), none, (.conv (.int .u64) (.t 46))⟩,
   ⟨(some 48), none, (.bin .or .num (.t 40) (.t 47))⟩,
   ⟨(some 8), none, (.mv (.t 48))⟩]))
 (.reg [⟨(some 37), none, (.mv (.t 9))⟩,
   ⟨(some 38), none, (.bin .add .num (.t 37) (.c (.int .i64 1)))⟩,
   ⟨(some 9), none, (.mv (.t 38))⟩])))
/-- limelight/limelightref1.Get -/
def af46 : AFunc := ⟨50, [(.tmp 6), (.tmp 7)],
 (.seq
 (.reg [⟨(some 6), none, (.mv (.c (.int .u64 0)))⟩,
   ⟨(some 7), none, (.mv (.c (.bool false)))⟩])
 (.seq
 (.seq
 (.reg [⟨(some 10), none, (.mv (.t 2))⟩,
   ⟨(some 11), none, (.bin .lss .num (.t 10) (.c (.int .i64 1)))⟩,
   ⟨(some 12), none, (.mv (.t 11))⟩,
   ⟨(some 13), (some (12, false)), (.mv (.t 2))⟩,
   ⟨(some 14), (some (12, false)), (.bin .gtr .num (.t 13) (.c (.int .i64 8)))⟩,
   ⟨(some 15), none, (.pick (.t 12) (.c (.bool true)) (.t 14))⟩,
   ⟨(some 16), none, (.mv (.t 15))⟩,
   ⟨(some 17), (some (16, false)), (.mv (.t 1))⟩,
   ⟨(some 18), (some (16, false)), (.bin .lss .num (.t 17) (.c (.int .i64 0)))⟩,
   ⟨(some 19), none, (.pick (.t 16) (.c (.bool true)) (.t 18))⟩,
   ⟨(some 20), none, (.mv (.t 19))⟩,
   ⟨(some 21), (some (20, false)), (.mv (.t 1))⟩,
   ⟨(some 22), (some (20, false)), (.mv (.t 0))⟩,
   ⟨(some 23), (some (20, false)), (.len (.t 22))⟩,
   ⟨(some 24), (some (20, false)), (.bin .gtr .num (.t 21) (.t 23))⟩,
   ⟨(some 25), none, (.pick (.t 20) (.c (.bool true)) (.t 24))⟩,
   ⟨(some 26), none, (.mv (.t 25))⟩,
   ⟨(some 27), (some (26, false)), (.mv (.t 2))⟩,
   ⟨(some 28), (some (26, false)), (.mv (.t 0))⟩,
   ⟨(some 29), (some (26, false)), (.len (.t 28))⟩,
   ⟨(some 30), (some (26, false)), (.mv (.t 1))⟩,
   ⟨(some 31), (some (26, false)), (.bin .sub .num (.t 29) (.t 30))⟩,
   ⟨(some 32), (some (26, false)), (.bin .gtr .num (.t 27) (.t 31))⟩,
   ⟨(some 33), none, (.pick (.t 26) (.c (.bool true)) (.t 32))⟩])
 (.cond (.t 33)
 (.seq
 (.reg [⟨(some 6), none, (.mv (.c (.int .u64 0)))⟩,
   ⟨(some 7), none, (.mv (.c (.bool false)))⟩]) .ret) .skip))
 (.seq
 (.reg [⟨(some 8), none, (.mv (.c (.int .u64 0)))⟩])
 (.seq
 (.seq
 (.reg [⟨(some 9), none, (.mv (.c (.int .i64 0)))⟩])
 (.block 0
 (.loop af46_l0)))
 (.seq
 (.reg [⟨(some 49), none, (.mv (.t 8))⟩,
   ⟨(some 6), none, (.mv (.t 49))⟩,
   ⟨(some 7), none, (.mv (.c (.bool true)))⟩]) .ret)))))⟩
theorem caf46 : cFunc Try.prog Try.f46 = some af46 := by kernel_rfl
def AP : Nat → Option AFunc
  | 3 => some af3
  | 4 => some af4
  | 5 => some af5
  | 6 => some af6
  | 7 => some af7
  | 8 => some af8
  | 9 => some af9
  | 10 => some af10
  | 11 => some af11
  | 12 => some af12
  | 13 => some af13
  | 14 => some af14
  | 15 => some af15
  | 16 => some af16
  | 17 => some af17
  | 18 => some af18
  | 19 => some af19
  | 20 => some af20
  | 21 => some af21
  | 22 => some af22
  | 23 => some af23
  | 24 => some af24
  | 25 => some af25
  | 26 => some af26
  | 27 => some af27
  | 28 => some af28
  | 29 => some af29
  | 30 => some af30
  | 31 => some af31
  | 32 => some af32
  | 33 => some af33
  | 34 => some af34
  | 35 => some af35
  | 36 => some af36
  | 37 => some af37
  | 38 => some af38
  | 39 => some af39
  | 40 => some af40
  | 41 => some af41
  | 42 => some af42
  | 43 => some af43
  | 44 => some af44
  | 45 => some af45
  | 46 => some af46
  | _ => none
theorem apOk : APOk Try.prog AP := by
  intro f af h
  unfold AP at h
  split at h
  · cases h; exact ⟨_, Try.func3, caf3⟩
  · cases h; exact ⟨_, Try.func4, caf4⟩
  · cases h; exact ⟨_, Try.func5, caf5⟩
  · cases h; exact ⟨_, Try.func6, caf6⟩
  · cases h; exact ⟨_, Try.func7, caf7⟩
  · cases h; exact ⟨_, Try.func8, caf8⟩
  · cases h; exact ⟨_, Try.func9, caf9⟩
  · cases h; exact ⟨_, Try.func10, caf10⟩
  · cases h; exact ⟨_, Try.func11, caf11⟩
  · cases h; exact ⟨_, Try.func12, caf12⟩
  · cases h; exact ⟨_, Try.func13, caf13⟩
  · cases h; exact ⟨_, Try.func14, caf14⟩
  · cases h; exact ⟨_, Try.func15, caf15⟩
  · cases h; exact ⟨_, Try.func16, caf16⟩
  · cases h; exact ⟨_, Try.func17, caf17⟩
  · cases h; exact ⟨_, Try.func18, caf18⟩
  · cases h; exact ⟨_, Try.func19, caf19⟩
  · cases h; exact ⟨_, Try.func20, caf20⟩
  · cases h; exact ⟨_, Try.func21, caf21⟩
  · cases h; exact ⟨_, Try.func22, caf22⟩
  · cases h; exact ⟨_, Try.func23, caf23⟩
  · cases h; exact ⟨_, Try.func24, caf24⟩
  · cases h; exact ⟨_, Try.func25, caf25⟩
  · cases h; exact ⟨_, Try.func26, caf26⟩
  · cases h; exact ⟨_, Try.func27, caf27⟩
  · cases h; exact ⟨_, Try.func28, caf28⟩
  · cases h; exact ⟨_, Try.func29, caf29⟩
  · cases h; exact ⟨_, Try.func30, caf30⟩
  · cases h; exact ⟨_, Try.func31, caf31⟩
  · cases h; exact ⟨_, Try.func32, caf32⟩
  · cases h; exact ⟨_, Try.func33, caf33⟩
  · cases h; exact ⟨_, Try.func34, caf34⟩
  · cases h; exact ⟨_, Try.func35, caf35⟩
  · cases h; exact ⟨_, Try.func36, caf36⟩
  · cases h; exact ⟨_, Try.func37, caf37⟩
  · cases h; exact ⟨_, Try.func38, caf38⟩
  · cases h; exact ⟨_, Try.func39, caf39⟩
  · cases h; exact ⟨_, Try.func40, caf40⟩
  · cases h; exact ⟨_, Try.func41, caf41⟩
  · cases h; exact ⟨_, Try.func42, caf42⟩
  · cases h; exact ⟨_, Try.func43, caf43⟩
  · cases h; exact ⟨_, Try.func44, caf44⟩
  · cases h; exact ⟨_, Try.func45, caf45⟩
  · cases h; exact ⟨_, Try.func46, caf46⟩
  · cases h
theorem mixed : Try.prog.follows .mixedOrders = true := by kernel_rfl
end Go.Proofs.YthejkmfmcjpfhaaA
