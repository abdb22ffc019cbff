/- The loaded functions of this seat, their types resolved: printed by a program of this claim; each is held against the loaded one. -/
import Derived.Test.YtbfkhnpginlpdaaAeZ
import Derived.Test.YtbfkhnpginlpdaaProg
set_option maxRecDepth 100000
namespace Go.Proofs.YtbfkhnpginlpdaaA
open Go.RowKit
def af3_l0 : AC :=
 (.seq
 (.reg [⟨(some 26), none, (.bin .lss .num (.t 25) (.t 24))⟩])
 (.seq
 (.cond (.t 26) .skip (.exit 2))
 (.seq
 (.block 3
 (.seq
 (.reg [⟨(some 27), none, (.ixSlice 1 (.t 23) (.t 25))⟩,
   ⟨(some 28), none, (.load1 (.t 27))⟩,
   ⟨(some 4), none, (.mv (.t 28))⟩])
 (.seq
 (.reg [⟨(some 29), none, (.mv (.t 4))⟩,
   ⟨(some 30), none, (.mv (.t 4))⟩,
   ⟨(some 31), none, (.conv (.int .i32) (.t 30))⟩,
   ⟨(some 32), none, (.mv (.t 4))⟩,
   ⟨(some 33), none, (.conv (.int .u32) (.t 32))⟩,
   ⟨(some 34), none, (.mv (.t 2))⟩,
   ⟨(some 35), none, (.mv (.t 4))⟩,
   ⟨(some 36), none, (.bin .gtr .num (.t 35) (.c (.int .i64 0)))⟩,
   ⟨(some 37), none, (.call 6 [(.t 29), (.t 31), (.t 33), (.t 34), (.t 36)])⟩,
   ⟨(some 38), none, (.un .not (.t 37))⟩,
   ⟨(some 39), none, (.mv (.t 38))⟩,
   ⟨(some 40), (some (39, false)), (.mv (.t 2))⟩,
   ⟨(some 41), (some (39, false)), (.mv (.t 4))⟩,
   ⟨(some 42), (some (39, false)), (.mv (.t 2))⟩,
   ⟨(some 43), (some (39, false)), (.mv (.t 4))⟩,
   ⟨(some 44), (some (39, false)), (.build [(.str []), (.int .u32 0), (.int .i64 0)] [(0, (1, (.t 42))), (1, (1, (.c (.int .u32 5)))), (2, (1, (.t 43)))])⟩,
   ⟨(some 45), (some (39, false)), (.call 7 [(.t 40), (.t 41), (.c (.int .i64 720)), (.t 44), (.c (.slice none 0 0 none))])⟩,
   ⟨(some 46), (some (39, false)), (.un .not (.t 45))⟩,
   ⟨(some 47), none, (.pick (.t 39) (.c (.bool true)) (.t 46))⟩,
   ⟨(some 48), none, (.mv (.t 47))⟩,
   ⟨(some 49), (some (48, false)), (.mv (.t 2))⟩,
   ⟨(some 50), (some (48, false)), (.mv (.t 4))⟩,
   ⟨(some 51), (some (48, false)), (.mv (.t 4))⟩,
   ⟨(some 52), (some (48, false)), (.conv (.int .u32) (.t 51))⟩,
   ⟨(some 53), (some (48, false)), (.build [(.str []), (.int .u32 0), (.int .i64 0)] [(0, (1, (.c (.str [98])))), (1, (1, (.t 52))), (2, (1, (.c (.int .i64 9))))])⟩,
   ⟨(some 54), (some (48, false)), (.mv (.t 2))⟩,
   ⟨(some 55), (some (48, false)), (.build [(.str []), (.int .u32 0), (.int .i64 0)] [(0, (1, (.t 54))), (2, (1, (.c (.int .i64 4))))])⟩,
   ⟨(some 56), (some (48, false)), (.buildSlice 3 [(.str []), (.int .u32 0), (.int .i64 0)] 1 [(0, (3, (.t 55)))])⟩,
   ⟨(some 57), (some (48, false)), (.call 7 [(.t 49), (.c (.int .i64 3)), (.t 50), (.t 53), (.t 56)])⟩,
   ⟨(some 58), (some (48, false)), (.un .not (.t 57))⟩,
   ⟨(some 59), none, (.pick (.t 48) (.c (.bool true)) (.t 58))⟩])
 (.cond (.t 59)
 (.seq
 (.reg [⟨(some 0), none, (.mv (.c (.bool false)))⟩]) .ret) .skip))))
 (.reg [⟨(some 60), none, (.bin .add .num (.t 25) (.c (.int .i64 1)))⟩,
   ⟨(some 25), none, (.mv (.t 60))⟩]))))
def af3_l1 : AC :=
 (.seq
 (.reg [⟨(some 20), none, (.bin .lss .num (.t 19) (.t 18))⟩])
 (.seq
 (.cond (.t 20) .skip (.exit 0))
 (.seq
 (.block 1
 (.seq
 (.reg [⟨(some 21), none, (.ixSlice 1 (.t 17) (.t 19))⟩,
   ⟨(some 22), none, (.load1 (.t 21))⟩,
   ⟨(some 2), none, (.mv (.t 22))⟩])
 (.seq
 (.reg [⟨(some 23), none, (.buildSlice 1 [(.int .i64 0)] 9 [(0, (1, (.c (.int .i64 0)))), (1, (1, (.c (.int .i64 1)))), (2, (1, (.c (.int .i64 (-1))))), (3, (1, (.c (.int .i64 8192)))), (4, (1, (.c (.int .i64 8193)))), (5, (1, (.c (.int .i64 4294967295)))), (6, (1, (.c (.int .i64 4294967296)))), (7, (1, (.c (.int .i64 9223372036854775807)))), (8, (1, (.c (.int .i64 (-9223372036854775808)))))])⟩,
   ⟨(some 24), none, (.len (.t 23))⟩,
   ⟨(some 25), none, (.mv (.c (.int .i64 0)))⟩])
 (.block 2
 (.loop af3_l0)))))
 (.reg [⟨(some 61), none, (.bin .add .num (.t 19) (.c (.int .i64 1)))⟩,
   ⟨(some 19), none, (.mv (.t 61))⟩]))))
/-- limelight/limelightlaw7.ValueNumbers -/
def af3 : AFunc := ⟨140, [(.tmp 0)],
 (.seq
 (.reg [⟨(some 0), none, (.mv (.c (.bool false)))⟩])
 (.seq
 (.seq
 (.reg [⟨(some 17), none, (.buildSlice 1 [(.str [])] 5 [(0, (1, (.c (.str [])))), (1, (1, (.c (.str [97])))), (2, (1, (.c (.str [228, 184, 150, 255])))), (3, (1, (.c (.str [108, 111])))), (4, (1, (.c (.str [49, 50, 51, 52, 53, 54, 55, 56, 57]))))])⟩,
   ⟨(some 18), none, (.len (.t 17))⟩,
   ⟨(some 19), none, (.mv (.c (.int .i64 0)))⟩])
 (.block 0
 (.loop af3_l1)))
 (.seq
 (.reg [⟨(some 63), none, (.mkIface 9 (.c (.str [97])))⟩,
   ⟨(some 64), none, (.mkIface 3 (.c (.int .i64 1)))⟩,
   ⟨(some 65), none, (.buildSlice 1 [.nilIface] 2 [(0, (1, (.t 63))), (1, (1, (.t 64)))])⟩,
   ⟨(some 66), none, (.call 8 [(.t 65)])⟩,
   ⟨(some 62), none, (.mv (.t 66))⟩,
   ⟨(some 67), none, (.extract 0 (.t 62))⟩,
   ⟨(some 68), none, (.extract 1 (.t 62))⟩,
   ⟨(some 5), none, (.mv (.t 67))⟩,
   ⟨(some 6), none, (.mv (.t 68))⟩])
 (.seq
 (.reg [⟨(some 70), none, (.mkIface 3 (.c (.int .i64 1)))⟩,
   ⟨(some 71), none, (.mkIface 9 (.c (.str [97])))⟩,
   ⟨(some 72), none, (.mkIface 3 (.c (.int .i64 2)))⟩,
   ⟨(some 73), none, (.buildSlice 1 [.nilIface] 3 [(0, (1, (.t 70))), (1, (1, (.t 71))), (2, (1, (.t 72)))])⟩,
   ⟨(some 74), none, (.call 8 [(.t 73)])⟩,
   ⟨(some 69), none, (.mv (.t 74))⟩,
   ⟨(some 75), none, (.extract 0 (.t 69))⟩,
   ⟨(some 76), none, (.extract 1 (.t 69))⟩,
   ⟨(some 7), none, (.mv (.t 75))⟩,
   ⟨(some 8), none, (.mv (.t 76))⟩])
 (.seq
 (.reg [⟨(some 78), none, (.call 8 [(.c (.slice none 0 0 none))])⟩,
   ⟨(some 77), none, (.mv (.t 78))⟩,
   ⟨(some 79), none, (.extract 0 (.t 77))⟩,
   ⟨(some 80), none, (.extract 1 (.t 77))⟩,
   ⟨(some 9), none, (.mv (.t 79))⟩,
   ⟨(some 10), none, (.mv (.t 80))⟩])
 (.seq
 (.reg [⟨(some 82), none, (.mkIface 9 (.c (.str [97])))⟩,
   ⟨(some 83), none, (.build [(.int .i64 0)] [])⟩,
   ⟨(some 84), none, (.mkIface 36 (.t 83))⟩,
   ⟨(some 85), none, (.mkIface 3 (.c (.int .i64 2)))⟩,
   ⟨(some 86), none, (.buildSlice 1 [.nilIface] 3 [(0, (1, (.t 82))), (1, (1, (.t 84))), (2, (1, (.t 85)))])⟩,
   ⟨(some 87), none, (.call 9 [(.t 86)])⟩,
   ⟨(some 81), none, (.mv (.t 87))⟩,
   ⟨(some 88), none, (.extract 0 (.t 81))⟩,
   ⟨(some 89), none, (.extract 1 (.t 81))⟩,
   ⟨(some 11), none, (.alloc [(.str []), (.int .u32 0), (.int .i64 0)])⟩,
   ⟨none, none, (.store 3 (.t 11) (.t 88))⟩,
   ⟨(some 12), none, (.mv (.t 89))⟩])
 (.seq
 (.reg [⟨(some 91), none, (.mkIface 9 (.c (.str [97])))⟩,
   ⟨(some 92), none, (.mkIface 4 (.c (.bool true)))⟩,
   ⟨(some 93), none, (.mkIface 9 (.c (.str [102, 111, 117, 114])))⟩,
   ⟨(some 94), none, (.buildSlice 1 [.nilIface] 3 [(0, (1, (.t 91))), (1, (1, (.t 92))), (2, (1, (.t 93)))])⟩,
   ⟨(some 95), none, (.call 9 [(.t 94)])⟩,
   ⟨(some 90), none, (.mv (.t 95))⟩,
   ⟨(some 96), none, (.extract 0 (.t 90))⟩,
   ⟨(some 97), none, (.extract 1 (.t 90))⟩,
   ⟨(some 13), none, (.alloc [(.str []), (.int .u32 0), (.int .i64 0)])⟩,
   ⟨none, none, (.store 3 (.t 13) (.t 96))⟩,
   ⟨(some 14), none, (.mv (.t 97))⟩])
 (.seq
 (.reg [⟨(some 99), none, (.buildSlice 1 [(.str [])] 1 [(0, (1, (.c (.str [97]))))])⟩,
   ⟨(some 100), none, (.mkIface 22 (.t 99))⟩,
   ⟨(some 101), none, (.buildSlice 1 [.nilIface] 1 [(0, (1, (.t 100)))])⟩,
   ⟨(some 102), none, (.call 8 [(.t 101)])⟩,
   ⟨(some 98), none, (.mv (.t 102))⟩,
   ⟨(some 103), none, (.extract 0 (.t 98))⟩,
   ⟨(some 104), none, (.extract 1 (.t 98))⟩,
   ⟨(some 15), none, (.mv (.t 103))⟩,
   ⟨(some 16), none, (.mv (.t 104))⟩])
 (.seq
 (.reg [⟨(some 105), none, (.mv (.t 6))⟩,
   ⟨(some 106), none, (.bin .eql .num (.t 105) (.c (.int .i64 1)))⟩,
   ⟨(some 107), none, (.mv (.t 106))⟩,
   ⟨(some 108), (some (107, true)), (.mv (.t 8))⟩,
   ⟨(some 109), (some (107, true)), (.bin .eql .num (.t 108) (.c (.int .i64 1)))⟩,
   ⟨(some 110), none, (.pick (.t 107) (.t 109) (.c (.bool false)))⟩,
   ⟨(some 111), none, (.mv (.t 110))⟩,
   ⟨(some 112), (some (111, true)), (.mv (.t 10))⟩,
   ⟨(some 113), (some (111, true)), (.bin .eql .num (.t 112) (.c (.int .i64 0)))⟩,
   ⟨(some 114), none, (.pick (.t 111) (.t 113) (.c (.bool false)))⟩,
   ⟨(some 115), none, (.mv (.t 114))⟩,
   ⟨(some 116), (some (115, true)), (.mv (.t 9))⟩,
   ⟨(some 117), (some (115, true)), (.len (.t 116))⟩,
   ⟨(some 118), (some (115, true)), (.bin .eql .num (.t 117) (.c (.int .i64 0)))⟩,
   ⟨(some 119), none, (.pick (.t 115) (.t 118) (.c (.bool false)))⟩,
   ⟨(some 120), none, (.mv (.t 119))⟩,
   ⟨(some 121), (some (120, true)), (.mv (.t 12))⟩,
   ⟨(some 122), (some (120, true)), (.bin .eql .num (.t 121) (.c (.int .i64 1)))⟩,
   ⟨(some 123), none, (.pick (.t 120) (.t 122) (.c (.bool false)))⟩,
   ⟨(some 124), none, (.mv (.t 123))⟩,
   ⟨(some 125), (some (124, true)), (.mv (.t 14))⟩,
   ⟨(some 126), (some (124, true)), (.bin .eql .num (.t 125) (.c (.int .i64 0)))⟩,
   ⟨(some 127), none, (.pick (.t 124) (.t 126) (.c (.bool false)))⟩,
   ⟨(some 128), none, (.mv (.t 127))⟩,
   ⟨(some 129), (some (128, true)), (.loadN 3 (.t 13))⟩,
   ⟨(some 130), (some (128, true)), (.build [(.str []), (.int .u32 0), (.int .i64 0)] [(0, (1, (.c (.str [97])))), (1, (1, (.c (.int .u32 1)))), (2, (1, (.c (.int .i64 4))))])⟩,
   ⟨(some 131), (some (128, true)), (.bin .eql (.strct [(0, .str), (1, .num), (2, .num)]) (.t 129) (.t 130))⟩,
   ⟨(some 132), none, (.pick (.t 128) (.t 131) (.c (.bool false)))⟩,
   ⟨(some 133), none, (.mv (.t 132))⟩,
   ⟨(some 134), (some (133, true)), (.mv (.t 16))⟩,
   ⟨(some 135), (some (133, true)), (.bin .eql .num (.t 134) (.c (.int .i64 1)))⟩,
   ⟨(some 136), none, (.pick (.t 133) (.t 135) (.c (.bool false)))⟩,
   ⟨(some 137), none, (.mv (.t 136))⟩,
   ⟨(some 138), (some (137, true)), (.call 10 [])⟩,
   ⟨(some 139), none, (.pick (.t 137) (.t 138) (.c (.bool false)))⟩,
   ⟨(some 0), none, (.mv (.t 139))⟩]) .ret)))))))))⟩
theorem caf3 : cFunc Try.prog Try.f3 = some af3 := by kernel_rfl
def af4_l0 : AC :=
 (.seq
 (.reg [⟨(some 32), none, (.bin .lss .num (.t 31) (.t 30))⟩])
 (.seq
 (.cond (.t 32) .skip (.exit 0))
 (.seq
 (.block 1
 (.seq
 (.reg [⟨(some 33), none, (.mv (.t 31))⟩,
   ⟨(some 18), none, (.mv (.t 33))⟩])
 (.dreg [⟨(some 34), none, (.mv (.t 17))⟩,
   ⟨(some 35), none, (.buildSlice 1 [(.str [])] 3 [(0, (1, (.c (.str [108, 111])))), (1, (1, (.c (.str [109, 105, 100])))), (2, (1, (.c (.str [72, 73]))))])⟩,
   ⟨(some 36), none, (.mv (.t 18))⟩,
   ⟨(some 37), none, (.bin .rem .num (.t 36) (.c (.int .i64 3)))⟩,
   ⟨(some 38), none, (.ixSlice 1 (.t 35) (.t 37))⟩,
   ⟨(some 39), none, (.load1 (.t 38))⟩,
   ⟨(some 40), none, (.mv (.t 7))⟩,
   ⟨(some 41), none, (.mv (.t 18))⟩,
   ⟨(some 42), none, (.ixSlice 3 (.t 40) (.t 41))⟩,
   ⟨(some 43), none, (.fieldAddr 1 1 (.t 42))⟩,
   ⟨(some 44), none, (.load1 (.t 43))⟩,
   ⟨(some 45), none, (.mv (.t 7))⟩,
   ⟨(some 46), none, (.mv (.t 18))⟩,
   ⟨(some 47), none, (.ixSlice 3 (.t 45) (.t 46))⟩,
   ⟨(some 48), none, (.fieldAddr 2 1 (.t 47))⟩,
   ⟨(some 49), none, (.load1 (.t 48))⟩,
   ⟨(some 50), none, (.bin .and .num (.t 49) (.c (.int .i64 1023)))⟩,
   ⟨(some 51), none, (.bin .add .num (.t 50) (.c (.int .i64 1024)))⟩,
   ⟨(some 52), none, (.bin .rem .num (.t 51) (.c (.int .i64 1024)))⟩,
   ⟨(some 53), none, (.bin .add .num (.c (.int .i64 1)) (.t 52))⟩,
   ⟨(some 54), none, (.build [(.str []), (.int .u32 0), (.int .i64 0)] [(0, (1, (.t 39))), (1, (1, (.t 44))), (2, (1, (.t 53)))])⟩,
   ⟨(some 55), none, (.buildSlice 3 [(.str []), (.int .u32 0), (.int .i64 0)] 1 [(0, (3, (.t 54)))])⟩,
   ⟨(some 56), none, (.append 3 32 (.t 34) (.t 55))⟩,
   ⟨(some 17), none, (.mv (.t 56))⟩] [(10, 1), (15, 1)])))
 (.reg [⟨(some 57), none, (.bin .add .num (.t 31) (.c (.int .i64 1)))⟩,
   ⟨(some 31), none, (.mv (.t 57))⟩]))))
/-- limelight/limelightlaw7.ValueTells -/
def af4 : AFunc := ⟨86, [(.tmp 16)],
 (.seq
 (.reg [⟨(some 14), none, (.box (.t 6))⟩,
   ⟨(some 16), none, (.mv (.c (.bool false)))⟩])
 (.seq
 (.seq
 (.reg [⟨(some 19), none, (.mv (.t 4))⟩,
   ⟨(some 20), none, (.lenS (.t 19))⟩,
   ⟨(some 21), none, (.bin .gtr .num (.t 20) (.c (.int .i64 60)))⟩])
 (.cond (.t 21)
 (.reg [⟨(some 22), none, (.mv (.t 4))⟩,
   ⟨(some 23), none, (.cutStr (.t 22) none (some (.c (.int .i64 60))))⟩,
   ⟨(some 4), none, (.mv (.t 23))⟩]) .skip))
 (.seq
 (.seq
 (.reg [⟨(some 24), none, (.mv (.t 7))⟩,
   ⟨(some 25), none, (.len (.t 24))⟩,
   ⟨(some 26), none, (.bin .gtr .num (.t 25) (.c (.int .i64 5)))⟩])
 (.cond (.t 26)
 (.reg [⟨(some 27), none, (.mv (.t 7))⟩,
   ⟨(some 28), none, (.cut 3 (.t 27) none (some (.c (.int .i64 5))) none)⟩,
   ⟨(some 7), none, (.mv (.t 28))⟩]) .skip))
 (.seq
 (.reg [⟨(some 17), none, (.mv (.c (.slice none 0 0 none)))⟩])
 (.seq
 (.seq
 (.reg [⟨(some 29), none, (.mv (.t 7))⟩,
   ⟨(some 30), none, (.len (.t 29))⟩,
   ⟨(some 31), none, (.mv (.c (.int .i64 0)))⟩])
 (.block 0
 (.loop af4_l0)))
 (.seq
 (.reg [⟨(some 58), none, (.mv (.t 0))⟩,
   ⟨(some 59), none, (.mv (.t 2))⟩,
   ⟨(some 60), none, (.mv (.t 3))⟩,
   ⟨(some 61), none, (.mv (.t 4))⟩,
   ⟨(some 62), none, (.mv (.t 5))⟩,
   ⟨(some 63), none, (.call 6 [(.t 58), (.t 59), (.t 60), (.t 61), (.t 62)])⟩,
   ⟨(some 64), none, (.mv (.t 63))⟩,
   ⟨(some 65), (some (64, true)), (.mv (.t 4))⟩,
   ⟨(some 66), (some (64, true)), (.mv (.t 0))⟩,
   ⟨(some 67), (some (64, true)), (.mv (.t 1))⟩,
   ⟨(some 68), (some (64, true)), (.loadN 3 (.t 14))⟩,
   ⟨(some 69), (some (64, true)), (.mv (.t 7))⟩,
   ⟨(some 70), (some (64, true)), (.call 7 [(.t 65), (.t 66), (.t 67), (.t 68), (.t 69)])⟩,
   ⟨(some 71), none, (.pick (.t 64) (.t 70) (.c (.bool false)))⟩,
   ⟨(some 72), none, (.mv (.t 71))⟩,
   ⟨(some 73), (some (72, true)), (.mv (.t 0))⟩,
   ⟨(some 74), (some (72, true)), (.bin .and .num (.t 73) (.c (.int .i64 65535)))⟩,
   ⟨(some 75), (some (72, true)), (.mv (.t 1))⟩,
   ⟨(some 76), (some (72, true)), (.bin .and .num (.t 75) (.c (.int .i64 1023)))⟩,
   ⟨(some 77), (some (72, true)), (.bin .add .num (.c (.int .i64 1)) (.t 76))⟩,
   ⟨(some 78), (some (72, true)), (.mv (.t 3))⟩,
   ⟨(some 79), (some (72, true)), (.build [(.str []), (.int .u32 0), (.int .i64 0)] [(0, (1, (.c (.str [104, 105])))), (1, (1, (.t 78))), (2, (1, (.c (.int .i64 9))))])⟩,
   ⟨(some 80), (some (72, true)), (.mv (.t 17))⟩,
   ⟨(some 81), (some (72, true)), (.call 7 [(.c (.str [108, 111])), (.t 74), (.t 77), (.t 79), (.t 80)])⟩,
   ⟨(some 82), none, (.pick (.t 72) (.t 81) (.c (.bool false)))⟩,
   ⟨(some 83), none, (.mv (.t 82))⟩,
   ⟨(some 84), (some (83, true)), (.call 10 [])⟩,
   ⟨(some 85), none, (.pick (.t 83) (.t 84) (.c (.bool false)))⟩,
   ⟨(some 16), none, (.mv (.t 85))⟩]) .ret))))))⟩
theorem caf4 : cFunc Try.prog Try.f4 = some af4 := by kernel_rfl
def af5_l0 : AC :=
 (.seq
 (.reg [⟨(some 94), none, (.bin .lss .num (.t 93) (.t 92))⟩])
 (.seq
 (.cond (.t 94) .skip (.exit 4))
 (.seq
 (.block 5
 (.seq
 (.reg [⟨(some 95), none, (.mv (.t 93))⟩,
   ⟨(some 11), none, (.mv (.t 95))⟩])
 (.seq
 (.dreg [⟨(some 96), none, (.mv (.t 11))⟩,
   ⟨(some 97), none, (.mv (.t 5))⟩,
   ⟨(some 98), none, (.len (.t 97))⟩,
   ⟨(some 99), none, (.bin .lss .num (.t 96) (.t 98))⟩,
   ⟨(some 100), none, (.mv (.t 99))⟩,
   ⟨(some 101), (some (100, true)), (.mv (.t 9))⟩,
   ⟨(some 102), (some (100, true)), (.mv (.t 11))⟩,
   ⟨(some 103), (some (100, true)), (.ixSlice 3 (.t 101) (.t 102))⟩,
   ⟨(some 104), (some (100, true)), (.loadN 3 (.t 103))⟩,
   ⟨(some 105), (some (100, true)), (.mv (.t 5))⟩,
   ⟨(some 106), (some (100, true)), (.mv (.t 11))⟩,
   ⟨(some 107), (some (100, true)), (.ixSlice 3 (.t 105) (.t 106))⟩,
   ⟨(some 108), (some (100, true)), (.loadN 3 (.t 107))⟩,
   ⟨(some 109), (some (100, true)), (.bin .neq (.strct [(0, .str), (1, .num), (2, .num)]) (.t 104) (.t 108))⟩,
   ⟨(some 110), none, (.pick (.t 100) (.t 109) (.c (.bool false)))⟩,
   ⟨(some 111), none, (.mv (.t 110))⟩,
   ⟨(some 112), (some (111, false)), (.mv (.t 11))⟩,
   ⟨(some 113), (some (111, false)), (.mv (.t 5))⟩,
   ⟨(some 114), (some (111, false)), (.len (.t 113))⟩,
   ⟨(some 115), (some (111, false)), (.bin .geq .num (.t 112) (.t 114))⟩,
   ⟨(some 116), (some (111, false)), (.mv (.t 115))⟩,
   ⟨(some 117), (some (116, true)), (.mv (.t 9))⟩,
   ⟨(some 118), (some (116, true)), (.mv (.t 11))⟩,
   ⟨(some 119), (some (116, true)), (.ixSlice 3 (.t 117) (.t 118))⟩,
   ⟨(some 120), (some (116, true)), (.loadN 3 (.t 119))⟩,
   ⟨(some 121), (some (116, true)), (.mv (.t 6))⟩,
   ⟨(some 122), (some (116, true)), (.mv (.t 11))⟩,
   ⟨(some 123), (some (116, true)), (.mv (.t 5))⟩,
   ⟨(some 124), (some (116, true)), (.len (.t 123))⟩,
   ⟨(some 125), (some (116, true)), (.bin .sub .num (.t 122) (.t 124))⟩,
   ⟨(some 126), (some (116, true)), (.ixSlice 3 (.t 121) (.t 125))⟩,
   ⟨(some 127), (some (116, true)), (.loadN 3 (.t 126))⟩,
   ⟨(some 128), (some (116, true)), (.bin .neq (.strct [(0, .str), (1, .num), (2, .num)]) (.t 120) (.t 127))⟩,
   ⟨(some 129), (some (111, false)), (.pick (.t 116) (.t 128) (.c (.bool false)))⟩,
   ⟨(some 130), none, (.pick (.t 111) (.c (.bool true)) (.t 129))⟩] [])
 (.cond (.t 130)
 (.seq
 (.reg [⟨(some 4), none, (.mv (.c (.bool false)))⟩]) .ret) .skip))))
 (.reg [⟨(some 131), none, (.bin .add .num (.t 93) (.c (.int .i64 1)))⟩,
   ⟨(some 93), none, (.mv (.t 131))⟩]))))
def af5_l1 : AC :=
 (.seq
 (.seq
 (.reg [⟨(some 33), none, (.mv (.t 8))⟩,
   ⟨(some 34), none, (.mv (.t 1))⟩,
   ⟨(some 35), none, (.len (.t 34))⟩,
   ⟨(some 36), none, (.bin .lss .num (.t 33) (.t 35))⟩,
   ⟨(some 37), none, (.mv (.t 36))⟩,
   ⟨(some 38), (some (37, true)), (.mv (.t 8))⟩,
   ⟨(some 39), (some (37, true)), (.bin .lss .num (.t 38) (.c (.int .i64 2)))⟩,
   ⟨(some 40), none, (.pick (.t 37) (.t 39) (.c (.bool false)))⟩])
 (.cond (.t 40) .skip (.exit 2)))
 (.seq
 (.block 3
 (.reg [⟨(some 43), none, (.mv (.t 6))⟩,
   ⟨(some 44), none, (.mv (.t 1))⟩,
   ⟨(some 45), none, (.mv (.t 8))⟩,
   ⟨(some 46), none, (.ixSlice 3 (.t 44) (.t 45))⟩,
   ⟨(some 47), none, (.fieldAddr 1 1 (.t 46))⟩,
   ⟨(some 48), none, (.load1 (.t 47))⟩,
   ⟨(some 49), none, (.mv (.t 8))⟩,
   ⟨(some 50), none, (.bin .add .num (.c (.int .i64 5)) (.t 49))⟩,
   ⟨(some 51), none, (.build [(.str []), (.int .u32 0), (.int .i64 0)] [(0, (1, (.c (.str [98])))), (1, (1, (.t 48))), (2, (1, (.t 50)))])⟩,
   ⟨(some 52), none, (.buildSlice 3 [(.str []), (.int .u32 0), (.int .i64 0)] 1 [(0, (3, (.t 51)))])⟩,
   ⟨(some 53), none, (.append 3 32 (.t 43) (.t 52))⟩,
   ⟨(some 6), none, (.mv (.t 53))⟩]))
 (.reg [⟨(some 41), none, (.mv (.t 8))⟩,
   ⟨(some 42), none, (.bin .add .num (.t 41) (.c (.int .i64 1)))⟩,
   ⟨(some 8), none, (.mv (.t 42))⟩])))
def af5_l2 : AC :=
 (.seq
 (.seq
 (.reg [⟨(some 12), none, (.mv (.t 7))⟩,
   ⟨(some 13), none, (.mv (.t 0))⟩,
   ⟨(some 14), none, (.len (.t 13))⟩,
   ⟨(some 15), none, (.bin .lss .num (.t 12) (.t 14))⟩,
   ⟨(some 16), none, (.mv (.t 15))⟩,
   ⟨(some 17), (some (16, true)), (.mv (.t 7))⟩,
   ⟨(some 18), (some (16, true)), (.bin .lss .num (.t 17) (.c (.int .i64 2)))⟩,
   ⟨(some 19), none, (.pick (.t 16) (.t 18) (.c (.bool false)))⟩])
 (.cond (.t 19) .skip (.exit 0)))
 (.seq
 (.block 1
 (.reg [⟨(some 22), none, (.mv (.t 5))⟩,
   ⟨(some 23), none, (.mv (.t 0))⟩,
   ⟨(some 24), none, (.mv (.t 7))⟩,
   ⟨(some 25), none, (.ixSlice 3 (.t 23) (.t 24))⟩,
   ⟨(some 26), none, (.fieldAddr 1 1 (.t 25))⟩,
   ⟨(some 27), none, (.load1 (.t 26))⟩,
   ⟨(some 28), none, (.mv (.t 7))⟩,
   ⟨(some 29), none, (.bin .add .num (.c (.int .i64 1)) (.t 28))⟩,
   ⟨(some 30), none, (.build [(.str []), (.int .u32 0), (.int .i64 0)] [(0, (1, (.c (.str [97])))), (1, (1, (.t 27))), (2, (1, (.t 29)))])⟩,
   ⟨(some 31), none, (.buildSlice 3 [(.str []), (.int .u32 0), (.int .i64 0)] 1 [(0, (3, (.t 30)))])⟩,
   ⟨(some 32), none, (.append 3 32 (.t 22) (.t 31))⟩,
   ⟨(some 5), none, (.mv (.t 32))⟩]))
 (.reg [⟨(some 20), none, (.mv (.t 7))⟩,
   ⟨(some 21), none, (.bin .add .num (.t 20) (.c (.int .i64 1)))⟩,
   ⟨(some 7), none, (.mv (.t 21))⟩])))
/-- limelight/limelightlaw7.ValueParts -/
def af5 : AFunc := ⟨133, [(.tmp 4)],
 (.seq
 (.reg [⟨(some 4), none, (.mv (.c (.bool false)))⟩])
 (.seq
 (.reg [⟨(some 5), none, (.mv (.c (.slice none 0 0 none)))⟩,
   ⟨(some 6), none, (.mv (.c (.slice none 0 0 none)))⟩])
 (.seq
 (.seq
 (.reg [⟨(some 7), none, (.mv (.c (.int .i64 0)))⟩])
 (.block 0
 (.loop af5_l2)))
 (.seq
 (.seq
 (.reg [⟨(some 8), none, (.mv (.c (.int .i64 0)))⟩])
 (.block 2
 (.loop af5_l1)))
 (.seq
 (.reg [⟨(some 55), none, (.mv (.t 5))⟩,
   ⟨(some 56), none, (.mkIface 29 (.t 55))⟩,
   ⟨(some 57), none, (.mv (.t 6))⟩,
   ⟨(some 58), none, (.mkIface 29 (.t 57))⟩,
   ⟨(some 59), none, (.buildSlice 1 [.nilIface] 2 [(0, (1, (.t 56))), (1, (1, (.t 58)))])⟩,
   ⟨(some 60), none, (.call 8 [(.t 59)])⟩,
   ⟨(some 54), none, (.mv (.t 60))⟩,
   ⟨(some 61), none, (.extract 0 (.t 54))⟩,
   ⟨(some 62), none, (.extract 1 (.t 54))⟩,
   ⟨(some 9), none, (.mv (.t 61))⟩,
   ⟨(some 10), none, (.mv (.t 62))⟩])
 (.seq
 (.seq
 (.reg [⟨(some 63), none, (.mv (.t 5))⟩,
   ⟨(some 64), none, (.len (.t 63))⟩,
   ⟨(some 65), none, (.mv (.t 6))⟩,
   ⟨(some 66), none, (.len (.t 65))⟩,
   ⟨(some 67), none, (.bin .add .num (.t 64) (.t 66))⟩,
   ⟨(some 68), none, (.bin .gtr .num (.t 67) (.c (.int .i64 3)))⟩])
 (.cond (.t 68)
 (.seq
 (.reg [⟨(some 69), none, (.mv (.t 10))⟩,
   ⟨(some 70), none, (.bin .eql .num (.t 69) (.c (.int .i64 3)))⟩,
   ⟨(some 71), none, (.mv (.t 70))⟩,
   ⟨(some 72), (some (71, true)), (.mv (.t 9))⟩,
   ⟨(some 73), (some (71, true)), (.len (.t 72))⟩,
   ⟨(some 74), (some (71, true)), (.bin .eql .num (.t 73) (.c (.int .i64 0)))⟩,
   ⟨(some 75), none, (.pick (.t 71) (.t 74) (.c (.bool false)))⟩,
   ⟨(some 76), none, (.mv (.t 75))⟩,
   ⟨(some 77), (some (76, true)), (.call 10 [])⟩,
   ⟨(some 78), none, (.pick (.t 76) (.t 77) (.c (.bool false)))⟩,
   ⟨(some 4), none, (.mv (.t 78))⟩]) .ret) .skip))
 (.seq
 (.seq
 (.reg [⟨(some 79), none, (.mv (.t 10))⟩,
   ⟨(some 80), none, (.bin .neq .num (.t 79) (.c (.int .i64 0)))⟩,
   ⟨(some 81), none, (.mv (.t 80))⟩,
   ⟨(some 82), (some (81, false)), (.mv (.t 9))⟩,
   ⟨(some 83), (some (81, false)), (.len (.t 82))⟩,
   ⟨(some 84), (some (81, false)), (.mv (.t 5))⟩,
   ⟨(some 85), (some (81, false)), (.len (.t 84))⟩,
   ⟨(some 86), (some (81, false)), (.mv (.t 6))⟩,
   ⟨(some 87), (some (81, false)), (.len (.t 86))⟩,
   ⟨(some 88), (some (81, false)), (.bin .add .num (.t 85) (.t 87))⟩,
   ⟨(some 89), (some (81, false)), (.bin .neq .num (.t 83) (.t 88))⟩,
   ⟨(some 90), none, (.pick (.t 81) (.c (.bool true)) (.t 89))⟩])
 (.cond (.t 90)
 (.seq
 (.reg [⟨(some 4), none, (.mv (.c (.bool false)))⟩]) .ret) .skip))
 (.seq
 (.seq
 (.reg [⟨(some 91), none, (.mv (.t 9))⟩,
   ⟨(some 92), none, (.len (.t 91))⟩,
   ⟨(some 93), none, (.mv (.c (.int .i64 0)))⟩])
 (.block 4
 (.loop af5_l0)))
 (.seq
 (.reg [⟨(some 132), none, (.call 10 [])⟩,
   ⟨(some 4), none, (.mv (.t 132))⟩]) .ret)))))))))⟩
theorem caf5 : cFunc Try.prog Try.f5 = some af5 := by kernel_rfl
def af6_l0 : AC :=
 (.seq
 (.reg [⟨(some 60), none, (.bin .lss .num (.t 59) (.t 58))⟩])
 (.seq
 (.cond (.t 60) .skip (.exit 2))
 (.seq
 (.block 3
 (.seq
 (.reg [⟨(some 61), none, (.ixSlice 1 (.t 57) (.t 59))⟩,
   ⟨(some 62), none, (.load1 (.t 61))⟩,
   ⟨(some 14), none, (.mv (.t 62))⟩])
 (.seq
 (.reg [⟨(some 63), none, (.mv (.t 14))⟩,
   ⟨(some 64), none, (.call 12 [(.t 63), (.c (.str [])), (.c (.bool false))])⟩,
   ⟨(some 65), none, (.un .not (.t 64))⟩])
 (.cond (.t 65)
 (.seq
 (.reg [⟨(some 10), none, (.mv (.c (.bool false)))⟩]) .ret) .skip))))
 (.reg [⟨(some 66), none, (.bin .add .num (.t 59) (.c (.int .i64 1)))⟩,
   ⟨(some 59), none, (.mv (.t 66))⟩]))))
def af6_l1 : AC :=
 (.seq
 (.reg [⟨(some 36), none, (.bin .lss .num (.t 35) (.t 34))⟩])
 (.seq
 (.cond (.t 36) .skip (.exit 0))
 (.seq
 (.block 1
 (.seq
 (.reg [⟨(some 37), none, (.ixSlice 1 (.t 33) (.t 35))⟩,
   ⟨(some 38), none, (.load1 (.t 37))⟩,
   ⟨(some 12), none, (.mv (.t 38))⟩])
 (.seq
 (.reg [⟨(some 39), none, (.mv (.t 12))⟩,
   ⟨(some 40), none, (.call 11 [(.t 39), (.c (.int .i64 0)), (.c (.bool false))])⟩,
   ⟨(some 41), none, (.un .not (.t 40))⟩])
 (.cond (.t 41)
 (.seq
 (.reg [⟨(some 10), none, (.mv (.c (.bool false)))⟩]) .ret) .skip))))
 (.reg [⟨(some 42), none, (.bin .add .num (.t 35) (.c (.int .i64 1)))⟩,
   ⟨(some 35), none, (.mv (.t 42))⟩]))))
/-- limelight/limelightlaw7.values -/
def af6 : AFunc := ⟨130, [(.tmp 10)],
 (.seq
 (.reg [⟨(some 10), none, (.mv (.c (.bool false)))⟩])
 (.seq
 (.seq
 (.reg [⟨(some 16), none, (.mkIface 40 (.c (.float .f64 4609434218613702656)))⟩,
   ⟨(some 17), none, (.build [(.int .i64 0)] [(0, (1, (.c (.int .i64 2))))])⟩,
   ⟨(some 18), none, (.mkIface 36 (.t 17))⟩,
   ⟨(some 19), none, (.build [(.int .i64 0)] [])⟩,
   ⟨(some 20), none, (.box (.t 19))⟩,
   ⟨(some 21), none, (.mkIface 41 (.t 20))⟩,
   ⟨(some 22), none, (.buildSlice 1 [(.int .i64 0)] 1 [(0, (1, (.c (.int .i64 1))))])⟩,
   ⟨(some 23), none, (.mkIface 42 (.t 22))⟩,
   ⟨(some 24), none, (.mkIface 43 (.c (.int .u64 3)))⟩,
   ⟨(some 25), none, (.mv (.t 3))⟩,
   ⟨(some 26), none, (.mkIface 9 (.t 25))⟩,
   ⟨(some 27), none, (.buildSlice 1 [.nilIface] 1 [(0, (1, (.t 26)))])⟩,
   ⟨(some 28), none, (.mkIface 44 (.t 27))⟩,
   ⟨(some 29), none, (.mv (.t 3))⟩,
   ⟨(some 30), none, (.conv .strBytes (.t 29))⟩,
   ⟨(some 31), none, (.mkIface 45 (.t 30))⟩,
   ⟨(some 32), none, (.mkIface 30 (.c (.int .i64 1)))⟩,
   ⟨(some 33), none, (.buildSlice 1 [.nilIface] 9 [(0, (1, (.c .nilIface))), (1, (1, (.t 16))), (2, (1, (.t 18))), (3, (1, (.t 21))), (4, (1, (.t 23))), (5, (1, (.t 24))), (6, (1, (.t 28))), (7, (1, (.t 31))), (8, (1, (.t 32)))])⟩,
   ⟨(some 34), none, (.len (.t 33))⟩,
   ⟨(some 35), none, (.mv (.c (.int .i64 0)))⟩])
 (.block 0
 (.loop af6_l1)))
 (.seq
 (.seq
 (.reg [⟨(some 43), none, (.mkIface 40 (.c (.float .f64 4609434218613702656)))⟩,
   ⟨(some 44), none, (.build [(.int .i64 0)] [(0, (1, (.c (.int .i64 2))))])⟩,
   ⟨(some 45), none, (.mkIface 36 (.t 44))⟩,
   ⟨(some 46), none, (.mv (.t 0))⟩,
   ⟨(some 47), none, (.mkIface 2 (.t 46))⟩,
   ⟨(some 48), none, (.mv (.t 1))⟩,
   ⟨(some 49), none, (.mkIface 21 (.t 48))⟩,
   ⟨(some 50), none, (.mv (.t 2))⟩,
   ⟨(some 51), none, (.mkIface 25 (.t 50))⟩,
   ⟨(some 52), none, (.mv (.t 4))⟩,
   ⟨(some 53), none, (.mkIface 4 (.t 52))⟩,
   ⟨(some 54), none, (.mv (.t 3))⟩,
   ⟨(some 55), none, (.buildSlice 1 [(.str [])] 1 [(0, (1, (.t 54)))])⟩,
   ⟨(some 56), none, (.mkIface 22 (.t 55))⟩,
   ⟨(some 57), none, (.buildSlice 1 [.nilIface] 8 [(0, (1, (.c .nilIface))), (1, (1, (.t 43))), (2, (1, (.t 45))), (3, (1, (.t 47))), (4, (1, (.t 49))), (5, (1, (.t 51))), (6, (1, (.t 53))), (7, (1, (.t 56)))])⟩,
   ⟨(some 58), none, (.len (.t 57))⟩,
   ⟨(some 59), none, (.mv (.c (.int .i64 0)))⟩])
 (.block 2
 (.loop af6_l0)))
 (.seq
 (.reg [⟨(some 15), none, (.mv (.c (.int .i64 0)))⟩])
 (.seq
 (.seq
 (.reg [⟨(some 67), none, (.mv (.t 4))⟩])
 (.cond (.t 67)
 (.reg [⟨(some 15), none, (.mv (.c (.int .i64 1)))⟩]) .skip))
 (.seq
 (.reg [⟨(some 68), none, (.mv (.t 0))⟩,
   ⟨(some 69), none, (.mkIface 2 (.t 68))⟩,
   ⟨(some 70), none, (.mv (.t 0))⟩,
   ⟨(some 71), none, (.call 11 [(.t 69), (.t 70), (.c (.bool true))])⟩,
   ⟨(some 72), none, (.mv (.t 71))⟩,
   ⟨(some 73), (some (72, true)), (.mv (.t 0))⟩,
   ⟨(some 74), (some (72, true)), (.mkIface 3 (.t 73))⟩,
   ⟨(some 75), (some (72, true)), (.mv (.t 0))⟩,
   ⟨(some 76), (some (72, true)), (.call 11 [(.t 74), (.t 75), (.c (.bool true))])⟩,
   ⟨(some 77), none, (.pick (.t 72) (.t 76) (.c (.bool false)))⟩,
   ⟨(some 78), none, (.mv (.t 77))⟩,
   ⟨(some 79), (some (78, true)), (.mv (.t 1))⟩,
   ⟨(some 80), (some (78, true)), (.mkIface 21 (.t 79))⟩,
   ⟨(some 81), (some (78, true)), (.mv (.t 1))⟩,
   ⟨(some 82), (some (78, true)), (.conv (.int .i64) (.t 81))⟩,
   ⟨(some 83), (some (78, true)), (.call 11 [(.t 80), (.t 82), (.c (.bool true))])⟩,
   ⟨(some 84), none, (.pick (.t 78) (.t 83) (.c (.bool false)))⟩,
   ⟨(some 85), none, (.mv (.t 84))⟩,
   ⟨(some 86), (some (85, true)), (.mv (.t 2))⟩,
   ⟨(some 87), (some (85, true)), (.mkIface 25 (.t 86))⟩,
   ⟨(some 88), (some (85, true)), (.mv (.t 2))⟩,
   ⟨(some 89), (some (85, true)), (.conv (.int .i64) (.t 88))⟩,
   ⟨(some 90), (some (85, true)), (.call 11 [(.t 87), (.t 89), (.c (.bool true))])⟩,
   ⟨(some 91), none, (.pick (.t 85) (.t 90) (.c (.bool false)))⟩,
   ⟨(some 92), none, (.mv (.t 91))⟩,
   ⟨(some 93), (some (92, true)), (.mv (.t 3))⟩,
   ⟨(some 94), (some (92, true)), (.mkIface 9 (.t 93))⟩,
   ⟨(some 95), (some (92, true)), (.mv (.t 3))⟩,
   ⟨(some 96), (some (92, true)), (.call 13 [(.t 95)])⟩,
   ⟨(some 97), (some (92, true)), (.call 11 [(.t 94), (.t 96), (.c (.bool true))])⟩,
   ⟨(some 98), none, (.pick (.t 92) (.t 97) (.c (.bool false)))⟩,
   ⟨(some 99), none, (.mv (.t 98))⟩,
   ⟨(some 100), (some (99, true)), (.mv (.t 4))⟩,
   ⟨(some 101), (some (99, true)), (.mkIface 4 (.t 100))⟩,
   ⟨(some 102), (some (99, true)), (.mv (.t 15))⟩,
   ⟨(some 103), (some (99, true)), (.call 11 [(.t 101), (.t 102), (.c (.bool true))])⟩,
   ⟨(some 104), none, (.pick (.t 99) (.t 103) (.c (.bool false)))⟩,
   ⟨(some 105), none, (.mv (.t 104))⟩,
   ⟨(some 106), (some (105, true)), (.mv (.t 3))⟩,
   ⟨(some 107), (some (105, true)), (.mkIface 9 (.t 106))⟩,
   ⟨(some 108), (some (105, true)), (.mv (.t 3))⟩,
   ⟨(some 109), (some (105, true)), (.call 12 [(.t 107), (.t 108), (.c (.bool true))])⟩,
   ⟨(some 110), none, (.pick (.t 105) (.t 109) (.c (.bool false)))⟩,
   ⟨(some 111), none, (.mv (.t 110))⟩,
   ⟨(some 112), (some (111, true)), (.mv (.t 3))⟩,
   ⟨(some 113), (some (111, true)), (.conv .strBytes (.t 112))⟩,
   ⟨(some 114), (some (111, true)), (.mkIface 45 (.t 113))⟩,
   ⟨(some 115), (some (111, true)), (.mv (.t 3))⟩,
   ⟨(some 116), (some (111, true)), (.call 12 [(.t 114), (.t 115), (.c (.bool true))])⟩,
   ⟨(some 117), none, (.pick (.t 111) (.t 116) (.c (.bool false)))⟩,
   ⟨(some 118), none, (.mv (.t 117))⟩,
   ⟨(some 119), (some (118, true)), (.mkIface 30 (.c (.int .i64 1)))⟩,
   ⟨(some 120), (some (118, true)), (.call 14 [(.c (.int .i64 1))])⟩,
   ⟨(some 121), (some (118, true)), (.call 12 [(.t 119), (.t 120), (.c (.bool true))])⟩,
   ⟨(some 122), none, (.pick (.t 118) (.t 121) (.c (.bool false)))⟩,
   ⟨(some 123), none, (.mv (.t 122))⟩,
   ⟨(some 124), (some (123, true)), (.mv (.t 3))⟩,
   ⟨(some 125), (some (123, true)), (.mkIface 9 (.t 124))⟩,
   ⟨(some 126), (some (123, true)), (.call 15 [(.t 125)])⟩,
   ⟨(some 127), (some (123, true)), (.mv (.t 3))⟩,
   ⟨(some 128), (some (123, true)), (.bin .eql .str (.t 126) (.t 127))⟩,
   ⟨(some 129), none, (.pick (.t 123) (.t 128) (.c (.bool false)))⟩,
   ⟨(some 10), none, (.mv (.t 129))⟩]) .ret))))))⟩
theorem caf6 : cFunc Try.prog Try.f6 = some af6 := by kernel_rfl
def af7_l0 : AC :=
 (.seq
 (.reg [⟨(some 172), none, (.bin .lss .num (.t 171) (.t 170))⟩])
 (.seq
 (.cond (.t 172) .skip (.exit 4))
 (.seq
 (.block 5
 (.seq
 (.reg [⟨(some 173), none, (.mv (.t 171))⟩,
   ⟨(some 29), none, (.mv (.t 173))⟩])
 (.seq
 (.dreg [⟨(some 174), none, (.mv (.t 19))⟩,
   ⟨(some 175), none, (.mv (.t 29))⟩,
   ⟨(some 176), none, (.ixSlice 3 (.t 174) (.t 175))⟩,
   ⟨(some 177), none, (.loadN 3 (.t 176))⟩,
   ⟨(some 178), none, (.mv (.t 21))⟩,
   ⟨(some 179), none, (.mv (.t 29))⟩,
   ⟨(some 180), none, (.ixSlice 3 (.t 178) (.t 179))⟩,
   ⟨(some 181), none, (.loadN 3 (.t 180))⟩,
   ⟨(some 182), none, (.bin .neq (.strct [(0, .str), (1, .num), (2, .num)]) (.t 177) (.t 181))⟩] [])
 (.cond (.t 182)
 (.seq
 (.reg [⟨(some 10), none, (.mv (.c (.bool false)))⟩]) .ret) .skip))))
 (.reg [⟨(some 183), none, (.bin .add .num (.t 171) (.c (.int .i64 1)))⟩,
   ⟨(some 171), none, (.mv (.t 183))⟩]))))
def af7_l1 : AC :=
 (.seq
 (.reg [⟨(some 130), none, (.bin .lss .num (.t 129) (.t 128))⟩])
 (.seq
 (.cond (.t 130) .skip (.exit 2))
 (.seq
 (.block 3
 (.seq
 (.reg [⟨(some 131), none, (.ixSlice 1 (.t 127) (.t 129))⟩,
   ⟨(some 132), none, (.load1 (.t 131))⟩,
   ⟨(some 28), none, (.mv (.t 132))⟩])
 (.seq
 (.reg [⟨(some 133), none, (.mv (.t 22))⟩,
   ⟨(some 134), none, (.bin .eql .num (.t 133) (.c (.int .i64 0)))⟩])
 (.cond (.t 134)
 (.reg [⟨(some 135), none, (.mv (.t 28))⟩,
   ⟨(some 22), none, (.mv (.t 135))⟩]) .skip))))
 (.reg [⟨(some 136), none, (.bin .add .num (.t 129) (.c (.int .i64 1)))⟩,
   ⟨(some 129), none, (.mv (.t 136))⟩]))))
def af7_l2 : AC :=
 (.seq
 (.reg [⟨(some 103), none, (.bin .lss .num (.t 102) (.t 101))⟩])
 (.seq
 (.cond (.t 103) .skip (.exit 0))
 (.seq
 (.block 1
 (.seq
 (.reg [⟨(some 104), none, (.ixSlice 3 (.t 100) (.t 102))⟩,
   ⟨(some 105), none, (.loadN 3 (.t 104))⟩,
   ⟨(some 24), none, (.alloc [(.str []), (.int .u32 0), (.int .i64 0)])⟩,
   ⟨none, none, (.store 3 (.t 24) (.t 105))⟩])
 (.seq
 (.reg [⟨(some 107), none, (.fieldAddr 0 1 (.t 24))⟩,
   ⟨(some 108), none, (.load1 (.t 107))⟩,
   ⟨(some 109), none, (.fieldAddr 1 1 (.t 24))⟩,
   ⟨(some 110), none, (.load1 (.t 109))⟩,
   ⟨(some 111), none, (.conv (.int .i64) (.t 110))⟩,
   ⟨(some 112), none, (.fieldAddr 2 1 (.t 24))⟩,
   ⟨(some 113), none, (.load1 (.t 112))⟩,
   ⟨(some 114), none, (.call 16 [(.t 108), (.t 111), (.t 113)])⟩,
   ⟨(some 106), none, (.mv (.t 114))⟩,
   ⟨(some 115), none, (.extract 0 (.t 106))⟩,
   ⟨(some 116), none, (.extract 1 (.t 106))⟩,
   ⟨(some 25), none, (.alloc [(.str []), (.int .u32 0), (.int .i64 0)])⟩,
   ⟨none, none, (.store 3 (.t 25) (.t 115))⟩,
   ⟨(some 26), none, (.mv (.t 116))⟩])
 (.seq
 (.reg [⟨(some 117), none, (.mv (.t 26))⟩,
   ⟨(some 118), none, (.bin .neq .num (.t 117) (.c (.int .i64 0)))⟩,
   ⟨(some 119), none, (.mv (.t 118))⟩,
   ⟨(some 120), (some (119, true)), (.mv (.t 22))⟩,
   ⟨(some 121), (some (119, true)), (.bin .eql .num (.t 120) (.c (.int .i64 0)))⟩,
   ⟨(some 122), none, (.pick (.t 119) (.t 121) (.c (.bool false)))⟩])
 (.cond (.t 122)
 (.reg [⟨(some 123), none, (.mv (.t 26))⟩,
   ⟨(some 22), none, (.mv (.t 123))⟩]) .skip)))))
 (.reg [⟨(some 124), none, (.bin .add .num (.t 102) (.c (.int .i64 1)))⟩,
   ⟨(some 102), none, (.mv (.t 124))⟩]))))
/-- limelight/limelightlaw7.layers -/
def af7 : AFunc := ⟨184, [(.tmp 10)],
 (.seq
 (.reg [⟨(some 8), none, (.box (.t 3))⟩,
   ⟨(some 10), none, (.mv (.c (.bool false)))⟩])
 (.seq
 (.reg [⟨(some 31), none, (.mv (.t 0))⟩,
   ⟨(some 32), none, (.mkIface 9 (.t 31))⟩,
   ⟨(some 33), none, (.mv (.t 1))⟩,
   ⟨(some 34), none, (.mkIface 2 (.t 33))⟩,
   ⟨(some 35), none, (.mv (.t 2))⟩,
   ⟨(some 36), none, (.mkIface 2 (.t 35))⟩,
   ⟨(some 37), none, (.buildSlice 1 [.nilIface] 3 [(0, (1, (.t 32))), (1, (1, (.t 34))), (2, (1, (.t 36)))])⟩,
   ⟨(some 38), none, (.call 9 [(.t 37)])⟩,
   ⟨(some 30), none, (.mv (.t 38))⟩,
   ⟨(some 39), none, (.extract 0 (.t 30))⟩,
   ⟨(some 40), none, (.extract 1 (.t 30))⟩,
   ⟨(some 11), none, (.alloc [(.str []), (.int .u32 0), (.int .i64 0)])⟩,
   ⟨none, none, (.store 3 (.t 11) (.t 39))⟩,
   ⟨(some 12), none, (.mv (.t 40))⟩])
 (.seq
 (.reg [⟨(some 42), none, (.mv (.t 0))⟩,
   ⟨(some 43), none, (.mv (.t 1))⟩,
   ⟨(some 44), none, (.mv (.t 2))⟩,
   ⟨(some 45), none, (.call 16 [(.t 42), (.t 43), (.t 44)])⟩,
   ⟨(some 41), none, (.mv (.t 45))⟩,
   ⟨(some 46), none, (.extract 0 (.t 41))⟩,
   ⟨(some 47), none, (.extract 1 (.t 41))⟩,
   ⟨(some 13), none, (.alloc [(.str []), (.int .u32 0), (.int .i64 0)])⟩,
   ⟨none, none, (.store 3 (.t 13) (.t 46))⟩,
   ⟨(some 14), none, (.mv (.t 47))⟩])
 (.seq
 (.seq
 (.reg [⟨(some 48), none, (.loadN 3 (.t 11))⟩,
   ⟨(some 49), none, (.loadN 3 (.t 13))⟩,
   ⟨(some 50), none, (.bin .neq (.strct [(0, .str), (1, .num), (2, .num)]) (.t 48) (.t 49))⟩,
   ⟨(some 51), none, (.mv (.t 50))⟩,
   ⟨(some 52), (some (51, false)), (.mv (.t 12))⟩,
   ⟨(some 53), (some (51, false)), (.mv (.t 14))⟩,
   ⟨(some 54), (some (51, false)), (.bin .neq .num (.t 52) (.t 53))⟩,
   ⟨(some 55), none, (.pick (.t 51) (.c (.bool true)) (.t 54))⟩])
 (.cond (.t 55)
 (.seq
 (.reg [⟨(some 10), none, (.mv (.c (.bool false)))⟩]) .ret) .skip))
 (.seq
 (.reg [⟨(some 57), none, (.loadN 3 (.t 8))⟩,
   ⟨(some 58), none, (.mkIface 28 (.t 57))⟩,
   ⟨(some 59), none, (.buildSlice 1 [.nilIface] 1 [(0, (1, (.t 58)))])⟩,
   ⟨(some 60), none, (.call 9 [(.t 59)])⟩,
   ⟨(some 56), none, (.mv (.t 60))⟩,
   ⟨(some 61), none, (.extract 0 (.t 56))⟩,
   ⟨(some 62), none, (.extract 1 (.t 56))⟩,
   ⟨(some 15), none, (.alloc [(.str []), (.int .u32 0), (.int .i64 0)])⟩,
   ⟨none, none, (.store 3 (.t 15) (.t 61))⟩,
   ⟨(some 16), none, (.mv (.t 62))⟩])
 (.seq
 (.reg [⟨(some 64), none, (.fieldAddr 0 1 (.t 8))⟩,
   ⟨(some 65), none, (.load1 (.t 64))⟩,
   ⟨(some 66), none, (.fieldAddr 1 1 (.t 8))⟩,
   ⟨(some 67), none, (.load1 (.t 66))⟩,
   ⟨(some 68), none, (.conv (.int .i64) (.t 67))⟩,
   ⟨(some 69), none, (.fieldAddr 2 1 (.t 8))⟩,
   ⟨(some 70), none, (.load1 (.t 69))⟩,
   ⟨(some 71), none, (.call 16 [(.t 65), (.t 68), (.t 70)])⟩,
   ⟨(some 63), none, (.mv (.t 71))⟩,
   ⟨(some 72), none, (.extract 0 (.t 63))⟩,
   ⟨(some 73), none, (.extract 1 (.t 63))⟩,
   ⟨(some 17), none, (.alloc [(.str []), (.int .u32 0), (.int .i64 0)])⟩,
   ⟨none, none, (.store 3 (.t 17) (.t 72))⟩,
   ⟨(some 18), none, (.mv (.t 73))⟩])
 (.seq
 (.seq
 (.reg [⟨(some 74), none, (.loadN 3 (.t 15))⟩,
   ⟨(some 75), none, (.loadN 3 (.t 17))⟩,
   ⟨(some 76), none, (.bin .neq (.strct [(0, .str), (1, .num), (2, .num)]) (.t 74) (.t 75))⟩,
   ⟨(some 77), none, (.mv (.t 76))⟩,
   ⟨(some 78), (some (77, false)), (.mv (.t 16))⟩,
   ⟨(some 79), (some (77, false)), (.mv (.t 18))⟩,
   ⟨(some 80), (some (77, false)), (.bin .neq .num (.t 78) (.t 79))⟩,
   ⟨(some 81), none, (.pick (.t 77) (.c (.bool true)) (.t 80))⟩])
 (.cond (.t 81)
 (.seq
 (.reg [⟨(some 10), none, (.mv (.c (.bool false)))⟩]) .ret) .skip))
 (.seq
 (.reg [⟨(some 83), none, (.mv (.t 4))⟩,
   ⟨(some 84), none, (.mkIface 29 (.t 83))⟩,
   ⟨(some 85), none, (.mv (.t 0))⟩,
   ⟨(some 86), none, (.mkIface 9 (.t 85))⟩,
   ⟨(some 87), none, (.mv (.t 1))⟩,
   ⟨(some 88), none, (.mkIface 2 (.t 87))⟩,
   ⟨(some 89), none, (.mv (.t 2))⟩,
   ⟨(some 90), none, (.mkIface 2 (.t 89))⟩,
   ⟨(some 91), none, (.loadN 3 (.t 8))⟩,
   ⟨(some 92), none, (.mkIface 28 (.t 91))⟩,
   ⟨(some 93), none, (.buildSlice 1 [.nilIface] 5 [(0, (1, (.t 84))), (1, (1, (.t 86))), (2, (1, (.t 88))), (3, (1, (.t 90))), (4, (1, (.t 92)))])⟩,
   ⟨(some 94), none, (.call 8 [(.t 93)])⟩,
   ⟨(some 82), none, (.mv (.t 94))⟩,
   ⟨(some 95), none, (.extract 0 (.t 82))⟩,
   ⟨(some 96), none, (.extract 1 (.t 82))⟩,
   ⟨(some 19), none, (.mv (.t 95))⟩,
   ⟨(some 20), none, (.mv (.t 96))⟩])
 (.seq
 (.reg [⟨(some 97), none, (.buildSlice 3 [(.str []), (.int .u32 0), (.int .i64 0)] 0 [])⟩,
   ⟨(some 98), none, (.mv (.t 4))⟩,
   ⟨(some 99), none, (.append 3 32 (.t 97) (.t 98))⟩,
   ⟨(some 21), none, (.mv (.t 99))⟩])
 (.seq
 (.reg [⟨(some 22), none, (.mv (.c (.int .i64 0)))⟩])
 (.seq
 (.seq
 (.reg [⟨(some 100), none, (.mv (.t 4))⟩,
   ⟨(some 101), none, (.len (.t 100))⟩,
   ⟨(some 102), none, (.mv (.c (.int .i64 0)))⟩])
 (.block 0
 (.loop af7_l2)))
 (.seq
 (.seq
 (.reg [⟨(some 125), none, (.mv (.t 14))⟩,
   ⟨(some 126), none, (.mv (.t 18))⟩,
   ⟨(some 127), none, (.buildSlice 1 [(.int .i64 0)] 2 [(0, (1, (.t 125))), (1, (1, (.t 126)))])⟩,
   ⟨(some 128), none, (.len (.t 127))⟩,
   ⟨(some 129), none, (.mv (.c (.int .i64 0)))⟩])
 (.block 2
 (.loop af7_l1)))
 (.seq
 (.reg [⟨(some 137), none, (.mv (.t 21))⟩,
   ⟨(some 138), none, (.loadN 3 (.t 13))⟩,
   ⟨(some 139), none, (.loadN 3 (.t 17))⟩,
   ⟨(some 140), none, (.buildSlice 3 [(.str []), (.int .u32 0), (.int .i64 0)] 2 [(0, (3, (.t 138))), (3, (3, (.t 139)))])⟩,
   ⟨(some 141), none, (.append 3 32 (.t 137) (.t 140))⟩,
   ⟨(some 21), none, (.mv (.t 141))⟩])
 (.seq
 (.seq
 (.reg [⟨(some 142), none, (.mv (.t 22))⟩,
   ⟨(some 143), none, (.bin .eql .num (.t 142) (.c (.int .i64 0)))⟩,
   ⟨(some 144), none, (.mv (.t 143))⟩,
   ⟨(some 145), (some (144, true)), (.mv (.t 21))⟩,
   ⟨(some 146), (some (144, true)), (.len (.t 145))⟩,
   ⟨(some 147), (some (144, true)), (.bin .gtr .num (.t 146) (.c (.int .i64 3)))⟩,
   ⟨(some 148), none, (.pick (.t 144) (.t 147) (.c (.bool false)))⟩])
 (.cond (.t 148)
 (.reg [⟨(some 22), none, (.mv (.c (.int .i64 3)))⟩]) .skip))
 (.seq
 (.seq
 (.reg [⟨(some 149), none, (.mv (.t 20))⟩,
   ⟨(some 150), none, (.mv (.t 22))⟩,
   ⟨(some 151), none, (.bin .neq .num (.t 149) (.t 150))⟩,
   ⟨(some 152), none, (.mv (.t 151))⟩,
   ⟨(some 153), (some (152, false)), (.mv (.t 22))⟩,
   ⟨(some 154), (some (152, false)), (.bin .neq .num (.t 153) (.c (.int .i64 0)))⟩,
   ⟨(some 155), none, (.pick (.t 152) (.c (.bool true)) (.t 154))⟩])
 (.cond (.t 155)
 (.seq
 (.reg [⟨(some 156), none, (.mv (.t 20))⟩,
   ⟨(some 157), none, (.mv (.t 22))⟩,
   ⟨(some 158), none, (.bin .eql .num (.t 156) (.t 157))⟩,
   ⟨(some 159), none, (.mv (.t 158))⟩,
   ⟨(some 160), (some (159, true)), (.mv (.t 19))⟩,
   ⟨(some 161), (some (159, true)), (.len (.t 160))⟩,
   ⟨(some 162), (some (159, true)), (.bin .eql .num (.t 161) (.c (.int .i64 0)))⟩,
   ⟨(some 163), none, (.pick (.t 159) (.t 162) (.c (.bool false)))⟩,
   ⟨(some 10), none, (.mv (.t 163))⟩]) .ret) .skip))
 (.seq
 (.seq
 (.reg [⟨(some 164), none, (.mv (.t 19))⟩,
   ⟨(some 165), none, (.len (.t 164))⟩,
   ⟨(some 166), none, (.mv (.t 21))⟩,
   ⟨(some 167), none, (.len (.t 166))⟩,
   ⟨(some 168), none, (.bin .neq .num (.t 165) (.t 167))⟩])
 (.cond (.t 168)
 (.seq
 (.reg [⟨(some 10), none, (.mv (.c (.bool false)))⟩]) .ret) .skip))
 (.seq
 (.seq
 (.reg [⟨(some 169), none, (.mv (.t 21))⟩,
   ⟨(some 170), none, (.len (.t 169))⟩,
   ⟨(some 171), none, (.mv (.c (.int .i64 0)))⟩])
 (.block 4
 (.loop af7_l0)))
 (.seq
 (.reg [⟨(some 10), none, (.mv (.c (.bool true)))⟩]) .ret))))))))))))))))))⟩
theorem caf7 : cFunc Try.prog Try.f7 = some af7 := by kernel_rfl
def af8_l0 : AC :=
 (.seq
 (.seq
 (.reg [⟨(some 8), none, (.mv (.t 0))⟩,
   ⟨(some 9), none, (.len (.t 8))⟩,
   ⟨(some 10), none, (.bin .gtr .num (.t 9) (.c (.int .i64 0)))⟩])
 (.cond (.t 10) .skip (.exit 0)))
 (.block 1
 (.seq
 (.reg [⟨(some 12), none, (.mv (.t 0))⟩,
   ⟨(some 13), none, (.call 17 [(.t 12)])⟩,
   ⟨(some 11), none, (.mv (.t 13))⟩,
   ⟨(some 14), none, (.extract 0 (.t 11))⟩,
   ⟨(some 15), none, (.extract 1 (.t 11))⟩,
   ⟨(some 16), none, (.extract 2 (.t 11))⟩,
   ⟨(some 5), none, (.mv (.t 14))⟩,
   ⟨(some 6), none, (.mv (.t 15))⟩,
   ⟨(some 7), none, (.mv (.t 16))⟩])
 (.seq
 (.seq
 (.reg [⟨(some 17), none, (.mv (.t 7))⟩,
   ⟨(some 18), none, (.bin .neq .num (.t 17) (.c (.int .i64 0)))⟩])
 (.cond (.t 18)
 (.seq
 (.reg [⟨(some 19), none, (.mv (.t 7))⟩,
   ⟨(some 2), none, (.mv (.c (.slice none 0 0 none)))⟩,
   ⟨(some 3), none, (.mv (.t 19))⟩]) .ret) .skip))
 (.dreg [⟨(some 20), none, (.mv (.t 4))⟩,
   ⟨(some 21), none, (.mv (.t 5))⟩,
   ⟨(some 22), none, (.append 3 32 (.t 20) (.t 21))⟩,
   ⟨(some 23), none, (.mv (.t 0))⟩,
   ⟨(some 24), none, (.mv (.t 6))⟩,
   ⟨(some 25), none, (.cut 1 (.t 23) (some (.t 24)) none none)⟩,
   ⟨(some 4), none, (.mv (.t 22))⟩,
   ⟨(some 0), none, (.mv (.t 25))⟩] [])))))
/-- limelight/value.Layers -/
def af8 : AFunc := ⟨31, [(.tmp 2), (.tmp 3)],
 (.seq
 (.reg [⟨(some 2), none, (.mv (.c (.slice none 0 0 none)))⟩,
   ⟨(some 3), none, (.mv (.c (.int .i64 0)))⟩])
 (.seq
 (.reg [⟨(some 4), none, (.mv (.c (.slice none 0 0 none)))⟩])
 (.seq
 (.block 0
 (.loop af8_l0))
 (.seq
 (.seq
 (.reg [⟨(some 26), none, (.mv (.t 4))⟩,
   ⟨(some 27), none, (.len (.t 26))⟩,
   ⟨(some 28), none, (.bin .gtr .num (.t 27) (.c (.int .i64 3)))⟩])
 (.cond (.t 28)
 (.seq
 (.reg [⟨(some 2), none, (.mv (.c (.slice none 0 0 none)))⟩,
   ⟨(some 3), none, (.mv (.c (.int .i64 3)))⟩]) .ret) .skip))
 (.seq
 (.reg [⟨(some 29), none, (.mv (.t 4))⟩,
   ⟨(some 30), none, (.call 18 [(.t 29)])⟩,
   ⟨(some 2), none, (.mv (.t 30))⟩,
   ⟨(some 3), none, (.mv (.c (.int .i64 0)))⟩]) .ret)))))⟩
theorem caf8 : cFunc Try.prog Try.f8 = some af8 := by kernel_rfl
/-- limelight/value.Layer -/
def af9 : AFunc := ⟨85, [(.cellN 2 3), (.tmp 3)],
 (.seq
 (.reg [⟨(some 2), none, (.alloc [(.str []), (.int .u32 0), (.int .i64 0)])⟩,
   ⟨(some 3), none, (.mv (.c (.int .i64 0)))⟩])
 (.seq
 (.seq
 (.reg [⟨(some 13), none, (.mv (.t 0))⟩,
   ⟨(some 14), none, (.len (.t 13))⟩,
   ⟨(some 15), none, (.bin .eql .num (.t 14) (.c (.int .i64 1)))⟩])
 (.cond (.t 15)
 (.seq
 (.reg [⟨(some 17), none, (.mv (.t 0))⟩,
   ⟨(some 18), none, (.ixSlice 1 (.t 17) (.c (.int .i64 0)))⟩,
   ⟨(some 19), none, (.load1 (.t 18))⟩,
   ⟨(some 20), none, (.assert 28 (.agg [(.str []), (.int .u32 0), (.int .i64 0)]) true (.t 19))⟩,
   ⟨(some 16), none, (.mv (.t 20))⟩,
   ⟨(some 21), none, (.extract 0 (.t 16))⟩,
   ⟨(some 22), none, (.extract 1 (.t 16))⟩,
   ⟨(some 4), none, (.alloc [(.str []), (.int .u32 0), (.int .i64 0)])⟩,
   ⟨none, none, (.store 3 (.t 4) (.t 21))⟩,
   ⟨(some 5), none, (.mv (.t 22))⟩])
 (.seq
 (.reg [⟨(some 23), none, (.mv (.t 5))⟩])
 (.cond (.t 23)
 (.seq
 (.seq
 (.reg [⟨(some 24), none, (.loadN 3 (.t 4))⟩,
   ⟨(some 25), none, (.call 19 [(.t 24)])⟩,
   ⟨(some 26), none, (.un .not (.t 25))⟩])
 (.cond (.t 26)
 (.seq
 (.reg [⟨(some 27), none, (.build [(.str []), (.int .u32 0), (.int .i64 0)] [])⟩,
   ⟨none, none, (.store 3 (.t 2) (.t 27))⟩,
   ⟨(some 3), none, (.mv (.c (.int .i64 12)))⟩]) .ret) .skip))
 (.seq
 (.reg [⟨(some 28), none, (.loadN 3 (.t 4))⟩,
   ⟨none, none, (.store 3 (.t 2) (.t 28))⟩,
   ⟨(some 3), none, (.mv (.c (.int .i64 0)))⟩]) .ret)) .skip))) .skip))
 (.seq
 (.seq
 (.reg [⟨(some 29), none, (.mv (.t 0))⟩,
   ⟨(some 30), none, (.len (.t 29))⟩,
   ⟨(some 31), none, (.bin .neq .num (.t 30) (.c (.int .i64 3)))⟩])
 (.cond (.t 31)
 (.seq
 (.reg [⟨(some 32), none, (.build [(.str []), (.int .u32 0), (.int .i64 0)] [])⟩,
   ⟨none, none, (.store 3 (.t 2) (.t 32))⟩,
   ⟨(some 3), none, (.mv (.c (.int .i64 1)))⟩]) .ret) .skip))
 (.seq
 (.reg [⟨(some 34), none, (.mv (.t 0))⟩,
   ⟨(some 35), none, (.ixSlice 1 (.t 34) (.c (.int .i64 0)))⟩,
   ⟨(some 36), none, (.load1 (.t 35))⟩,
   ⟨(some 37), none, (.assert 9 (.str []) true (.t 36))⟩,
   ⟨(some 33), none, (.mv (.t 37))⟩,
   ⟨(some 38), none, (.extract 0 (.t 33))⟩,
   ⟨(some 39), none, (.extract 1 (.t 33))⟩,
   ⟨(some 6), none, (.mv (.t 38))⟩,
   ⟨(some 7), none, (.mv (.t 39))⟩])
 (.seq
 (.reg [⟨(some 41), none, (.mv (.t 0))⟩,
   ⟨(some 42), none, (.ixSlice 1 (.t 41) (.c (.int .i64 1)))⟩,
   ⟨(some 43), none, (.load1 (.t 42))⟩,
   ⟨(some 44), none, (.call 20 [(.t 43)])⟩,
   ⟨(some 40), none, (.mv (.t 44))⟩,
   ⟨(some 45), none, (.extract 0 (.t 40))⟩,
   ⟨(some 46), none, (.extract 1 (.t 40))⟩,
   ⟨(some 8), none, (.mv (.t 45))⟩,
   ⟨(some 9), none, (.mv (.t 46))⟩])
 (.seq
 (.reg [⟨(some 48), none, (.mv (.t 0))⟩,
   ⟨(some 49), none, (.ixSlice 1 (.t 48) (.c (.int .i64 2)))⟩,
   ⟨(some 50), none, (.load1 (.t 49))⟩,
   ⟨(some 51), none, (.call 20 [(.t 50)])⟩,
   ⟨(some 47), none, (.mv (.t 51))⟩,
   ⟨(some 52), none, (.extract 0 (.t 47))⟩,
   ⟨(some 53), none, (.extract 1 (.t 47))⟩,
   ⟨(some 10), none, (.mv (.t 52))⟩,
   ⟨(some 11), none, (.mv (.t 53))⟩])
 (.seq
 (.seq
 (.reg [⟨(some 54), none, (.mv (.t 7))⟩,
   ⟨(some 55), none, (.un .not (.t 54))⟩,
   ⟨(some 56), none, (.mv (.t 55))⟩,
   ⟨(some 57), (some (56, false)), (.mv (.t 9))⟩,
   ⟨(some 58), (some (56, false)), (.un .not (.t 57))⟩,
   ⟨(some 59), none, (.pick (.t 56) (.c (.bool true)) (.t 58))⟩,
   ⟨(some 60), none, (.mv (.t 59))⟩,
   ⟨(some 61), (some (60, false)), (.mv (.t 11))⟩,
   ⟨(some 62), (some (60, false)), (.un .not (.t 61))⟩,
   ⟨(some 63), none, (.pick (.t 60) (.c (.bool true)) (.t 62))⟩,
   ⟨(some 64), none, (.mv (.t 63))⟩,
   ⟨(some 65), (some (64, false)), (.mv (.t 8))⟩,
   ⟨(some 66), (some (64, false)), (.bin .lss .num (.t 65) (.c (.int .i64 0)))⟩,
   ⟨(some 67), none, (.pick (.t 64) (.c (.bool true)) (.t 66))⟩,
   ⟨(some 68), none, (.mv (.t 67))⟩,
   ⟨(some 69), (some (68, false)), (.mv (.t 8))⟩,
   ⟨(some 70), (some (68, false)), (.bin .gtr .num (.t 69) (.c (.int .i64 4294967295)))⟩,
   ⟨(some 71), none, (.pick (.t 68) (.c (.bool true)) (.t 70))⟩])
 (.cond (.t 71)
 (.seq
 (.reg [⟨(some 72), none, (.build [(.str []), (.int .u32 0), (.int .i64 0)] [])⟩,
   ⟨none, none, (.store 3 (.t 2) (.t 72))⟩,
   ⟨(some 3), none, (.mv (.c (.int .i64 1)))⟩]) .ret) .skip))
 (.seq
 (.reg [⟨(some 73), none, (.mv (.t 6))⟩,
   ⟨(some 74), none, (.mv (.t 8))⟩,
   ⟨(some 75), none, (.conv (.int .u32) (.t 74))⟩,
   ⟨(some 76), none, (.mv (.t 10))⟩,
   ⟨(some 77), none, (.mn [(.t 76), (.c (.int .i64 8193))])⟩,
   ⟨(some 78), none, (.mx [(.c (.int .i64 0)), (.t 77)])⟩,
   ⟨(some 79), none, (.build [(.str []), (.int .u32 0), (.int .i64 0)] [(0, (1, (.t 73))), (1, (1, (.t 75))), (2, (1, (.t 78)))])⟩,
   ⟨(some 12), none, (.alloc [(.str []), (.int .u32 0), (.int .i64 0)])⟩,
   ⟨none, none, (.store 3 (.t 12) (.t 79))⟩])
 (.seq
 (.seq
 (.reg [⟨(some 80), none, (.loadN 3 (.t 12))⟩,
   ⟨(some 81), none, (.call 19 [(.t 80)])⟩,
   ⟨(some 82), none, (.un .not (.t 81))⟩])
 (.cond (.t 82)
 (.seq
 (.reg [⟨(some 83), none, (.build [(.str []), (.int .u32 0), (.int .i64 0)] [])⟩,
   ⟨none, none, (.store 3 (.t 2) (.t 83))⟩,
   ⟨(some 3), none, (.mv (.c (.int .i64 12)))⟩]) .ret) .skip))
 (.seq
 (.reg [⟨(some 84), none, (.loadN 3 (.t 12))⟩,
   ⟨none, none, (.store 3 (.t 2) (.t 84))⟩,
   ⟨(some 3), none, (.mv (.c (.int .i64 0)))⟩]) .ret))))))))))⟩
theorem caf9 : cFunc Try.prog Try.f9 = some af9 := by kernel_rfl
/-- limelight/limelightlaw7.known -/
def af10 : AFunc := ⟨114, [(.tmp 0)],
 (.seq
 (.reg [⟨(some 0), none, (.mv (.c (.bool false)))⟩])
 (.seq
 (.reg [⟨(some 16), none, (.mkIface 9 (.c (.str [104])))⟩,
   ⟨(some 17), none, (.mkIface 3 (.c (.int .i64 1)))⟩,
   ⟨(some 18), none, (.mkIface 3 (.c (.int .i64 720)))⟩,
   ⟨(some 19), none, (.buildSlice 1 [.nilIface] 3 [(0, (1, (.t 16))), (1, (1, (.t 17))), (2, (1, (.t 18)))])⟩,
   ⟨(some 20), none, (.call 9 [(.t 19)])⟩,
   ⟨(some 15), none, (.mv (.t 20))⟩,
   ⟨(some 21), none, (.extract 0 (.t 15))⟩,
   ⟨(some 22), none, (.extract 1 (.t 15))⟩,
   ⟨(some 1), none, (.alloc [(.str []), (.int .u32 0), (.int .i64 0)])⟩,
   ⟨none, none, (.store 3 (.t 1) (.t 21))⟩,
   ⟨(some 2), none, (.mv (.t 22))⟩])
 (.seq
 (.reg [⟨(some 24), none, (.call 9 [(.c (.slice none 0 0 none))])⟩,
   ⟨(some 23), none, (.mv (.t 24))⟩,
   ⟨(some 25), none, (.extract 0 (.t 23))⟩,
   ⟨(some 26), none, (.extract 1 (.t 23))⟩,
   ⟨(some 3), none, (.alloc [(.str []), (.int .u32 0), (.int .i64 0)])⟩,
   ⟨none, none, (.store 3 (.t 3) (.t 25))⟩,
   ⟨(some 4), none, (.mv (.t 26))⟩])
 (.seq
 (.reg [⟨(some 28), none, (.mkIface 9 (.c (.str [])))⟩,
   ⟨(some 29), none, (.mkIface 3 (.c (.int .i64 1)))⟩,
   ⟨(some 30), none, (.mkIface 3 (.c (.int .i64 720)))⟩,
   ⟨(some 31), none, (.buildSlice 1 [.nilIface] 3 [(0, (1, (.t 28))), (1, (1, (.t 29))), (2, (1, (.t 30)))])⟩,
   ⟨(some 32), none, (.call 9 [(.t 31)])⟩,
   ⟨(some 27), none, (.mv (.t 32))⟩,
   ⟨(some 33), none, (.extract 0 (.t 27))⟩,
   ⟨(some 34), none, (.extract 1 (.t 27))⟩,
   ⟨(some 5), none, (.alloc [(.str []), (.int .u32 0), (.int .i64 0)])⟩,
   ⟨none, none, (.store 3 (.t 5) (.t 33))⟩,
   ⟨(some 6), none, (.mv (.t 34))⟩])
 (.seq
 (.reg [⟨(some 36), none, (.mkIface 9 (.c (.str [228, 184, 150, 97])))⟩,
   ⟨(some 37), none, (.call 20 [(.t 36)])⟩,
   ⟨(some 35), none, (.mv (.t 37))⟩,
   ⟨(some 38), none, (.extract 0 (.t 35))⟩,
   ⟨(some 39), none, (.extract 1 (.t 35))⟩,
   ⟨(some 7), none, (.mv (.t 38))⟩,
   ⟨(some 8), none, (.mv (.t 39))⟩])
 (.seq
 (.reg [⟨(some 41), none, (.mkIface 40 (.c (.float .f64 4609434218613702656)))⟩,
   ⟨(some 42), none, (.call 20 [(.t 41)])⟩,
   ⟨(some 40), none, (.mv (.t 42))⟩,
   ⟨(some 43), none, (.extract 0 (.t 40))⟩,
   ⟨(some 44), none, (.extract 1 (.t 40))⟩,
   ⟨(some 9), none, (.mv (.t 43))⟩,
   ⟨(some 10), none, (.mv (.t 44))⟩])
 (.seq
 (.reg [⟨(some 46), none, (.mkIface 30 (.c (.int .i64 24)))⟩,
   ⟨(some 47), none, (.call 21 [(.t 46)])⟩,
   ⟨(some 45), none, (.mv (.t 47))⟩,
   ⟨(some 48), none, (.extract 0 (.t 45))⟩,
   ⟨(some 49), none, (.extract 1 (.t 45))⟩,
   ⟨(some 11), none, (.mv (.t 48))⟩,
   ⟨(some 12), none, (.mv (.t 49))⟩])
 (.seq
 (.reg [⟨(some 51), none, (.mkIface 9 (.c (.str [97])))⟩,
   ⟨(some 52), none, (.mkIface 3 (.c (.int .i64 1)))⟩,
   ⟨(some 53), none, (.mkIface 3 (.c (.int .i64 10)))⟩,
   ⟨(some 54), none, (.build [(.str []), (.int .u32 0), (.int .i64 0)] [(0, (1, (.c (.str [98])))), (1, (1, (.c (.int .u32 2)))), (2, (1, (.c (.int .i64 20))))])⟩,
   ⟨(some 55), none, (.mkIface 28 (.t 54))⟩,
   ⟨(some 56), none, (.buildSlice 1 [.nilIface] 4 [(0, (1, (.t 51))), (1, (1, (.t 52))), (2, (1, (.t 53))), (3, (1, (.t 55)))])⟩,
   ⟨(some 57), none, (.call 8 [(.t 56)])⟩,
   ⟨(some 50), none, (.mv (.t 57))⟩,
   ⟨(some 58), none, (.extract 0 (.t 50))⟩,
   ⟨(some 59), none, (.extract 1 (.t 50))⟩,
   ⟨(some 13), none, (.mv (.t 58))⟩,
   ⟨(some 14), none, (.mv (.t 59))⟩])
 (.seq
 (.reg [⟨(some 60), none, (.mv (.t 2))⟩,
   ⟨(some 61), none, (.bin .eql .num (.t 60) (.c (.int .i64 0)))⟩,
   ⟨(some 62), none, (.mv (.t 61))⟩,
   ⟨(some 63), (some (62, true)), (.loadN 3 (.t 1))⟩,
   ⟨(some 64), (some (62, true)), (.build [(.str []), (.int .u32 0), (.int .i64 0)] [(0, (1, (.c (.str [104])))), (1, (1, (.c (.int .u32 1)))), (2, (1, (.c (.int .i64 720))))])⟩,
   ⟨(some 65), (some (62, true)), (.bin .eql (.strct [(0, .str), (1, .num), (2, .num)]) (.t 63) (.t 64))⟩,
   ⟨(some 66), none, (.pick (.t 62) (.t 65) (.c (.bool false)))⟩,
   ⟨(some 67), none, (.mv (.t 66))⟩,
   ⟨(some 68), (some (67, true)), (.mv (.t 4))⟩,
   ⟨(some 69), (some (67, true)), (.bin .eql .num (.t 68) (.c (.int .i64 1)))⟩,
   ⟨(some 70), none, (.pick (.t 67) (.t 69) (.c (.bool false)))⟩,
   ⟨(some 71), none, (.mv (.t 70))⟩,
   ⟨(some 72), (some (71, true)), (.mv (.t 6))⟩,
   ⟨(some 73), (some (71, true)), (.bin .eql .num (.t 72) (.c (.int .i64 12)))⟩,
   ⟨(some 74), none, (.pick (.t 71) (.t 73) (.c (.bool false)))⟩,
   ⟨(some 75), none, (.mv (.t 74))⟩,
   ⟨(some 76), (some (75, true)), (.mv (.t 7))⟩,
   ⟨(some 77), (some (75, true)), (.bin .eql .num (.t 76) (.c (.int .i64 2)))⟩,
   ⟨(some 78), none, (.pick (.t 75) (.t 77) (.c (.bool false)))⟩,
   ⟨(some 79), none, (.mv (.t 78))⟩,
   ⟨(some 80), (some (79, true)), (.mv (.t 8))⟩,
   ⟨(some 81), none, (.pick (.t 79) (.t 80) (.c (.bool false)))⟩,
   ⟨(some 82), none, (.mv (.t 81))⟩,
   ⟨(some 83), (some (82, true)), (.mv (.t 10))⟩,
   ⟨(some 84), (some (82, true)), (.un .not (.t 83))⟩,
   ⟨(some 85), none, (.pick (.t 82) (.t 84) (.c (.bool false)))⟩,
   ⟨(some 86), none, (.mv (.t 85))⟩,
   ⟨(some 87), (some (86, true)), (.mv (.t 12))⟩,
   ⟨(some 88), none, (.pick (.t 86) (.t 87) (.c (.bool false)))⟩,
   ⟨(some 89), none, (.mv (.t 88))⟩,
   ⟨(some 90), (some (89, true)), (.mv (.t 11))⟩,
   ⟨(some 91), (some (89, true)), (.bin .eql .str (.t 90) (.c (.str [110, 111, 32, 109, 111, 114, 101, 32, 114, 111, 111, 109])))⟩,
   ⟨(some 92), none, (.pick (.t 89) (.t 91) (.c (.bool false)))⟩,
   ⟨(some 93), none, (.mv (.t 92))⟩,
   ⟨(some 94), (some (93, true)), (.mv (.t 14))⟩,
   ⟨(some 95), (some (93, true)), (.bin .eql .num (.t 94) (.c (.int .i64 0)))⟩,
   ⟨(some 96), none, (.pick (.t 93) (.t 95) (.c (.bool false)))⟩,
   ⟨(some 97), none, (.mv (.t 96))⟩,
   ⟨(some 98), (some (97, true)), (.mv (.t 13))⟩,
   ⟨(some 99), (some (97, true)), (.len (.t 98))⟩,
   ⟨(some 100), (some (97, true)), (.bin .eql .num (.t 99) (.c (.int .i64 2)))⟩,
   ⟨(some 101), none, (.pick (.t 97) (.t 100) (.c (.bool false)))⟩,
   ⟨(some 102), none, (.mv (.t 101))⟩,
   ⟨(some 103), (some (102, true)), (.mv (.t 13))⟩,
   ⟨(some 104), (some (102, true)), (.ixSlice 3 (.t 103) (.c (.int .i64 1)))⟩,
   ⟨(some 105), (some (102, true)), (.fieldAddr 0 1 (.t 104))⟩,
   ⟨(some 106), (some (102, true)), (.load1 (.t 105))⟩,
   ⟨(some 107), (some (102, true)), (.bin .eql .str (.t 106) (.c (.str [98])))⟩,
   ⟨(some 108), none, (.pick (.t 102) (.t 107) (.c (.bool false)))⟩,
   ⟨(some 109), none, (.mv (.t 108))⟩,
   ⟨(some 110), (some (109, true)), (.mkIface 9 (.c (.str [120])))⟩,
   ⟨(some 111), (some (109, true)), (.call 15 [(.t 110)])⟩,
   ⟨(some 112), (some (109, true)), (.bin .eql .str (.t 111) (.c (.str [120])))⟩,
   ⟨(some 113), none, (.pick (.t 109) (.t 112) (.c (.bool false)))⟩,
   ⟨(some 0), none, (.mv (.t 113))⟩]) .ret)))))))))⟩
theorem caf10 : cFunc Try.prog Try.f10 = some af10 := by kernel_rfl
/-- limelight/limelightlaw7.ints -/
def af11 : AFunc := ⟨22, [(.tmp 6)],
 (.seq
 (.reg [⟨(some 6), none, (.mv (.c (.bool false)))⟩])
 (.seq
 (.reg [⟨(some 10), none, (.mv (.t 0))⟩,
   ⟨(some 11), none, (.call 20 [(.t 10)])⟩,
   ⟨(some 9), none, (.mv (.t 11))⟩,
   ⟨(some 12), none, (.extract 0 (.t 9))⟩,
   ⟨(some 13), none, (.extract 1 (.t 9))⟩,
   ⟨(some 7), none, (.mv (.t 12))⟩,
   ⟨(some 8), none, (.mv (.t 13))⟩])
 (.seq
 (.reg [⟨(some 14), none, (.mv (.t 7))⟩,
   ⟨(some 15), none, (.mv (.t 1))⟩,
   ⟨(some 16), none, (.bin .eql .num (.t 14) (.t 15))⟩,
   ⟨(some 17), none, (.mv (.t 16))⟩,
   ⟨(some 18), (some (17, true)), (.mv (.t 8))⟩,
   ⟨(some 19), (some (17, true)), (.mv (.t 2))⟩,
   ⟨(some 20), (some (17, true)), (.bin .eql .bool (.t 18) (.t 19))⟩,
   ⟨(some 21), none, (.pick (.t 17) (.t 20) (.c (.bool false)))⟩,
   ⟨(some 6), none, (.mv (.t 21))⟩]) .ret)))⟩
theorem caf11 : cFunc Try.prog Try.f11 = some af11 := by kernel_rfl
/-- limelight/limelightlaw7.texts -/
def af12 : AFunc := ⟨22, [(.tmp 6)],
 (.seq
 (.reg [⟨(some 6), none, (.mv (.c (.bool false)))⟩])
 (.seq
 (.reg [⟨(some 10), none, (.mv (.t 0))⟩,
   ⟨(some 11), none, (.call 21 [(.t 10)])⟩,
   ⟨(some 9), none, (.mv (.t 11))⟩,
   ⟨(some 12), none, (.extract 0 (.t 9))⟩,
   ⟨(some 13), none, (.extract 1 (.t 9))⟩,
   ⟨(some 7), none, (.mv (.t 12))⟩,
   ⟨(some 8), none, (.mv (.t 13))⟩])
 (.seq
 (.reg [⟨(some 14), none, (.mv (.t 7))⟩,
   ⟨(some 15), none, (.mv (.t 1))⟩,
   ⟨(some 16), none, (.bin .eql .str (.t 14) (.t 15))⟩,
   ⟨(some 17), none, (.mv (.t 16))⟩,
   ⟨(some 18), (some (17, true)), (.mv (.t 8))⟩,
   ⟨(some 19), (some (17, true)), (.mv (.t 2))⟩,
   ⟨(some 20), (some (17, true)), (.bin .eql .bool (.t 18) (.t 19))⟩,
   ⟨(some 21), none, (.pick (.t 17) (.t 20) (.c (.bool false)))⟩,
   ⟨(some 6), none, (.mv (.t 21))⟩]) .ret)))⟩
theorem caf12 : cFunc Try.prog Try.f12 = some af12 := by kernel_rfl
def af13_l0 : AC :=
 (.seq
 (.reg [⟨(some 6), none, (.next (.t 5))⟩,
   ⟨(some 7), none, (.extract 0 (.t 6))⟩])
 (.seq
 (.cond (.t 7) .skip (.exit 0))
 (.block 1
 (.reg [⟨(some 8), none, (.mv (.t 3))⟩,
   ⟨(some 9), none, (.bin .add .num (.t 8) (.c (.int .i64 1)))⟩,
   ⟨(some 3), none, (.mv (.t 9))⟩]))))
/-- limelight/limelightref1.Count -/
def af13 : AFunc := ⟨11, [(.tmp 2)],
 (.seq
 (.reg [⟨(some 2), none, (.mv (.c (.int .i64 0)))⟩])
 (.seq
 (.reg [⟨(some 3), none, (.mv (.c (.int .i64 0)))⟩])
 (.seq
 (.seq
 (.reg [⟨(some 4), none, (.mv (.t 0))⟩,
   ⟨(some 5), none, (.range (.t 4))⟩])
 (.block 0
 (.loop af13_l0)))
 (.seq
 (.reg [⟨(some 10), none, (.mv (.t 3))⟩,
   ⟨(some 2), none, (.mv (.t 10))⟩]) .ret))))⟩
theorem caf13 : cFunc Try.prog Try.f13 = some af13 := by kernel_rfl
def af14_l0 : AC :=
 (.seq
 (.seq
 (.reg [⟨(some 15), none, (.mv (.t 3))⟩,
   ⟨(some 16), none, (.bin .gtr .num (.t 15) (.c (.int .i64 0)))⟩,
   ⟨(some 17), none, (.mv (.t 16))⟩,
   ⟨(some 18), (some (17, false)), (.mv (.t 4))⟩,
   ⟨(some 19), (some (17, false)), (.len (.t 18))⟩,
   ⟨(some 20), (some (17, false)), (.bin .eql .num (.t 19) (.c (.int .i64 0)))⟩,
   ⟨(some 21), none, (.pick (.t 17) (.c (.bool true)) (.t 20))⟩])
 (.cond (.t 21) .skip (.exit 1)))
 (.block 2
 (.seq
 (.reg [⟨(some 22), none, (.mv (.t 3))⟩,
   ⟨(some 23), none, (.bin .rem .num (.t 22) (.c (.int .i64 10)))⟩,
   ⟨(some 24), none, (.bin .add .num (.c (.int .i64 48)) (.t 23))⟩,
   ⟨(some 25), none, (.conv (.int .u8) (.t 24))⟩,
   ⟨(some 26), none, (.buildSlice 1 [(.int .u8 0)] 1 [(0, (1, (.t 25)))])⟩,
   ⟨(some 27), none, (.mv (.t 4))⟩,
   ⟨(some 28), none, (.append 1 1 (.t 26) (.t 27))⟩,
   ⟨(some 4), none, (.mv (.t 28))⟩])
 (.reg [⟨(some 29), none, (.mv (.t 3))⟩,
   ⟨(some 30), none, (.bin .quo .num (.t 29) (.c (.int .i64 10)))⟩,
   ⟨(some 3), none, (.mv (.t 30))⟩]))))
/-- (limelight/api.Errno).Error -/
def af14 : AFunc := ⟨34, [(.tmp 2)],
 (.seq
 (.reg [⟨(some 2), none, (.mv (.c (.str [])))⟩])
 (.seq
 (.seq
 (.reg [⟨(some 5), none, (.mv (.t 0))⟩])
 (.block 0
 (.seq
 (.reg [⟨(some 7), none, (.bin .eql .num (.t 5) (.c (.int .i64 0)))⟩,
   ⟨(some 6), none, (.mv (.t 7))⟩])
 (.cond (.t 6)
 (.seq
 (.reg [⟨(some 2), none, (.mv (.c (.str [110, 111, 32, 101, 114, 114, 111, 114])))⟩]) .ret)
 (.seq
 (.reg [⟨(some 9), none, (.bin .eql .num (.t 5) (.c (.int .i64 1)))⟩,
   ⟨(some 8), none, (.mv (.t 9))⟩])
 (.cond (.t 8)
 (.seq
 (.reg [⟨(some 2), none, (.mv (.c (.str [97, 110, 32, 97, 114, 103, 117, 109, 101, 110, 116, 32, 116, 104, 97, 116, 32, 109, 97, 121, 32, 110, 111, 116, 32, 98, 101])))⟩]) .ret)
 (.seq
 (.reg [⟨(some 11), none, (.bin .eql .num (.t 5) (.c (.int .i64 24)))⟩,
   ⟨(some 10), none, (.mv (.t 11))⟩])
 (.cond (.t 10)
 (.seq
 (.reg [⟨(some 2), none, (.mv (.c (.str [110, 111, 32, 109, 111, 114, 101, 32, 114, 111, 111, 109])))⟩]) .ret) .skip))))))))
 (.seq
 (.reg [⟨(some 12), none, (.mv (.t 0))⟩,
   ⟨(some 3), none, (.mv (.t 12))⟩])
 (.seq
 (.reg [⟨(some 4), none, (.mv (.c (.slice none 0 0 none)))⟩])
 (.seq
 (.seq
 (.reg [⟨(some 13), none, (.mv (.t 3))⟩,
   ⟨(some 14), none, (.bin .lss .num (.t 13) (.c (.int .i64 0)))⟩])
 (.cond (.t 14)
 (.reg [⟨(some 3), none, (.mv (.c (.int .i64 0)))⟩]) .skip))
 (.seq
 (.block 1
 (.loop af14_l0))
 (.seq
 (.reg [⟨(some 31), none, (.mv (.t 4))⟩,
   ⟨(some 32), none, (.conv .bytesStr (.t 31))⟩,
   ⟨(some 33), none, (.bin .add .num (.c (.str [114, 101, 102, 117, 115, 97, 108, 32])) (.t 32))⟩,
   ⟨(some 2), none, (.mv (.t 33))⟩]) .ret)))))))⟩
theorem caf14 : cFunc Try.prog Try.f14 = some af14 := by kernel_rfl
/-- limelight/value.Must -/
def af15 : AFunc := ⟨5, [(.tmp 2)],
 (.seq
 (.reg [⟨(some 2), none, (.mv (.c (.str [])))⟩])
 (.seq
 (.reg [⟨(some 3), none, (.mv (.t 0))⟩,
   ⟨(some 4), none, (.assert 9 (.str []) false (.t 3))⟩,
   ⟨(some 2), none, (.mv (.t 4))⟩]) .ret))⟩
theorem caf15 : cFunc Try.prog Try.f15 = some af15 := by kernel_rfl
/-- limelight/limelightlaw7.layer -/
def af16 : AFunc := ⟨32, [(.cellN 6 3), (.tmp 7)],
 (.seq
 (.reg [⟨(some 6), none, (.alloc [(.str []), (.int .u32 0), (.int .i64 0)])⟩,
   ⟨(some 7), none, (.mv (.c (.int .i64 0)))⟩])
 (.seq
 (.seq
 (.reg [⟨(some 8), none, (.mv (.t 1))⟩,
   ⟨(some 9), none, (.bin .lss .num (.t 8) (.c (.int .i64 0)))⟩,
   ⟨(some 10), none, (.mv (.t 9))⟩,
   ⟨(some 11), (some (10, false)), (.mv (.t 1))⟩,
   ⟨(some 12), (some (10, false)), (.bin .gtr .num (.t 11) (.c (.int .i64 4294967295)))⟩,
   ⟨(some 13), none, (.pick (.t 10) (.c (.bool true)) (.t 12))⟩])
 (.cond (.t 13)
 (.seq
 (.reg [⟨(some 14), none, (.build [(.str []), (.int .u32 0), (.int .i64 0)] [])⟩,
   ⟨none, none, (.store 3 (.t 6) (.t 14))⟩,
   ⟨(some 7), none, (.mv (.c (.int .i64 1)))⟩]) .ret) .skip))
 (.seq
 (.seq
 (.reg [⟨(some 15), none, (.mv (.t 0))⟩,
   ⟨(some 16), none, (.call 22 [(.t 15)])⟩,
   ⟨(some 17), none, (.un .not (.t 16))⟩,
   ⟨(some 18), none, (.mv (.t 17))⟩,
   ⟨(some 19), (some (18, false)), (.mv (.t 2))⟩,
   ⟨(some 20), (some (18, false)), (.bin .lss .num (.t 19) (.c (.int .i64 1)))⟩,
   ⟨(some 21), none, (.pick (.t 18) (.c (.bool true)) (.t 20))⟩,
   ⟨(some 22), none, (.mv (.t 21))⟩,
   ⟨(some 23), (some (22, false)), (.mv (.t 2))⟩,
   ⟨(some 24), (some (22, false)), (.bin .gtr .num (.t 23) (.c (.int .i64 8192)))⟩,
   ⟨(some 25), none, (.pick (.t 22) (.c (.bool true)) (.t 24))⟩])
 (.cond (.t 25)
 (.seq
 (.reg [⟨(some 26), none, (.build [(.str []), (.int .u32 0), (.int .i64 0)] [])⟩,
   ⟨none, none, (.store 3 (.t 6) (.t 26))⟩,
   ⟨(some 7), none, (.mv (.c (.int .i64 12)))⟩]) .ret) .skip))
 (.seq
 (.reg [⟨(some 27), none, (.mv (.t 0))⟩,
   ⟨(some 28), none, (.mv (.t 1))⟩,
   ⟨(some 29), none, (.conv (.int .u32) (.t 28))⟩,
   ⟨(some 30), none, (.mv (.t 2))⟩,
   ⟨(some 31), none, (.build [(.str []), (.int .u32 0), (.int .i64 0)] [(0, (1, (.t 27))), (1, (1, (.t 29))), (2, (1, (.t 30)))])⟩,
   ⟨none, none, (.store 3 (.t 6) (.t 31))⟩,
   ⟨(some 7), none, (.mv (.c (.int .i64 0)))⟩]) .ret))))⟩
theorem caf16 : cFunc Try.prog Try.f16 = some af16 := by kernel_rfl
/-- limelight/value.next -/
def af17 : AFunc := ⟨48, [(.tmp 2), (.tmp 3), (.tmp 4)],
 (.seq
 (.reg [⟨(some 2), none, (.mv (.c (.slice none 0 0 none)))⟩,
   ⟨(some 3), none, (.mv (.c (.int .i64 0)))⟩,
   ⟨(some 4), none, (.mv (.c (.int .i64 0)))⟩])
 (.seq
 (.seq
 (.reg [⟨(some 12), none, (.mv (.t 0))⟩,
   ⟨(some 13), none, (.ixSlice 1 (.t 12) (.c (.int .i64 0)))⟩,
   ⟨(some 14), none, (.load1 (.t 13))⟩])
 (.block 0
 (.seq
 (.reg [⟨(some 15), none, (.assert 29 (.slice none 0 0 none) true (.t 14))⟩,
   ⟨(some 16), none, (.extract 1 (.t 15))⟩,
   ⟨(some 17), none, (.extract 0 (.t 15))⟩])
 (.cond (.t 16)
 (.seq
 (.reg [⟨(some 5), none, (.mv (.t 17))⟩])
 (.seq
 (.seq
 (.reg [⟨(some 18), none, (.mv (.t 5))⟩,
   ⟨(some 19), none, (.call 23 [(.t 18), (.c (.func 24 []))])⟩])
 (.cond (.t 19)
 (.seq
 (.reg [⟨(some 2), none, (.mv (.c (.slice none 0 0 none)))⟩,
   ⟨(some 3), none, (.mv (.c (.int .i64 0)))⟩,
   ⟨(some 4), none, (.mv (.c (.int .i64 12)))⟩]) .ret) .skip))
 (.seq
 (.reg [⟨(some 20), none, (.mv (.t 5))⟩,
   ⟨(some 2), none, (.mv (.t 20))⟩,
   ⟨(some 3), none, (.mv (.c (.int .i64 1)))⟩,
   ⟨(some 4), none, (.mv (.c (.int .i64 0)))⟩]) .ret)))
 (.seq
 (.reg [⟨(some 21), none, (.assert 28 (.agg [(.str []), (.int .u32 0), (.int .i64 0)]) true (.t 14))⟩,
   ⟨(some 22), none, (.extract 1 (.t 21))⟩,
   ⟨(some 23), none, (.extract 0 (.t 21))⟩])
 (.cond (.t 22)
 (.seq
 (.reg [⟨(some 6), none, (.alloc [(.str []), (.int .u32 0), (.int .i64 0)])⟩,
   ⟨none, none, (.store 3 (.t 6) (.t 23))⟩])
 (.seq
 (.reg [⟨(some 25), none, (.loadN 3 (.t 6))⟩,
   ⟨(some 26), none, (.mkIface 28 (.t 25))⟩,
   ⟨(some 27), none, (.buildSlice 1 [.nilIface] 1 [(0, (1, (.t 26)))])⟩,
   ⟨(some 28), none, (.call 9 [(.t 27)])⟩,
   ⟨(some 24), none, (.mv (.t 28))⟩,
   ⟨(some 29), none, (.extract 0 (.t 24))⟩,
   ⟨(some 30), none, (.extract 1 (.t 24))⟩,
   ⟨(some 7), none, (.alloc [(.str []), (.int .u32 0), (.int .i64 0)])⟩,
   ⟨none, none, (.store 3 (.t 7) (.t 29))⟩,
   ⟨(some 8), none, (.mv (.t 30))⟩])
 (.seq
 (.reg [⟨(some 31), none, (.loadN 3 (.t 7))⟩,
   ⟨(some 32), none, (.buildSlice 3 [(.str []), (.int .u32 0), (.int .i64 0)] 1 [(0, (3, (.t 31)))])⟩,
   ⟨(some 33), none, (.mv (.t 8))⟩,
   ⟨(some 2), none, (.mv (.t 32))⟩,
   ⟨(some 3), none, (.mv (.c (.int .i64 1)))⟩,
   ⟨(some 4), none, (.mv (.t 33))⟩]) .ret))) .skip))))))
 (.seq
 (.reg [⟨(some 34), none, (.mv (.t 0))⟩,
   ⟨(some 35), none, (.len (.t 34))⟩,
   ⟨(some 36), none, (.mn [(.c (.int .i64 3)), (.t 35)])⟩,
   ⟨(some 9), none, (.mv (.t 36))⟩])
 (.seq
 (.reg [⟨(some 38), none, (.mv (.t 0))⟩,
   ⟨(some 39), none, (.mv (.t 9))⟩,
   ⟨(some 40), none, (.cut 1 (.t 38) none (some (.t 39)) none)⟩,
   ⟨(some 41), none, (.call 9 [(.t 40)])⟩,
   ⟨(some 37), none, (.mv (.t 41))⟩,
   ⟨(some 42), none, (.extract 0 (.t 37))⟩,
   ⟨(some 43), none, (.extract 1 (.t 37))⟩,
   ⟨(some 10), none, (.alloc [(.str []), (.int .u32 0), (.int .i64 0)])⟩,
   ⟨none, none, (.store 3 (.t 10) (.t 42))⟩,
   ⟨(some 11), none, (.mv (.t 43))⟩])
 (.seq
 (.reg [⟨(some 44), none, (.loadN 3 (.t 10))⟩,
   ⟨(some 45), none, (.buildSlice 3 [(.str []), (.int .u32 0), (.int .i64 0)] 1 [(0, (3, (.t 44)))])⟩,
   ⟨(some 46), none, (.mv (.t 9))⟩,
   ⟨(some 47), none, (.mv (.t 11))⟩,
   ⟨(some 2), none, (.mv (.t 45))⟩,
   ⟨(some 3), none, (.mv (.t 46))⟩,
   ⟨(some 4), none, (.mv (.t 47))⟩]) .ret)))))⟩
theorem caf17 : cFunc Try.prog Try.f17 = some af17 := by kernel_rfl
/-- slices.Clip[[]limelight/api.Layer,limelight/api.Layer] -/
def af18 : AFunc := ⟨9, [(.tmp 2)],
 (.seq
 (.reg [⟨(some 2), none, (.mv (.c (.slice none 0 0 none)))⟩])
 (.seq
 (.reg [⟨(some 3), none, (.mv (.t 0))⟩,
   ⟨(some 4), none, (.mv (.t 0))⟩,
   ⟨(some 5), none, (.len (.t 4))⟩,
   ⟨(some 6), none, (.mv (.t 0))⟩,
   ⟨(some 7), none, (.len (.t 6))⟩,
   ⟨(some 8), none, (.cut 3 (.t 3) none (some (.t 5)) (some (.t 7)))⟩,
   ⟨(some 2), none, (.mv (.t 8))⟩]) .ret))⟩
theorem caf18 : cFunc Try.prog Try.f18 = some af18 := by kernel_rfl
/-- limelight/value.right -/
def af19 : AFunc := ⟨16, [(.tmp 2)],
 (.seq
 (.reg [⟨(some 1), none, (.box (.t 0))⟩,
   ⟨(some 2), none, (.mv (.c (.bool false)))⟩])
 (.seq
 (.reg [⟨(some 3), none, (.fieldAddr 0 1 (.t 1))⟩,
   ⟨(some 4), none, (.load1 (.t 3))⟩,
   ⟨(some 5), none, (.call 25 [(.t 4)])⟩,
   ⟨(some 6), none, (.mv (.t 5))⟩,
   ⟨(some 7), (some (6, true)), (.fieldAddr 2 1 (.t 1))⟩,
   ⟨(some 8), (some (6, true)), (.load1 (.t 7))⟩,
   ⟨(some 9), (some (6, true)), (.bin .geq .num (.t 8) (.c (.int .i64 1)))⟩,
   ⟨(some 10), none, (.pick (.t 6) (.t 9) (.c (.bool false)))⟩,
   ⟨(some 11), none, (.mv (.t 10))⟩,
   ⟨(some 12), (some (11, true)), (.fieldAddr 2 1 (.t 1))⟩,
   ⟨(some 13), (some (11, true)), (.load1 (.t 12))⟩,
   ⟨(some 14), (some (11, true)), (.bin .leq .num (.t 13) (.c (.int .i64 8192)))⟩,
   ⟨(some 15), none, (.pick (.t 11) (.t 14) (.c (.bool false)))⟩,
   ⟨(some 2), none, (.mv (.t 15))⟩]) .ret))⟩
theorem caf19 : cFunc Try.prog Try.f19 = some af19 := by kernel_rfl
/-- limelight/value.Int -/
def af20 : AFunc := ⟨38, [(.tmp 2), (.tmp 3)],
 (.seq
 (.reg [⟨(some 2), none, (.mv (.c (.int .i64 0)))⟩,
   ⟨(some 3), none, (.mv (.c (.bool false)))⟩])
 (.seq
 (.seq
 (.reg [⟨(some 10), none, (.mv (.t 0))⟩])
 (.block 0
 (.seq
 (.reg [⟨(some 11), none, (.assert 3 (.int .i64 0) true (.t 10))⟩,
   ⟨(some 12), none, (.extract 1 (.t 11))⟩,
   ⟨(some 13), none, (.extract 0 (.t 11))⟩])
 (.cond (.t 12)
 (.seq
 (.reg [⟨(some 4), none, (.mv (.t 13))⟩])
 (.seq
 (.reg [⟨(some 14), none, (.mv (.t 4))⟩,
   ⟨(some 2), none, (.mv (.t 14))⟩,
   ⟨(some 3), none, (.mv (.c (.bool true)))⟩]) .ret))
 (.seq
 (.reg [⟨(some 15), none, (.assert 2 (.int .i64 0) true (.t 10))⟩,
   ⟨(some 16), none, (.extract 1 (.t 15))⟩,
   ⟨(some 17), none, (.extract 0 (.t 15))⟩])
 (.cond (.t 16)
 (.seq
 (.reg [⟨(some 5), none, (.mv (.t 17))⟩])
 (.seq
 (.reg [⟨(some 18), none, (.mv (.t 5))⟩,
   ⟨(some 2), none, (.mv (.t 18))⟩,
   ⟨(some 3), none, (.mv (.c (.bool true)))⟩]) .ret))
 (.seq
 (.reg [⟨(some 19), none, (.assert 25 (.int .u32 0) true (.t 10))⟩,
   ⟨(some 20), none, (.extract 1 (.t 19))⟩,
   ⟨(some 21), none, (.extract 0 (.t 19))⟩])
 (.cond (.t 20)
 (.seq
 (.reg [⟨(some 6), none, (.mv (.t 21))⟩])
 (.seq
 (.reg [⟨(some 22), none, (.mv (.t 6))⟩,
   ⟨(some 23), none, (.conv (.int .i64) (.t 22))⟩,
   ⟨(some 2), none, (.mv (.t 23))⟩,
   ⟨(some 3), none, (.mv (.c (.bool true)))⟩]) .ret))
 (.seq
 (.reg [⟨(some 24), none, (.assert 21 (.int .i32 0) true (.t 10))⟩,
   ⟨(some 25), none, (.extract 1 (.t 24))⟩,
   ⟨(some 26), none, (.extract 0 (.t 24))⟩])
 (.cond (.t 25)
 (.seq
 (.reg [⟨(some 7), none, (.mv (.t 26))⟩])
 (.seq
 (.reg [⟨(some 27), none, (.mv (.t 7))⟩,
   ⟨(some 28), none, (.conv (.int .i64) (.t 27))⟩,
   ⟨(some 2), none, (.mv (.t 28))⟩,
   ⟨(some 3), none, (.mv (.c (.bool true)))⟩]) .ret))
 (.seq
 (.reg [⟨(some 29), none, (.assert 9 (.str []) true (.t 10))⟩,
   ⟨(some 30), none, (.extract 1 (.t 29))⟩,
   ⟨(some 31), none, (.extract 0 (.t 29))⟩])
 (.cond (.t 30)
 (.seq
 (.reg [⟨(some 8), none, (.mv (.t 31))⟩])
 (.seq
 (.reg [⟨(some 32), none, (.mv (.t 8))⟩,
   ⟨(some 33), none, (.call 26 [(.t 32)])⟩,
   ⟨(some 2), none, (.mv (.t 33))⟩,
   ⟨(some 3), none, (.mv (.c (.bool true)))⟩]) .ret))
 (.seq
 (.reg [⟨(some 34), none, (.assert 4 (.bool false) true (.t 10))⟩,
   ⟨(some 35), none, (.extract 1 (.t 34))⟩,
   ⟨(some 36), none, (.extract 0 (.t 34))⟩])
 (.cond (.t 35)
 (.seq
 (.reg [⟨(some 9), none, (.mv (.t 36))⟩])
 (.seq
 (.seq
 (.reg [⟨(some 37), none, (.mv (.t 9))⟩])
 (.cond (.t 37)
 (.seq
 (.reg [⟨(some 2), none, (.mv (.c (.int .i64 1)))⟩,
   ⟨(some 3), none, (.mv (.c (.bool true)))⟩]) .ret) .skip))
 (.seq
 (.reg [⟨(some 2), none, (.mv (.c (.int .i64 0)))⟩,
   ⟨(some 3), none, (.mv (.c (.bool true)))⟩]) .ret))) .skip))))))))))))))
 (.seq
 (.reg [⟨(some 2), none, (.mv (.c (.int .i64 0)))⟩,
   ⟨(some 3), none, (.mv (.c (.bool false)))⟩]) .ret)))⟩
theorem caf20 : cFunc Try.prog Try.f20 = some af20 := by kernel_rfl
/-- limelight/value.Text -/
def af21 : AFunc := ⟨33, [(.tmp 2), (.tmp 3)],
 (.seq
 (.reg [⟨(some 2), none, (.mv (.c (.str [])))⟩,
   ⟨(some 3), none, (.mv (.c (.bool false)))⟩])
 (.seq
 (.seq
 (.reg [⟨(some 11), none, (.mv (.t 0))⟩,
   ⟨(some 12), none, (.assert 9 (.str []) true (.t 11))⟩,
   ⟨(some 10), none, (.mv (.t 12))⟩,
   ⟨(some 13), none, (.extract 0 (.t 10))⟩,
   ⟨(some 14), none, (.extract 1 (.t 10))⟩,
   ⟨(some 4), none, (.mv (.t 13))⟩,
   ⟨(some 5), none, (.mv (.t 14))⟩])
 (.seq
 (.reg [⟨(some 15), none, (.mv (.t 5))⟩])
 (.cond (.t 15)
 (.seq
 (.reg [⟨(some 16), none, (.mv (.t 4))⟩,
   ⟨(some 2), none, (.mv (.t 16))⟩,
   ⟨(some 3), none, (.mv (.c (.bool true)))⟩]) .ret) .skip)))
 (.seq
 (.seq
 (.reg [⟨(some 18), none, (.mv (.t 0))⟩,
   ⟨(some 19), none, (.assert 45 (.slice none 0 0 none) true (.t 18))⟩,
   ⟨(some 17), none, (.mv (.t 19))⟩,
   ⟨(some 20), none, (.extract 0 (.t 17))⟩,
   ⟨(some 21), none, (.extract 1 (.t 17))⟩,
   ⟨(some 6), none, (.mv (.t 20))⟩,
   ⟨(some 7), none, (.mv (.t 21))⟩])
 (.seq
 (.reg [⟨(some 22), none, (.mv (.t 7))⟩])
 (.cond (.t 22)
 (.seq
 (.reg [⟨(some 23), none, (.mv (.t 6))⟩,
   ⟨(some 24), none, (.conv .bytesStr (.t 23))⟩,
   ⟨(some 2), none, (.mv (.t 24))⟩,
   ⟨(some 3), none, (.mv (.c (.bool true)))⟩]) .ret) .skip)))
 (.seq
 (.seq
 (.reg [⟨(some 26), none, (.mv (.t 0))⟩,
   ⟨(some 27), none, (.assertI [8, 10, 11, 14, 15, 16, 19, 30] [0, 1, 2, 3, 4, 5, 6, 7, 9, 12, 13, 17, 18, 20, 21, 22, 23, 24, 25, 26, 27, 28, 29, 31, 32, 33, 34, 35, 36, 37, 38, 39, 40, 41, 42, 43, 44, 45, 46, 47, 48, 49, 50, 51, 52, 53, 54, 55, 56, 57, 58, 59, 60, 61, 62, 63, 64, 65, 66, 67, 68, 69, 70, 71, 72, 73, 74, 75, 76, 77, 78, 79, 80, 81, 82, 83, 84] true (.t 26))⟩,
   ⟨(some 25), none, (.mv (.t 27))⟩,
   ⟨(some 28), none, (.extract 0 (.t 25))⟩,
   ⟨(some 29), none, (.extract 1 (.t 25))⟩,
   ⟨(some 8), none, (.mv (.t 28))⟩,
   ⟨(some 9), none, (.mv (.t 29))⟩])
 (.seq
 (.reg [⟨(some 30), none, (.mv (.t 9))⟩])
 (.cond (.t 30)
 (.seq
 (.reg [⟨(some 31), none, (.mv (.t 8))⟩,
   ⟨(some 32), none, (.invoke "Error" [(8, 30), (10, 32), (11, 34), (14, 36), (15, 38), (16, 40), (19, 43), (30, 14)] (.t 31) [])⟩,
   ⟨(some 2), none, (.mv (.t 32))⟩,
   ⟨(some 3), none, (.mv (.c (.bool true)))⟩]) .ret) .skip)))
 (.seq
 (.reg [⟨(some 2), none, (.mv (.c (.str [])))⟩,
   ⟨(some 3), none, (.mv (.c (.bool false)))⟩]) .ret)))))⟩
theorem caf21 : cFunc Try.prog Try.f21 = some af21 := by kernel_rfl
def af22_l0 : AC :=
 (.seq
 (.reg [⟨(some 7), none, (.next (.t 6))⟩,
   ⟨(some 8), none, (.extract 0 (.t 7))⟩])
 (.seq
 (.cond (.t 8) .skip (.exit 0))
 (.block 1
 (.seq
 (.reg [⟨(some 9), none, (.extract 2 (.t 7))⟩,
   ⟨(some 4), none, (.mv (.t 9))⟩])
 (.seq
 (.reg [⟨(some 10), none, (.mv (.t 4))⟩,
   ⟨(some 11), none, (.call 27 [(.t 10)])⟩,
   ⟨(some 12), none, (.un .not (.t 11))⟩])
 (.cond (.t 12)
 (.seq
 (.reg [⟨(some 2), none, (.mv (.c (.bool false)))⟩]) .ret) .skip))))))
/-- limelight/limelightref1.Rid -/
def af22 : AFunc := ⟨21, [(.tmp 2)],
 (.seq
 (.reg [⟨(some 2), none, (.mv (.c (.bool false)))⟩])
 (.seq
 (.seq
 (.reg [⟨(some 5), none, (.mv (.t 0))⟩,
   ⟨(some 6), none, (.range (.t 5))⟩])
 (.block 0
 (.loop af22_l0)))
 (.seq
 (.reg [⟨(some 13), none, (.mv (.t 0))⟩,
   ⟨(some 14), none, (.call 13 [(.t 13)])⟩,
   ⟨(some 15), none, (.bin .geq .num (.t 14) (.c (.int .i64 1)))⟩,
   ⟨(some 16), none, (.mv (.t 15))⟩,
   ⟨(some 17), (some (16, true)), (.mv (.t 0))⟩,
   ⟨(some 18), (some (16, true)), (.call 13 [(.t 17)])⟩,
   ⟨(some 19), (some (16, true)), (.bin .leq .num (.t 18) (.c (.int .i64 8)))⟩,
   ⟨(some 20), none, (.pick (.t 16) (.t 19) (.c (.bool false)))⟩,
   ⟨(some 2), none, (.mv (.t 20))⟩]) .ret)))⟩
theorem caf22 : cFunc Try.prog Try.f22 = some af22 := by kernel_rfl
/-- slices.ContainsFunc[[]limelight/api.Layer,limelight/api.Layer] -/
def af23 : AFunc := ⟨9, [(.tmp 4)],
 (.seq
 (.reg [⟨(some 4), none, (.mv (.c (.bool false)))⟩])
 (.seq
 (.reg [⟨(some 5), none, (.mv (.t 0))⟩,
   ⟨(some 6), none, (.mv (.t 1))⟩,
   ⟨(some 7), none, (.call 28 [(.t 5), (.t 6)])⟩,
   ⟨(some 8), none, (.bin .geq .num (.t 7) (.c (.int .i64 0)))⟩,
   ⟨(some 4), none, (.mv (.t 8))⟩]) .ret))⟩
theorem caf23 : cFunc Try.prog Try.f23 = some af23 := by kernel_rfl
/-- limelight/value.next$1 -/
def af24 : AFunc := ⟨6, [(.tmp 2)],
 (.seq
 (.reg [⟨(some 1), none, (.box (.t 0))⟩,
   ⟨(some 2), none, (.mv (.c (.bool false)))⟩])
 (.seq
 (.reg [⟨(some 3), none, (.loadN 3 (.t 1))⟩,
   ⟨(some 4), none, (.call 19 [(.t 3)])⟩,
   ⟨(some 5), none, (.un .not (.t 4))⟩,
   ⟨(some 2), none, (.mv (.t 5))⟩]) .ret))⟩
theorem caf24 : cFunc Try.prog Try.f24 = some af24 := by kernel_rfl
def af25_l0 : AC :=
 (.seq
 (.reg [⟨(some 8), none, (.next (.t 7))⟩,
   ⟨(some 9), none, (.extract 0 (.t 8))⟩])
 (.seq
 (.cond (.t 9) .skip (.exit 0))
 (.block 1
 (.seq
 (.reg [⟨(some 10), none, (.extract 2 (.t 8))⟩,
   ⟨(some 5), none, (.mv (.t 10))⟩])
 (.seq
 (.reg [⟨(some 11), none, (.mv (.t 3))⟩,
   ⟨(some 12), none, (.bin .add .num (.t 11) (.c (.int .i64 1)))⟩,
   ⟨(some 3), none, (.mv (.t 12))⟩])
 (.seq
 (.reg [⟨(some 13), none, (.mv (.t 5))⟩,
   ⟨(some 14), none, (.call 29 [(.t 13)])⟩,
   ⟨(some 15), none, (.un .not (.t 14))⟩])
 (.cond (.t 15)
 (.seq
 (.reg [⟨(some 2), none, (.mv (.c (.bool false)))⟩]) .ret) .skip)))))))
/-- limelight/rid.Right -/
def af25 : AFunc := ⟨22, [(.tmp 2)],
 (.seq
 (.reg [⟨(some 2), none, (.mv (.c (.bool false)))⟩])
 (.seq
 (.reg [⟨(some 3), none, (.mv (.c (.int .i64 0)))⟩])
 (.seq
 (.seq
 (.reg [⟨(some 6), none, (.mv (.t 0))⟩,
   ⟨(some 7), none, (.range (.t 6))⟩])
 (.block 0
 (.loop af25_l0)))
 (.seq
 (.reg [⟨(some 16), none, (.mv (.t 3))⟩,
   ⟨(some 17), none, (.bin .geq .num (.t 16) (.c (.int .i64 1)))⟩,
   ⟨(some 18), none, (.mv (.t 17))⟩,
   ⟨(some 19), (some (18, true)), (.mv (.t 3))⟩,
   ⟨(some 20), (some (18, true)), (.bin .leq .num (.t 19) (.c (.int .i64 8)))⟩,
   ⟨(some 21), none, (.pick (.t 18) (.t 20) (.c (.bool false)))⟩,
   ⟨(some 2), none, (.mv (.t 21))⟩]) .ret))))⟩
theorem caf25 : cFunc Try.prog Try.f25 = some af25 := by kernel_rfl
def af26_l0 : AC :=
 (.seq
 (.reg [⟨(some 6), none, (.next (.t 5))⟩,
   ⟨(some 7), none, (.extract 0 (.t 6))⟩])
 (.seq
 (.cond (.t 7) .skip (.exit 0))
 (.block 1
 (.reg [⟨(some 8), none, (.mv (.t 3))⟩,
   ⟨(some 9), none, (.bin .add .num (.t 8) (.c (.int .i64 1)))⟩,
   ⟨(some 3), none, (.mv (.t 9))⟩]))))
/-- limelight/rid.Count -/
def af26 : AFunc := ⟨11, [(.tmp 2)],
 (.seq
 (.reg [⟨(some 2), none, (.mv (.c (.int .i64 0)))⟩])
 (.seq
 (.reg [⟨(some 3), none, (.mv (.c (.int .i64 0)))⟩])
 (.seq
 (.seq
 (.reg [⟨(some 4), none, (.mv (.t 0))⟩,
   ⟨(some 5), none, (.range (.t 4))⟩])
 (.block 0
 (.loop af26_l0)))
 (.seq
 (.reg [⟨(some 10), none, (.mv (.t 3))⟩,
   ⟨(some 2), none, (.mv (.t 10))⟩]) .ret))))⟩
theorem caf26 : cFunc Try.prog Try.f26 = some af26 := by kernel_rfl
/-- limelight/limelightref1.letter -/
def af27 : AFunc := ⟨33, [(.tmp 2)],
 (.seq
 (.reg [⟨(some 2), none, (.mv (.c (.bool false)))⟩])
 (.seq
 (.reg [⟨(some 3), none, (.mv (.t 0))⟩,
   ⟨(some 4), none, (.bin .geq .num (.t 3) (.c (.int .i32 97)))⟩,
   ⟨(some 5), none, (.mv (.t 4))⟩,
   ⟨(some 6), (some (5, true)), (.mv (.t 0))⟩,
   ⟨(some 7), (some (5, true)), (.bin .leq .num (.t 6) (.c (.int .i32 122)))⟩,
   ⟨(some 8), none, (.pick (.t 5) (.t 7) (.c (.bool false)))⟩,
   ⟨(some 9), none, (.mv (.t 8))⟩,
   ⟨(some 10), (some (9, false)), (.mv (.t 0))⟩,
   ⟨(some 11), (some (9, false)), (.bin .geq .num (.t 10) (.c (.int .i32 65)))⟩,
   ⟨(some 12), (some (9, false)), (.mv (.t 11))⟩,
   ⟨(some 13), (some (12, true)), (.mv (.t 0))⟩,
   ⟨(some 14), (some (12, true)), (.bin .leq .num (.t 13) (.c (.int .i32 90)))⟩,
   ⟨(some 15), (some (9, false)), (.pick (.t 12) (.t 14) (.c (.bool false)))⟩,
   ⟨(some 16), none, (.pick (.t 9) (.c (.bool true)) (.t 15))⟩,
   ⟨(some 17), none, (.mv (.t 16))⟩,
   ⟨(some 18), (some (17, false)), (.mv (.t 0))⟩,
   ⟨(some 19), (some (17, false)), (.bin .geq .num (.t 18) (.c (.int .i32 48)))⟩,
   ⟨(some 20), (some (17, false)), (.mv (.t 19))⟩,
   ⟨(some 21), (some (20, true)), (.mv (.t 0))⟩,
   ⟨(some 22), (some (20, true)), (.bin .leq .num (.t 21) (.c (.int .i32 57)))⟩,
   ⟨(some 23), (some (17, false)), (.pick (.t 20) (.t 22) (.c (.bool false)))⟩,
   ⟨(some 24), none, (.pick (.t 17) (.c (.bool true)) (.t 23))⟩,
   ⟨(some 25), none, (.mv (.t 24))⟩,
   ⟨(some 26), (some (25, false)), (.mv (.t 0))⟩,
   ⟨(some 27), (some (25, false)), (.bin .eql .num (.t 26) (.c (.int .i32 45)))⟩,
   ⟨(some 28), none, (.pick (.t 25) (.c (.bool true)) (.t 27))⟩,
   ⟨(some 29), none, (.mv (.t 28))⟩,
   ⟨(some 30), (some (29, false)), (.mv (.t 0))⟩,
   ⟨(some 31), (some (29, false)), (.bin .eql .num (.t 30) (.c (.int .i32 95)))⟩,
   ⟨(some 32), none, (.pick (.t 29) (.c (.bool true)) (.t 31))⟩,
   ⟨(some 2), none, (.mv (.t 32))⟩]) .ret))⟩
theorem caf27 : cFunc Try.prog Try.f27 = some af27 := by kernel_rfl
def af28_l0 : AC :=
 (.seq
 (.reg [⟨(some 9), none, (.bin .lss .num (.t 8) (.t 7))⟩])
 (.seq
 (.cond (.t 9) .skip (.exit 0))
 (.seq
 (.block 1
 (.seq
 (.reg [⟨(some 10), none, (.mv (.t 8))⟩,
   ⟨(some 5), none, (.mv (.t 10))⟩])
 (.seq
 (.reg [⟨(some 11), none, (.mv (.t 1))⟩,
   ⟨(some 12), none, (.mv (.t 0))⟩,
   ⟨(some 13), none, (.mv (.t 5))⟩,
   ⟨(some 14), none, (.ixSlice 3 (.t 12) (.t 13))⟩,
   ⟨(some 15), none, (.loadN 3 (.t 14))⟩,
   ⟨(some 16), none, (.callV (.t 11) [(.t 15)])⟩])
 (.cond (.t 16)
 (.seq
 (.reg [⟨(some 17), none, (.mv (.t 5))⟩,
   ⟨(some 4), none, (.mv (.t 17))⟩]) .ret) .skip))))
 (.reg [⟨(some 18), none, (.bin .add .num (.t 8) (.c (.int .i64 1)))⟩,
   ⟨(some 8), none, (.mv (.t 18))⟩]))))
/-- slices.IndexFunc[[]limelight/api.Layer,limelight/api.Layer] -/
def af28 : AFunc := ⟨19, [(.tmp 4)],
 (.seq
 (.reg [⟨(some 4), none, (.mv (.c (.int .i64 0)))⟩])
 (.seq
 (.seq
 (.reg [⟨(some 6), none, (.mv (.t 0))⟩,
   ⟨(some 7), none, (.len (.t 6))⟩,
   ⟨(some 8), none, (.mv (.c (.int .i64 0)))⟩])
 (.block 0
 (.loop af28_l0)))
 (.seq
 (.reg [⟨(some 4), none, (.mv (.c (.int .i64 (-1))))⟩]) .ret)))⟩
theorem caf28 : cFunc Try.prog Try.f28 = some af28 := by kernel_rfl
/-- limelight/rid.one -/
def af29 : AFunc := ⟨33, [(.tmp 2)],
 (.seq
 (.reg [⟨(some 2), none, (.mv (.c (.bool false)))⟩])
 (.seq
 (.reg [⟨(some 3), none, (.mv (.t 0))⟩,
   ⟨(some 4), none, (.bin .geq .num (.t 3) (.c (.int .i32 97)))⟩,
   ⟨(some 5), none, (.mv (.t 4))⟩,
   ⟨(some 6), (some (5, true)), (.mv (.t 0))⟩,
   ⟨(some 7), (some (5, true)), (.bin .leq .num (.t 6) (.c (.int .i32 122)))⟩,
   ⟨(some 8), none, (.pick (.t 5) (.t 7) (.c (.bool false)))⟩,
   ⟨(some 9), none, (.mv (.t 8))⟩,
   ⟨(some 10), (some (9, false)), (.mv (.t 0))⟩,
   ⟨(some 11), (some (9, false)), (.bin .geq .num (.t 10) (.c (.int .i32 65)))⟩,
   ⟨(some 12), (some (9, false)), (.mv (.t 11))⟩,
   ⟨(some 13), (some (12, true)), (.mv (.t 0))⟩,
   ⟨(some 14), (some (12, true)), (.bin .leq .num (.t 13) (.c (.int .i32 90)))⟩,
   ⟨(some 15), (some (9, false)), (.pick (.t 12) (.t 14) (.c (.bool false)))⟩,
   ⟨(some 16), none, (.pick (.t 9) (.c (.bool true)) (.t 15))⟩,
   ⟨(some 17), none, (.mv (.t 16))⟩,
   ⟨(some 18), (some (17, false)), (.mv (.t 0))⟩,
   ⟨(some 19), (some (17, false)), (.bin .geq .num (.t 18) (.c (.int .i32 48)))⟩,
   ⟨(some 20), (some (17, false)), (.mv (.t 19))⟩,
   ⟨(some 21), (some (20, true)), (.mv (.t 0))⟩,
   ⟨(some 22), (some (20, true)), (.bin .leq .num (.t 21) (.c (.int .i32 57)))⟩,
   ⟨(some 23), (some (17, false)), (.pick (.t 20) (.t 22) (.c (.bool false)))⟩,
   ⟨(some 24), none, (.pick (.t 17) (.c (.bool true)) (.t 23))⟩,
   ⟨(some 25), none, (.mv (.t 24))⟩,
   ⟨(some 26), (some (25, false)), (.mv (.t 0))⟩,
   ⟨(some 27), (some (25, false)), (.bin .eql .num (.t 26) (.c (.int .i32 45)))⟩,
   ⟨(some 28), none, (.pick (.t 25) (.c (.bool true)) (.t 27))⟩,
   ⟨(some 29), none, (.mv (.t 28))⟩,
   ⟨(some 30), (some (29, false)), (.mv (.t 0))⟩,
   ⟨(some 31), (some (29, false)), (.bin .eql .num (.t 30) (.c (.int .i32 95)))⟩,
   ⟨(some 32), none, (.pick (.t 29) (.c (.bool true)) (.t 31))⟩,
   ⟨(some 2), none, (.mv (.t 32))⟩]) .ret))⟩
theorem caf29 : cFunc Try.prog Try.f29 = some af29 := by kernel_rfl
def AP : Nat → Option AFunc
  | 3 => some af3
  | 4 => some af4
  | 5 => some af5
  | 6 => some af6
  | 7 => some af7
  | 8 => some af8
  | 9 => some af9
  | 10 => some af10
  | 11 => some af11
  | 12 => some af12
  | 13 => some af13
  | 14 => some af14
  | 15 => some af15
  | 16 => some af16
  | 17 => some af17
  | 18 => some af18
  | 19 => some af19
  | 20 => some af20
  | 21 => some af21
  | 22 => some af22
  | 23 => some af23
  | 24 => some af24
  | 25 => some af25
  | 26 => some af26
  | 27 => some af27
  | 28 => some af28
  | 29 => some af29
  | _ => none
theorem apOk : APOk Try.prog AP := by
  intro f af h
  unfold AP at h
  split at h
  · cases h; exact ⟨_, Try.func3, caf3⟩
  · cases h; exact ⟨_, Try.func4, caf4⟩
  · cases h; exact ⟨_, Try.func5, caf5⟩
  · cases h; exact ⟨_, Try.func6, caf6⟩
  · cases h; exact ⟨_, Try.func7, caf7⟩
  · cases h; exact ⟨_, Try.func8, caf8⟩
  · cases h; exact ⟨_, Try.func9, caf9⟩
  · cases h; exact ⟨_, Try.func10, caf10⟩
  · cases h; exact ⟨_, Try.func11, caf11⟩
  · cases h; exact ⟨_, Try.func12, caf12⟩
  · cases h; exact ⟨_, Try.func13, caf13⟩
  · cases h; exact ⟨_, Try.func14, caf14⟩
  · cases h; exact ⟨_, Try.func15, caf15⟩
  · cases h; exact ⟨_, Try.func16, caf16⟩
  · cases h; exact ⟨_, Try.func17, caf17⟩
  · cases h; exact ⟨_, Try.func18, caf18⟩
  · cases h; exact ⟨_, Try.func19, caf19⟩
  · cases h; exact ⟨_, Try.func20, caf20⟩
  · cases h; exact ⟨_, Try.func21, caf21⟩
  · cases h; exact ⟨_, Try.func22, caf22⟩
  · cases h; exact ⟨_, Try.func23, caf23⟩
  · cases h; exact ⟨_, Try.func24, caf24⟩
  · cases h; exact ⟨_, Try.func25, caf25⟩
  · cases h; exact ⟨_, Try.func26, caf26⟩
  · cases h; exact ⟨_, Try.func27, caf27⟩
  · cases h; exact ⟨_, Try.func28, caf28⟩
  · cases h; exact ⟨_, Try.func29, caf29⟩
  · cases h
theorem mixed : Try.prog.follows .mixedOrders = true := by kernel_rfl
end Go.Proofs.YtbfkhnpginlpdaaA
