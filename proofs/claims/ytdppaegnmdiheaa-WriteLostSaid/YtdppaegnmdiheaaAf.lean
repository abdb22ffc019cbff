/- The loaded functions of this seat, their types resolved: printed by a program of this claim; each is held against the loaded one. -/
import Derived.Test.YtdppaegnmdiheaaAeZ
import Derived.Test.YtdppaegnmdiheaaProg
set_option maxRecDepth 100000
namespace Go.Proofs.YtdppaegnmdiheaaA
open Go.RowKit
def af3_l0 : AC :=
 (.seq
 (.seq
 (.reg [⟨(some 22), none, (.mv (.t 12))⟩,
   ⟨(some 23), none, (.mv (.t 1))⟩,
   ⟨(some 24), none, (.len (.t 23))⟩,
   ⟨(some 25), none, (.bin .lss .num (.t 22) (.t 24))⟩,
   ⟨(some 26), none, (.mv (.t 25))⟩,
   ⟨(some 27), (some (26, true)), (.mv (.t 12))⟩,
   ⟨(some 28), (some (26, true)), (.bin .lss .num (.t 27) (.c (.int .i64 120)))⟩,
   ⟨(some 29), none, (.pick (.t 26) (.t 28) (.c (.bool false)))⟩])
 (.cond (.t 29) .skip (.exit 0)))
 (.seq
 (.block 1
 (.seq
 (.reg [⟨(some 32), none, (.mv (.t 1))⟩,
   ⟨(some 33), none, (.mv (.t 12))⟩,
   ⟨(some 34), none, (.ixSlice 5 (.t 32) (.t 33))⟩,
   ⟨(some 35), none, (.loadN 5 (.t 34))⟩,
   ⟨(some 13), none, (.alloc [(.int .i64 0), (.int .i64 0), (.int .i64 0), (.int .u32 0), (.bool false)])⟩,
   ⟨none, none, (.store 5 (.t 13) (.t 35))⟩])
 (.seq
 (.reg [⟨(some 36), none, (.fieldAddr 1 1 (.t 13))⟩,
   ⟨(some 37), none, (.load1 (.t 36))⟩,
   ⟨(some 38), none, (.call 9 [(.t 37), (.c (.int .i64 0)), (.c (.int .i64 1))])⟩,
   ⟨(some 14), none, (.mv (.t 38))⟩])
 (.seq
 (.seq
 (.reg [⟨(some 39), none, (.fieldAddr 0 1 (.t 13))⟩,
   ⟨(some 40), none, (.load1 (.t 39))⟩,
   ⟨(some 41), none, (.bin .and .num (.t 40) (.c (.int .i64 7)))⟩,
   ⟨(some 42), none, (.bin .eql .num (.t 41) (.c (.int .i64 7)))⟩])
 (.cond (.t 42)
 (.seq
 (.seq
 (.reg [⟨(some 43), none, (.mv (.t 5))⟩,
   ⟨(some 44), none, (.call 10 [(.t 43)])⟩,
   ⟨(some 45), none, (.mv (.t 14))⟩,
   ⟨(some 46), none, (.bin .neq .num (.t 44) (.t 45))⟩])
 (.cond (.t 46)
 (.reg [⟨(some 11), none, (.mv (.c (.bool true)))⟩]) .skip))
 (.seq
 (.reg [⟨(some 47), none, (.mv (.t 5))⟩,
   ⟨(some 48), none, (.mv (.t 14))⟩,
   ⟨(some 49), none, (.call 11 [(.t 47), (.t 48)])⟩])
 (.seq
 (.seq
 (.reg [⟨(some 50), none, (.mv (.t 5))⟩,
   ⟨(some 51), none, (.call 10 [(.t 50)])⟩,
   ⟨(some 52), none, (.bin .eql .num (.t 51) (.c (.int .i64 (-1))))⟩])
 (.cond (.t 52)
 (.reg [⟨(some 11), none, (.mv (.c (.bool true)))⟩]) .skip)) (.exit 1)))) .skip))
 (.seq
 (.dreg [⟨(some 53), none, (.mv (.t 6))⟩,
   ⟨(some 54), none, (.bin .add .num (.t 53) (.c (.int .i64 1)))⟩,
   ⟨(some 55), none, (.fieldAddr 2 1 (.t 13))⟩,
   ⟨(some 56), none, (.load1 (.t 55))⟩,
   ⟨(some 57), none, (.bin .and .num (.t 56) (.c (.int .i64 3)))⟩,
   ⟨(some 58), none, (.bin .add .num (.t 54) (.t 57))⟩,
   ⟨(some 59), none, (.mv (.t 7))⟩,
   ⟨(some 60), none, (.fieldAddr 3 1 (.t 13))⟩,
   ⟨(some 61), none, (.load1 (.t 60))⟩,
   ⟨(some 62), none, (.bin .and .num (.t 61) (.c (.int .u32 4095)))⟩,
   ⟨(some 63), none, (.bin .add .num (.t 59) (.t 62))⟩,
   ⟨(some 6), none, (.mv (.t 58))⟩,
   ⟨(some 7), none, (.mv (.t 63))⟩] [])
 (.seq
 (.reg [⟨(some 64), none, (.mv (.t 6))⟩,
   ⟨(some 65), none, (.conv (.int .u16) (.t 64))⟩,
   ⟨(some 66), none, (.mv (.t 7))⟩,
   ⟨(some 67), none, (.mv (.t 12))⟩,
   ⟨(some 68), none, (.conv (.int .u8) (.t 67))⟩,
   ⟨(some 69), none, (.buildSlice 1 [(.int .u8 0)] 1 [(0, (1, (.t 68)))])⟩,
   ⟨(some 70), none, (.build [(.bool false), (.int .i64 0), (.int .u16 0), (.int .u32 0), (.int .u32 0), (.slice none 0 0 none), (.int .u16 0), (.slice none 0 0 none), (.slice none 0 0 none)] [(1, (1, (.c (.int .i64 96)))), (2, (1, (.t 65))), (3, (1, (.t 66))), (4, (1, (.c (.int .u32 4)))), (8, (1, (.t 69)))])⟩,
   ⟨(some 15), none, (.alloc [(.bool false), (.int .i64 0), (.int .u16 0), (.int .u32 0), (.int .u32 0), (.slice none 0 0 none), (.int .u16 0), (.slice none 0 0 none), (.slice none 0 0 none)])⟩,
   ⟨none, none, (.store 9 (.t 15) (.t 70))⟩])
 (.seq
 (.reg [⟨(some 72), none, (.mv (.t 5))⟩,
   ⟨(some 73), none, (.mv (.t 14))⟩,
   ⟨(some 74), none, (.mv (.t 6))⟩,
   ⟨(some 75), none, (.fieldAddr 4 1 (.t 13))⟩,
   ⟨(some 76), none, (.load1 (.t 75))⟩,
   ⟨(some 77), none, (.loadN 9 (.t 15))⟩,
   ⟨(some 78), none, (.call 12 [(.t 72), (.t 73), (.t 74), (.t 76), (.t 77)])⟩,
   ⟨(some 71), none, (.mv (.t 78))⟩,
   ⟨(some 79), none, (.extract 0 (.t 71))⟩,
   ⟨(some 80), none, (.extract 1 (.t 71))⟩,
   ⟨(some 16), none, (.alloc [(.bool false), (.int .i64 0), (.int .u16 0), (.int .u32 0), (.int .u32 0), (.slice none 0 0 none), (.int .u16 0), (.slice none 0 0 none), (.slice none 0 0 none)])⟩,
   ⟨none, none, (.store 9 (.t 16) (.t 79))⟩,
   ⟨(some 17), none, (.mv (.t 80))⟩])
 (.seq
 (.seq
 (.reg [⟨(some 81), none, (.mv (.t 17))⟩,
   ⟨(some 82), none, (.un .not (.t 81))⟩])
 (.cond (.t 82) (.exit 1) .skip))
 (.seq
 (.seq
 (.dreg [⟨(some 83), none, (.mv (.t 11))⟩,
   ⟨(some 84), none, (.mv (.t 83))⟩,
   ⟨(some 85), (some (84, true)), (.fieldAddr 4 1 (.t 13))⟩,
   ⟨(some 86), (some (84, true)), (.load1 (.t 85))⟩,
   ⟨(some 87), (some (84, true)), (.un .not (.t 86))⟩,
   ⟨(some 88), none, (.pick (.t 84) (.t 87) (.c (.bool false)))⟩,
   ⟨(some 89), none, (.mv (.t 88))⟩,
   ⟨(some 90), (some (89, false)), (.fieldAddr 4 1 (.t 16))⟩,
   ⟨(some 91), (some (89, false)), (.load1 (.t 90))⟩,
   ⟨(some 92), (some (89, false)), (.mv (.t 0))⟩,
   ⟨(some 93), (some (89, false)), (.bin .neq .num (.t 91) (.t 92))⟩,
   ⟨(some 94), none, (.pick (.t 89) (.c (.bool true)) (.t 93))⟩,
   ⟨(some 95), none, (.mv (.t 94))⟩,
   ⟨(some 96), (some (95, false)), (.mv (.t 5))⟩,
   ⟨(some 97), (some (95, false)), (.call 13 [(.t 96)])⟩,
   ⟨(some 98), (some (95, false)), (.mv (.t 8))⟩,
   ⟨(some 99), (some (95, false)), (.bin .leq .num (.t 97) (.t 98))⟩,
   ⟨(some 100), none, (.pick (.t 95) (.c (.bool true)) (.t 99))⟩,
   ⟨(some 101), none, (.mv (.t 100))⟩,
   ⟨(some 102), (some (101, false)), (.fieldAddr 2 1 (.t 16))⟩,
   ⟨(some 103), (some (101, false)), (.load1 (.t 102))⟩,
   ⟨(some 104), (some (101, false)), (.mv (.t 5))⟩,
   ⟨(some 105), (some (101, false)), (.call 13 [(.t 104)])⟩,
   ⟨(some 106), (some (101, false)), (.conv (.int .u16) (.t 105))⟩,
   ⟨(some 107), (some (101, false)), (.bin .neq .num (.t 103) (.t 106))⟩,
   ⟨(some 108), none, (.pick (.t 101) (.c (.bool true)) (.t 107))⟩,
   ⟨(some 109), none, (.mv (.t 108))⟩,
   ⟨(some 110), (some (109, false)), (.fieldAddr 8 1 (.t 16))⟩,
   ⟨(some 111), (some (109, false)), (.load1 (.t 110))⟩,
   ⟨(some 112), (some (109, false)), (.conv .bytesStr (.t 111))⟩,
   ⟨(some 113), (some (109, false)), (.fieldAddr 8 1 (.t 15))⟩,
   ⟨(some 114), (some (109, false)), (.load1 (.t 113))⟩,
   ⟨(some 115), (some (109, false)), (.conv .bytesStr (.t 114))⟩,
   ⟨(some 116), (some (109, false)), (.bin .neq .str (.t 112) (.t 115))⟩,
   ⟨(some 117), none, (.pick (.t 109) (.c (.bool true)) (.t 116))⟩] [(20, 23)])
 (.cond (.t 117)
 (.seq
 (.reg [⟨(some 4), none, (.mv (.c (.bool false)))⟩]) .ret) .skip))
 (.seq
 (.seq
 (.reg [⟨(some 118), none, (.mv (.t 11))⟩,
   ⟨(some 119), none, (.mv (.t 118))⟩,
   ⟨(some 120), (some (119, true)), (.mv (.t 5))⟩,
   ⟨(some 121), (some (119, true)), (.call 13 [(.t 120)])⟩,
   ⟨(some 122), (some (119, true)), (.mv (.t 8))⟩,
   ⟨(some 123), (some (119, true)), (.bin .add .num (.t 122) (.c (.int .i64 1)))⟩,
   ⟨(some 124), (some (119, true)), (.bin .neq .num (.t 121) (.t 123))⟩,
   ⟨(some 125), none, (.pick (.t 119) (.t 124) (.c (.bool false)))⟩,
   ⟨(some 126), none, (.mv (.t 125))⟩,
   ⟨(some 127), (some (126, false)), (.mv (.t 11))⟩,
   ⟨(some 128), (some (126, false)), (.un .not (.t 127))⟩,
   ⟨(some 129), (some (126, false)), (.mv (.t 128))⟩,
   ⟨(some 130), (some (129, true)), (.mv (.t 5))⟩,
   ⟨(some 131), (some (129, true)), (.call 13 [(.t 130)])⟩,
   ⟨(some 132), (some (129, true)), (.mv (.t 8))⟩,
   ⟨(some 133), (some (129, true)), (.bin .sub .num (.t 131) (.t 132))⟩,
   ⟨(some 134), (some (129, true)), (.mv (.t 6))⟩,
   ⟨(some 135), (some (129, true)), (.mv (.t 10))⟩,
   ⟨(some 136), (some (129, true)), (.bin .sub .num (.t 134) (.t 135))⟩,
   ⟨(some 137), (some (129, true)), (.bin .neq .num (.t 133) (.t 136))⟩,
   ⟨(some 138), (some (126, false)), (.pick (.t 129) (.t 137) (.c (.bool false)))⟩,
   ⟨(some 139), none, (.pick (.t 126) (.c (.bool true)) (.t 138))⟩,
   ⟨(some 140), none, (.mv (.t 139))⟩,
   ⟨(some 141), (some (140, false)), (.fieldAddr 3 1 (.t 16))⟩,
   ⟨(some 142), (some (140, false)), (.load1 (.t 141))⟩,
   ⟨(some 143), (some (140, false)), (.conv (.int .i64) (.t 142))⟩,
   ⟨(some 144), (some (140, false)), (.mv (.t 9))⟩,
   ⟨(some 145), (some (140, false)), (.bin .lss .num (.t 143) (.t 144))⟩,
   ⟨(some 146), none, (.pick (.t 140) (.c (.bool true)) (.t 145))⟩])
 (.cond (.t 146)
 (.seq
 (.reg [⟨(some 4), none, (.mv (.c (.bool false)))⟩]) .ret) .skip))
 (.dreg [⟨(some 147), none, (.mv (.t 5))⟩,
   ⟨(some 148), none, (.call 13 [(.t 147)])⟩,
   ⟨(some 149), none, (.fieldAddr 3 1 (.t 16))⟩,
   ⟨(some 150), none, (.load1 (.t 149))⟩,
   ⟨(some 151), none, (.conv (.int .i64) (.t 150))⟩,
   ⟨(some 152), none, (.mv (.t 6))⟩,
   ⟨(some 8), none, (.mv (.t 148))⟩,
   ⟨(some 9), none, (.mv (.t 151))⟩,
   ⟨(some 10), none, (.mv (.t 152))⟩,
   ⟨(some 11), none, (.mv (.c (.bool false)))⟩] [(3, 1)])))))))))))
 (.reg [⟨(some 30), none, (.mv (.t 12))⟩,
   ⟨(some 31), none, (.bin .add .num (.t 30) (.c (.int .i64 1)))⟩,
   ⟨(some 12), none, (.mv (.t 31))⟩])))
/-- limelight/limelightlaw21.WriteRises -/
def af3 : AFunc := ⟨154, [(.tmp 4)],
 (.seq
 (.reg [⟨(some 4), none, (.mv (.c (.bool false)))⟩])
 (.seq
 (.reg [⟨(some 18), none, (.mv (.t 0))⟩,
   ⟨(some 19), none, (.call 8 [(.t 18)])⟩,
   ⟨(some 5), none, (.mv (.t 19))⟩])
 (.seq
 (.seq
 (.reg [⟨(some 20), none, (.mv (.t 5))⟩,
   ⟨(some 21), none, (.bin .eql .ptr (.t 20) (.c (.ptr none)))⟩])
 (.cond (.t 21)
 (.seq
 (.reg [⟨(some 4), none, (.mv (.c (.bool false)))⟩]) .ret) .skip))
 (.seq
 (.reg [⟨(some 6), none, (.mv (.c (.int .i64 100)))⟩,
   ⟨(some 7), none, (.mv (.c (.int .u32 5)))⟩])
 (.seq
 (.reg [⟨(some 8), none, (.mv (.c (.int .i64 (-1))))⟩,
   ⟨(some 9), none, (.mv (.c (.int .i64 (-1))))⟩,
   ⟨(some 10), none, (.mv (.c (.int .i64 (-1))))⟩,
   ⟨(some 11), none, (.mv (.c (.bool true)))⟩])
 (.seq
 (.seq
 (.reg [⟨(some 12), none, (.mv (.c (.int .i64 0)))⟩])
 (.block 0
 (.loop af3_l0)))
 (.seq
 (.reg [⟨(some 153), none, (.call 14 [])⟩,
   ⟨(some 4), none, (.mv (.t 153))⟩]) .ret)))))))⟩
theorem caf3 : cFunc Try.prog Try.f3 = some af3 := by kernel_rfl
def af4_l0 : AC :=
 (.seq
 (.seq
 (.reg [⟨(some 23), none, (.mv (.t 12))⟩,
   ⟨(some 24), none, (.mv (.t 1))⟩,
   ⟨(some 25), none, (.len (.t 24))⟩,
   ⟨(some 26), none, (.bin .lss .num (.t 23) (.t 25))⟩,
   ⟨(some 27), none, (.mv (.t 26))⟩,
   ⟨(some 28), (some (27, true)), (.mv (.t 12))⟩,
   ⟨(some 29), (some (27, true)), (.mv (.t 2))⟩,
   ⟨(some 30), (some (27, true)), (.len (.t 29))⟩,
   ⟨(some 31), (some (27, true)), (.bin .lss .num (.t 28) (.t 30))⟩,
   ⟨(some 32), none, (.pick (.t 27) (.t 31) (.c (.bool false)))⟩,
   ⟨(some 33), none, (.mv (.t 32))⟩,
   ⟨(some 34), (some (33, true)), (.mv (.t 12))⟩,
   ⟨(some 35), (some (33, true)), (.bin .lss .num (.t 34) (.c (.int .i64 60)))⟩,
   ⟨(some 36), none, (.pick (.t 33) (.t 35) (.c (.bool false)))⟩])
 (.cond (.t 36) .skip (.exit 0)))
 (.seq
 (.block 1
 (.seq
 (.reg [⟨(some 39), none, (.mv (.t 1))⟩,
   ⟨(some 40), none, (.mv (.t 12))⟩,
   ⟨(some 41), none, (.ixSlice 1 (.t 39) (.t 40))⟩,
   ⟨(some 42), none, (.load1 (.t 41))⟩,
   ⟨(some 43), none, (.call 9 [(.t 42), (.c (.int .i64 (-1))), (.c (.int .i64 2))])⟩,
   ⟨(some 13), none, (.mv (.t 43))⟩])
 (.seq
 (.seq
 (.reg [⟨(some 44), none, (.mv (.t 9))⟩,
   ⟨(some 45), none, (.mv (.t 13))⟩,
   ⟨(some 46), none, (.call 11 [(.t 44), (.t 45)])⟩,
   ⟨(some 47), none, (.mv (.t 13))⟩,
   ⟨(some 48), none, (.mv (.t 10))⟩,
   ⟨(some 49), none, (.bin .neq .num (.t 47) (.t 48))⟩,
   ⟨(some 50), none, (.mv (.t 49))⟩,
   ⟨(some 51), (some (50, true)), (.mv (.t 13))⟩,
   ⟨(some 52), (some (50, true)), (.bin .neq .num (.t 51) (.c (.int .i64 (-1))))⟩,
   ⟨(some 53), none, (.pick (.t 50) (.t 52) (.c (.bool false)))⟩,
   ⟨(some 54), none, (.bin .neq .bool (.t 46) (.t 53))⟩])
 (.cond (.t 54)
 (.seq
 (.reg [⟨(some 8), none, (.mv (.c (.bool false)))⟩]) .ret) .skip))
 (.seq
 (.reg [⟨(some 55), none, (.mv (.t 13))⟩,
   ⟨(some 10), none, (.mv (.t 55))⟩])
 (.seq
 (.reg [⟨(some 56), none, (.mv (.t 2))⟩,
   ⟨(some 57), none, (.mv (.t 12))⟩,
   ⟨(some 58), none, (.ixSlice 1 (.t 56) (.t 57))⟩,
   ⟨(some 59), none, (.load1 (.t 58))⟩,
   ⟨(some 60), none, (.call 9 [(.t 59), (.c (.int .i64 (-1))), (.c (.int .i64 2))])⟩,
   ⟨(some 14), none, (.mv (.t 60))⟩])
 (.seq
 (.reg [⟨(some 61), none, (.mv (.t 11))⟩,
   ⟨(some 62), none, (.bin .add .num (.t 61) (.c (.int .i64 1)))⟩,
   ⟨(some 11), none, (.mv (.t 62))⟩])
 (.seq
 (.reg [⟨(some 64), none, (.mv (.t 9))⟩,
   ⟨(some 65), none, (.mv (.t 14))⟩,
   ⟨(some 66), none, (.mv (.t 11))⟩,
   ⟨(some 67), none, (.mv (.t 12))⟩,
   ⟨(some 68), none, (.conv (.int .u32) (.t 67))⟩,
   ⟨(some 69), none, (.build [(.bool false), (.int .i64 0), (.int .u16 0), (.int .u32 0), (.int .u32 0), (.slice none 0 0 none), (.int .u16 0), (.slice none 0 0 none), (.slice none 0 0 none)] [(1, (1, (.c (.int .i64 9)))), (3, (1, (.t 68)))])⟩,
   ⟨(some 70), none, (.call 12 [(.t 64), (.t 65), (.t 66), (.c (.bool true)), (.t 69)])⟩,
   ⟨(some 63), none, (.mv (.t 70))⟩,
   ⟨(some 71), none, (.extract 0 (.t 63))⟩,
   ⟨(some 72), none, (.extract 1 (.t 63))⟩,
   ⟨(some 15), none, (.alloc [(.bool false), (.int .i64 0), (.int .u16 0), (.int .u32 0), (.int .u32 0), (.slice none 0 0 none), (.int .u16 0), (.slice none 0 0 none), (.slice none 0 0 none)])⟩,
   ⟨none, none, (.store 9 (.t 15) (.t 71))⟩,
   ⟨(some 16), none, (.mv (.t 72))⟩])
 (.seq
 (.reg [⟨(some 73), none, (.mv (.t 16))⟩,
   ⟨(some 74), none, (.mv (.t 14))⟩,
   ⟨(some 75), none, (.mv (.t 10))⟩,
   ⟨(some 76), none, (.bin .eql .num (.t 74) (.t 75))⟩,
   ⟨(some 77), none, (.mv (.t 76))⟩,
   ⟨(some 78), (some (77, true)), (.mv (.t 14))⟩,
   ⟨(some 79), (some (77, true)), (.bin .geq .num (.t 78) (.c (.int .i64 0)))⟩,
   ⟨(some 80), none, (.pick (.t 77) (.t 79) (.c (.bool false)))⟩,
   ⟨(some 81), none, (.bin .neq .bool (.t 73) (.t 80))⟩,
   ⟨(some 82), none, (.mv (.t 81))⟩,
   ⟨(some 83), (some (82, false)), (.mv (.t 9))⟩,
   ⟨(some 84), (some (82, false)), (.call 15 [(.t 83)])⟩,
   ⟨(some 85), (some (82, false)), (.mv (.t 10))⟩,
   ⟨(some 86), (some (82, false)), (.bin .neq .num (.t 84) (.t 85))⟩,
   ⟨(some 87), none, (.pick (.t 82) (.c (.bool true)) (.t 86))⟩,
   ⟨(some 88), none, (.mv (.t 87))⟩,
   ⟨(some 89), (some (88, false)), (.mv (.t 16))⟩,
   ⟨(some 90), (some (88, false)), (.mv (.t 89))⟩,
   ⟨(some 91), (some (90, true)), (.mv (.t 9))⟩,
   ⟨(some 92), (some (90, true)), (.call 10 [(.t 91)])⟩,
   ⟨(some 93), (some (90, true)), (.mv (.t 14))⟩,
   ⟨(some 94), (some (90, true)), (.bin .neq .num (.t 92) (.t 93))⟩,
   ⟨(some 95), (some (88, false)), (.pick (.t 90) (.t 94) (.c (.bool false)))⟩,
   ⟨(some 96), none, (.pick (.t 88) (.c (.bool true)) (.t 95))⟩])
 (.cond (.t 96)
 (.seq
 (.reg [⟨(some 8), none, (.mv (.c (.bool false)))⟩]) .ret) .skip)))))))))
 (.reg [⟨(some 37), none, (.mv (.t 12))⟩,
   ⟨(some 38), none, (.bin .add .num (.t 37) (.c (.int .i64 1)))⟩,
   ⟨(some 12), none, (.mv (.t 38))⟩])))
/-- limelight/limelightlaw21.WriteLayers -/
def af4 : AFunc := ⟨98, [(.tmp 8)],
 (.seq
 (.reg [⟨(some 8), none, (.mv (.c (.bool false)))⟩])
 (.seq
 (.reg [⟨(some 17), none, (.mv (.t 0))⟩,
   ⟨(some 18), none, (.call 8 [(.t 17)])⟩,
   ⟨(some 9), none, (.mv (.t 18))⟩])
 (.seq
 (.seq
 (.reg [⟨(some 19), none, (.mv (.t 9))⟩,
   ⟨(some 20), none, (.bin .eql .ptr (.t 19) (.c (.ptr none)))⟩])
 (.cond (.t 20)
 (.seq
 (.reg [⟨(some 8), none, (.mv (.c (.bool false)))⟩]) .ret) .skip))
 (.seq
 (.reg [⟨(some 10), none, (.mv (.c (.int .i64 (-1))))⟩])
 (.seq
 (.reg [⟨(some 21), none, (.mv (.t 3))⟩,
   ⟨(some 22), none, (.bin .and .num (.t 21) (.c (.int .i64 16777215)))⟩,
   ⟨(some 11), none, (.mv (.t 22))⟩])
 (.seq
 (.seq
 (.reg [⟨(some 12), none, (.mv (.c (.int .i64 0)))⟩])
 (.block 0
 (.loop af4_l0)))
 (.seq
 (.reg [⟨(some 97), none, (.call 14 [])⟩,
   ⟨(some 8), none, (.mv (.t 97))⟩]) .ret)))))))⟩
theorem caf4 : cFunc Try.prog Try.f4 = some af4 := by kernel_rfl
def af5_l0 : AC :=
 (.seq
 (.seq
 (.reg [⟨(some 8), none, (.mv (.t 3))⟩,
   ⟨(some 9), none, (.bin .lss .num (.t 8) (.c (.int .i64 90)))⟩])
 (.cond (.t 9) .skip (.exit 2)))
 (.seq
 (.block 3
 (.reg [⟨(some 12), none, (.mv (.t 2))⟩,
   ⟨(some 13), none, (.mv (.t 3))⟩,
   ⟨(some 14), none, (.mv (.t 3))⟩,
   ⟨(some 15), none, (.bin .mul .num (.t 13) (.t 14))⟩,
   ⟨(some 16), none, (.mv (.t 1))⟩,
   ⟨(some 17), none, (.bin .add .num (.t 15) (.t 16))⟩,
   ⟨(some 18), none, (.bin .rem .num (.t 17) (.c (.int .i64 8)))⟩,
   ⟨(some 19), none, (.mv (.t 3))⟩,
   ⟨(some 20), none, (.bin .quo .num (.t 19) (.c (.int .i64 9)))⟩,
   ⟨(some 21), none, (.mv (.t 1))⟩,
   ⟨(some 22), none, (.bin .add .num (.t 20) (.t 21))⟩,
   ⟨(some 23), none, (.bin .rem .num (.t 22) (.c (.int .i64 4)))⟩,
   ⟨(some 24), none, (.bin .sub .num (.t 23) (.c (.int .i64 1)))⟩,
   ⟨(some 25), none, (.mv (.t 3))⟩,
   ⟨(some 26), none, (.bin .mul .num (.t 25) (.c (.int .i64 2)))⟩,
   ⟨(some 27), none, (.bin .add .num (.c (.int .i64 65500)) (.t 26))⟩,
   ⟨(some 28), none, (.mv (.t 3))⟩,
   ⟨(some 29), none, (.mv (.t 1))⟩,
   ⟨(some 30), none, (.bin .mul .num (.t 28) (.t 29))⟩,
   ⟨(some 31), none, (.bin .rem .num (.t 30) (.c (.int .i64 5)))⟩,
   ⟨(some 32), none, (.bin .sub .num (.t 27) (.t 31))⟩,
   ⟨(some 33), none, (.mv (.t 3))⟩,
   ⟨(some 34), none, (.conv (.int .u32) (.t 33))⟩,
   ⟨(some 35), none, (.mv (.t 1))⟩,
   ⟨(some 36), none, (.bin .mul .num (.t 35) (.c (.int .i64 3000)))⟩,
   ⟨(some 37), none, (.conv (.int .u32) (.t 36))⟩,
   ⟨(some 38), none, (.bin .mul .num (.t 34) (.t 37))⟩,
   ⟨(some 39), none, (.mv (.t 3))⟩,
   ⟨(some 40), none, (.bin .rem .num (.t 39) (.c (.int .i64 7)))⟩,
   ⟨(some 41), none, (.bin .mul .num (.t 40) (.c (.int .i64 9000)))⟩,
   ⟨(some 42), none, (.conv (.int .u32) (.t 41))⟩,
   ⟨(some 43), none, (.bin .sub .num (.t 38) (.t 42))⟩,
   ⟨(some 44), none, (.mv (.t 3))⟩,
   ⟨(some 45), none, (.mv (.t 1))⟩,
   ⟨(some 46), none, (.bin .add .num (.t 44) (.t 45))⟩,
   ⟨(some 47), none, (.bin .rem .num (.t 46) (.c (.int .i64 3)))⟩,
   ⟨(some 48), none, (.bin .eql .num (.t 47) (.c (.int .i64 0)))⟩,
   ⟨(some 49), none, (.build [(.int .i64 0), (.int .i64 0), (.int .i64 0), (.int .u32 0), (.bool false)] [(0, (1, (.t 18))), (1, (1, (.t 24))), (2, (1, (.t 32))), (3, (1, (.t 43))), (4, (1, (.t 48)))])⟩,
   ⟨(some 50), none, (.buildSlice 5 [(.int .i64 0), (.int .i64 0), (.int .i64 0), (.int .u32 0), (.bool false)] 1 [(0, (5, (.t 49)))])⟩,
   ⟨(some 51), none, (.append 5 32 (.t 12) (.t 50))⟩,
   ⟨(some 2), none, (.mv (.t 51))⟩]))
 (.reg [⟨(some 10), none, (.mv (.t 3))⟩,
   ⟨(some 11), none, (.bin .add .num (.t 10) (.c (.int .i64 1)))⟩,
   ⟨(some 3), none, (.mv (.t 11))⟩])))
def af5_l1 : AC :=
 (.seq
 (.seq
 (.reg [⟨(some 4), none, (.mv (.t 1))⟩,
   ⟨(some 5), none, (.bin .lss .num (.t 4) (.c (.int .i64 40)))⟩])
 (.cond (.t 5) .skip (.exit 0)))
 (.seq
 (.block 1
 (.seq
 (.reg [⟨(some 2), none, (.mv (.c (.slice none 0 0 none)))⟩])
 (.seq
 (.seq
 (.reg [⟨(some 3), none, (.mv (.c (.int .i64 0)))⟩])
 (.block 2
 (.loop af5_l0)))
 (.seq
 (.reg [⟨(some 52), none, (.mv (.t 1))⟩,
   ⟨(some 53), none, (.conv (.int .u32) (.t 52))⟩,
   ⟨(some 54), none, (.mv (.t 2))⟩,
   ⟨(some 55), none, (.call 16 [(.t 53), (.t 54)])⟩,
   ⟨(some 56), none, (.un .not (.t 55))⟩])
 (.cond (.t 56)
 (.seq
 (.reg [⟨(some 0), none, (.mv (.c (.bool false)))⟩]) .ret) .skip)))))
 (.reg [⟨(some 6), none, (.mv (.t 1))⟩,
   ⟨(some 7), none, (.bin .add .num (.t 6) (.c (.int .i64 1)))⟩,
   ⟨(some 1), none, (.mv (.t 7))⟩])))
/-- limelight/limelightlaw21.WriteNumbers -/
def af5 : AFunc := ⟨69, [(.tmp 0)],
 (.seq
 (.reg [⟨(some 0), none, (.mv (.c (.bool false)))⟩])
 (.seq
 (.seq
 (.reg [⟨(some 1), none, (.mv (.c (.int .i64 0)))⟩])
 (.block 0
 (.loop af5_l1)))
 (.seq
 (.reg [⟨(some 57), none, (.build [(.int .i64 0), (.int .i64 0), (.int .i64 0), (.int .u32 0), (.bool false)] [(0, (1, (.c (.int .i64 6)))), (1, (1, (.c (.int .i64 2))))])⟩,
   ⟨(some 58), none, (.build [(.int .i64 0), (.int .i64 0), (.int .i64 0), (.int .u32 0), (.bool false)] [(1, (1, (.c (.int .i64 2)))), (2, (1, (.c (.int .i64 (-1))))), (4, (1, (.c (.bool true))))])⟩,
   ⟨(some 59), none, (.build [(.int .i64 0), (.int .i64 0), (.int .i64 0), (.int .u32 0), (.bool false)] [(1, (1, (.c (.int .i64 2)))), (2, (1, (.c (.int .i64 1099511627776)))), (3, (1, (.c (.int .u32 4294967295)))), (4, (1, (.c (.bool true))))])⟩,
   ⟨(some 60), none, (.build [(.int .i64 0), (.int .i64 0), (.int .i64 0), (.int .u32 0), (.bool false)] [(1, (1, (.c (.int .i64 2)))), (2, (1, (.c (.int .i64 1099511627777)))), (3, (1, (.c (.int .u32 5))))])⟩,
   ⟨(some 61), none, (.build [(.int .i64 0), (.int .i64 0), (.int .i64 0), (.int .u32 0), (.bool false)] [(0, (1, (.c (.int .i64 6)))), (1, (1, (.c (.int .i64 (-9)))))])⟩,
   ⟨(some 62), none, (.build [(.int .i64 0), (.int .i64 0), (.int .i64 0), (.int .u32 0), (.bool false)] [(0, (1, (.c (.int .i64 6)))), (1, (1, (.c (.int .i64 0))))])⟩,
   ⟨(some 63), none, (.build [(.int .i64 0), (.int .i64 0), (.int .i64 0), (.int .u32 0), (.bool false)] [(1, (1, (.c (.int .i64 0)))), (2, (1, (.c (.int .i64 3)))), (3, (1, (.c (.int .u32 1)))), (4, (1, (.c (.bool true))))])⟩,
   ⟨(some 64), none, (.buildSlice 5 [(.int .i64 0), (.int .i64 0), (.int .i64 0), (.int .u32 0), (.bool false)] 7 [(0, (5, (.t 57))), (5, (5, (.t 58))), (10, (5, (.t 59))), (15, (5, (.t 60))), (20, (5, (.t 61))), (25, (5, (.t 62))), (30, (5, (.t 63)))])⟩,
   ⟨(some 65), none, (.call 16 [(.c (.int .u32 1)), (.t 64)])⟩,
   ⟨(some 66), none, (.mv (.t 65))⟩,
   ⟨(some 67), (some (66, true)), (.call 14 [])⟩,
   ⟨(some 68), none, (.pick (.t 66) (.t 67) (.c (.bool false)))⟩,
   ⟨(some 0), none, (.mv (.t 68))⟩]) .ret)))⟩
theorem caf5 : cFunc Try.prog Try.f5 = some af5 := by kernel_rfl
def af6_l0 : AC :=
 (.seq
 (.reg [⟨(some 14), none, (.bin .lss .num (.t 13) (.t 12))⟩])
 (.seq
 (.cond (.t 14) .skip (.exit 0))
 (.seq
 (.block 1
 (.seq
 (.reg [⟨(some 15), none, (.mv (.t 13))⟩,
   ⟨(some 9), none, (.mv (.t 15))⟩])
 (.seq
 (.reg [⟨(some 16), none, (.mv (.t 1))⟩,
   ⟨(some 17), none, (.mv (.t 9))⟩,
   ⟨(some 18), none, (.ixSlice 5 (.t 16) (.t 17))⟩,
   ⟨(some 19), none, (.loadN 5 (.t 18))⟩,
   ⟨(some 10), none, (.alloc [(.int .i64 0), (.int .i64 0), (.int .i64 0), (.int .u32 0), (.bool false)])⟩,
   ⟨none, none, (.store 5 (.t 10) (.t 19))⟩])
 (.seq
 (.reg [⟨(some 20), none, (.fieldAddr 2 1 (.t 10))⟩,
   ⟨(some 21), none, (.load1 (.t 20))⟩,
   ⟨(some 22), none, (.bin .and .num (.t 21) (.c (.int .i64 140737488355327)))⟩,
   ⟨(some 23), none, (.fieldAddr 2 1 (.t 10))⟩,
   ⟨none, none, (.store 1 (.t 23) (.t 22))⟩])
 (.seq
 (.reg [⟨(some 24), none, (.mv (.t 6))⟩,
   ⟨(some 25), none, (.loadN 5 (.t 10))⟩,
   ⟨(some 26), none, (.buildSlice 5 [(.int .i64 0), (.int .i64 0), (.int .i64 0), (.int .u32 0), (.bool false)] 1 [(0, (5, (.t 25)))])⟩,
   ⟨(some 27), none, (.append 5 32 (.t 24) (.t 26))⟩,
   ⟨(some 6), none, (.mv (.t 27))⟩])
 (.seq
 (.dreg [⟨(some 28), none, (.mv (.t 7))⟩,
   ⟨(some 29), none, (.fieldAddr 2 1 (.t 10))⟩,
   ⟨(some 30), none, (.load1 (.t 29))⟩,
   ⟨(some 31), none, (.bin .and .num (.t 30) (.c (.int .i64 3)))⟩,
   ⟨(some 32), none, (.bin .add .num (.t 28) (.t 31))⟩,
   ⟨(some 33), none, (.bin .sub .num (.t 32) (.c (.int .i64 1)))⟩,
   ⟨(some 34), none, (.mv (.t 8))⟩,
   ⟨(some 35), none, (.fieldAddr 3 1 (.t 10))⟩,
   ⟨(some 36), none, (.load1 (.t 35))⟩,
   ⟨(some 37), none, (.bin .and .num (.t 36) (.c (.int .u32 16383)))⟩,
   ⟨(some 38), none, (.bin .add .num (.t 34) (.t 37))⟩,
   ⟨(some 39), none, (.bin .sub .num (.t 38) (.c (.int .u32 2048)))⟩,
   ⟨(some 7), none, (.mv (.t 33))⟩,
   ⟨(some 8), none, (.mv (.t 39))⟩] [])
 (.seq
 (.dreg [⟨(some 40), none, (.fieldAddr 0 1 (.t 10))⟩,
   ⟨(some 41), none, (.load1 (.t 40))⟩,
   ⟨(some 42), none, (.call 9 [(.t 41), (.c (.int .i64 0)), (.c (.int .i64 7))])⟩,
   ⟨(some 43), none, (.fieldAddr 1 1 (.t 10))⟩,
   ⟨(some 44), none, (.load1 (.t 43))⟩,
   ⟨(some 45), none, (.call 9 [(.t 44), (.c (.int .i64 (-1))), (.c (.int .i64 2))])⟩,
   ⟨(some 46), none, (.mv (.t 7))⟩,
   ⟨(some 47), none, (.mv (.t 8))⟩,
   ⟨(some 48), none, (.fieldAddr 0 1 (.t 10))⟩,
   ⟨none, none, (.store 1 (.t 48) (.t 42))⟩,
   ⟨(some 49), none, (.fieldAddr 1 1 (.t 10))⟩,
   ⟨none, none, (.store 1 (.t 49) (.t 45))⟩,
   ⟨(some 50), none, (.fieldAddr 2 1 (.t 10))⟩,
   ⟨none, none, (.store 1 (.t 50) (.t 46))⟩,
   ⟨(some 51), none, (.fieldAddr 3 1 (.t 10))⟩,
   ⟨none, none, (.store 1 (.t 51) (.t 47))⟩] [(4, 2)])
 (.reg [⟨(some 52), none, (.mv (.t 5))⟩,
   ⟨(some 53), none, (.loadN 5 (.t 10))⟩,
   ⟨(some 54), none, (.buildSlice 5 [(.int .i64 0), (.int .i64 0), (.int .i64 0), (.int .u32 0), (.bool false)] 1 [(0, (5, (.t 53)))])⟩,
   ⟨(some 55), none, (.append 5 32 (.t 52) (.t 54))⟩,
   ⟨(some 5), none, (.mv (.t 55))⟩]))))))))
 (.reg [⟨(some 56), none, (.bin .add .num (.t 13) (.c (.int .i64 1)))⟩,
   ⟨(some 13), none, (.mv (.t 56))⟩]))))
/-- limelight/limelightlaw21.WritePlays -/
def af6 : AFunc := ⟨68, [(.tmp 4)],
 (.seq
 (.reg [⟨(some 4), none, (.mv (.c (.bool false)))⟩])
 (.seq
 (.reg [⟨(some 5), none, (.mv (.c (.slice none 0 0 none)))⟩,
   ⟨(some 6), none, (.mv (.c (.slice none 0 0 none)))⟩])
 (.seq
 (.reg [⟨(some 7), none, (.mv (.c (.int .i64 60000)))⟩,
   ⟨(some 8), none, (.mv (.c (.int .u32 0)))⟩])
 (.seq
 (.seq
 (.reg [⟨(some 11), none, (.mv (.t 1))⟩,
   ⟨(some 12), none, (.len (.t 11))⟩,
   ⟨(some 13), none, (.mv (.c (.int .i64 0)))⟩])
 (.block 0
 (.loop af6_l0)))
 (.seq
 (.reg [⟨(some 57), none, (.mv (.t 0))⟩,
   ⟨(some 58), none, (.mv (.t 6))⟩,
   ⟨(some 59), none, (.call 16 [(.t 57), (.t 58)])⟩,
   ⟨(some 60), none, (.mv (.t 59))⟩,
   ⟨(some 61), (some (60, true)), (.mv (.t 0))⟩,
   ⟨(some 62), (some (60, true)), (.mv (.t 5))⟩,
   ⟨(some 63), (some (60, true)), (.call 16 [(.t 61), (.t 62)])⟩,
   ⟨(some 64), none, (.pick (.t 60) (.t 63) (.c (.bool false)))⟩,
   ⟨(some 65), none, (.mv (.t 64))⟩,
   ⟨(some 66), (some (65, true)), (.call 14 [])⟩,
   ⟨(some 67), none, (.pick (.t 65) (.t 66) (.c (.bool false)))⟩,
   ⟨(some 4), none, (.mv (.t 67))⟩]) .ret)))))⟩
theorem caf6 : cFunc Try.prog Try.f6 = some af6 := by kernel_rfl
def af7_l0 : AC :=
 (.seq
 (.seq
 (.reg [⟨(some 58), none, (.mv (.t 15))⟩,
   ⟨(some 59), none, (.mv (.t 2))⟩,
   ⟨(some 60), none, (.len (.t 59))⟩,
   ⟨(some 61), none, (.bin .lss .num (.t 58) (.t 60))⟩,
   ⟨(some 62), none, (.mv (.t 61))⟩,
   ⟨(some 63), (some (62, true)), (.mv (.t 15))⟩,
   ⟨(some 64), (some (62, true)), (.bin .lss .num (.t 63) (.c (.int .i64 30)))⟩,
   ⟨(some 65), none, (.pick (.t 62) (.t 64) (.c (.bool false)))⟩])
 (.cond (.t 65) .skip (.exit 2)))
 (.seq
 (.block 3
 (.seq
 (.dreg [⟨(some 69), none, (.mv (.t 7))⟩,
   ⟨(some 70), none, (.mv (.t 15))⟩,
   ⟨(some 71), none, (.bin .mul .num (.c (.int .i64 3)) (.t 70))⟩,
   ⟨(some 72), none, (.bin .add .num (.c (.int .i64 100)) (.t 71))⟩,
   ⟨(some 73), none, (.mv (.t 2))⟩,
   ⟨(some 74), none, (.mv (.t 15))⟩,
   ⟨(some 75), none, (.ixSlice 1 (.t 73) (.t 74))⟩,
   ⟨(some 76), none, (.load1 (.t 75))⟩,
   ⟨(some 77), none, (.loadN 9 (.t 9))⟩,
   ⟨(some 78), none, (.call 12 [(.t 69), (.c (.int .i64 1)), (.t 72), (.t 76), (.t 77)])⟩,
   ⟨(some 68), none, (.mv (.t 78))⟩,
   ⟨(some 79), none, (.extract 0 (.t 68))⟩,
   ⟨(some 80), none, (.extract 1 (.t 68))⟩,
   ⟨(some 16), none, (.alloc [(.bool false), (.int .i64 0), (.int .u16 0), (.int .u32 0), (.int .u32 0), (.slice none 0 0 none), (.int .u16 0), (.slice none 0 0 none), (.slice none 0 0 none)])⟩,
   ⟨none, none, (.store 9 (.t 16) (.t 79))⟩,
   ⟨(some 17), none, (.mv (.t 80))⟩] [(13, 13), (7, 14), (8, 14)])
 (.seq
 (.seq
 (.reg [⟨(some 81), none, (.mv (.t 17))⟩,
   ⟨(some 82), none, (.mv (.t 2))⟩,
   ⟨(some 83), none, (.mv (.t 15))⟩,
   ⟨(some 84), none, (.ixSlice 1 (.t 82) (.t 83))⟩,
   ⟨(some 85), none, (.load1 (.t 84))⟩,
   ⟨(some 86), none, (.mv (.t 85))⟩,
   ⟨(some 87), (some (86, false)), (.mv (.t 13))⟩,
   ⟨(some 88), (some (86, false)), (.un .not (.t 87))⟩,
   ⟨(some 89), none, (.pick (.t 86) (.c (.bool true)) (.t 88))⟩,
   ⟨(some 90), none, (.bin .neq .bool (.t 81) (.t 89))⟩,
   ⟨(some 91), none, (.mv (.t 90))⟩,
   ⟨(some 92), (some (91, false)), (.mv (.t 17))⟩,
   ⟨(some 93), (some (91, false)), (.mv (.t 92))⟩,
   ⟨(some 94), (some (93, true)), (.mv (.t 13))⟩,
   ⟨(some 95), (some (91, false)), (.pick (.t 93) (.t 94) (.c (.bool false)))⟩,
   ⟨(some 96), (some (91, false)), (.mv (.t 95))⟩,
   ⟨(some 97), (some (96, true)), (.mv (.t 7))⟩,
   ⟨(some 98), (some (96, true)), (.call 13 [(.t 97)])⟩,
   ⟨(some 99), (some (96, true)), (.mv (.t 14))⟩,
   ⟨(some 100), (some (96, true)), (.bin .add .num (.t 99) (.c (.int .i64 1)))⟩,
   ⟨(some 101), (some (96, true)), (.bin .neq .num (.t 98) (.t 100))⟩,
   ⟨(some 102), (some (91, false)), (.pick (.t 96) (.t 101) (.c (.bool false)))⟩,
   ⟨(some 103), none, (.pick (.t 91) (.c (.bool true)) (.t 102))⟩,
   ⟨(some 104), none, (.mv (.t 103))⟩,
   ⟨(some 105), (some (104, false)), (.mv (.t 17))⟩,
   ⟨(some 106), (some (104, false)), (.mv (.t 105))⟩,
   ⟨(some 107), (some (106, true)), (.mv (.t 13))⟩,
   ⟨(some 108), (some (106, true)), (.un .not (.t 107))⟩,
   ⟨(some 109), (some (104, false)), (.pick (.t 106) (.t 108) (.c (.bool false)))⟩,
   ⟨(some 110), (some (104, false)), (.mv (.t 109))⟩,
   ⟨(some 111), (some (110, true)), (.mv (.t 7))⟩,
   ⟨(some 112), (some (110, true)), (.call 13 [(.t 111)])⟩,
   ⟨(some 113), (some (110, true)), (.mv (.t 14))⟩,
   ⟨(some 114), (some (110, true)), (.bin .add .num (.t 113) (.c (.int .i64 3)))⟩,
   ⟨(some 115), (some (110, true)), (.bin .neq .num (.t 112) (.t 114))⟩,
   ⟨(some 116), (some (104, false)), (.pick (.t 110) (.t 115) (.c (.bool false)))⟩,
   ⟨(some 117), none, (.pick (.t 104) (.c (.bool true)) (.t 116))⟩])
 (.cond (.t 117)
 (.seq
 (.reg [⟨(some 6), none, (.mv (.c (.bool false)))⟩]) .ret) .skip))
 (.seq
 (.reg [⟨(some 118), none, (.mv (.t 17))⟩])
 (.cond (.t 118)
 (.reg [⟨(some 119), none, (.mv (.t 7))⟩,
   ⟨(some 120), none, (.call 13 [(.t 119)])⟩,
   ⟨(some 14), none, (.mv (.t 120))⟩,
   ⟨(some 13), none, (.mv (.c (.bool false)))⟩]) .skip)))))
 (.reg [⟨(some 66), none, (.mv (.t 15))⟩,
   ⟨(some 67), none, (.bin .add .num (.t 66) (.c (.int .i64 1)))⟩,
   ⟨(some 15), none, (.mv (.t 67))⟩])))
def af7_l1 : AC :=
 (.seq
 (.seq
 (.reg [⟨(some 31), none, (.mv (.t 10))⟩,
   ⟨(some 32), none, (.mv (.t 8))⟩,
   ⟨(some 33), none, (.bin .lss .num (.t 31) (.t 32))⟩])
 (.cond (.t 33) .skip (.exit 0)))
 (.seq
 (.block 1
 (.seq
 (.reg [⟨(some 37), none, (.mv (.t 7))⟩,
   ⟨(some 38), none, (.mv (.t 10))⟩,
   ⟨(some 39), none, (.bin .add .num (.c (.int .i64 50)) (.t 38))⟩,
   ⟨(some 40), none, (.mv (.t 10))⟩,
   ⟨(some 41), none, (.bin .eql .num (.t 40) (.c (.int .i64 0)))⟩,
   ⟨(some 42), none, (.loadN 9 (.t 9))⟩,
   ⟨(some 43), none, (.call 12 [(.t 37), (.c (.int .i64 1)), (.t 39), (.t 41), (.t 42)])⟩,
   ⟨(some 36), none, (.mv (.t 43))⟩,
   ⟨(some 44), none, (.extract 0 (.t 36))⟩,
   ⟨(some 45), none, (.extract 1 (.t 36))⟩,
   ⟨(some 11), none, (.alloc [(.bool false), (.int .i64 0), (.int .u16 0), (.int .u32 0), (.int .u32 0), (.slice none 0 0 none), (.int .u16 0), (.slice none 0 0 none), (.slice none 0 0 none)])⟩,
   ⟨none, none, (.store 9 (.t 11) (.t 44))⟩,
   ⟨(some 12), none, (.mv (.t 45))⟩])
 (.seq
 (.reg [⟨(some 46), none, (.mv (.t 12))⟩,
   ⟨(some 47), none, (.un .not (.t 46))⟩,
   ⟨(some 48), none, (.mv (.t 47))⟩,
   ⟨(some 49), (some (48, false)), (.mv (.t 7))⟩,
   ⟨(some 50), (some (48, false)), (.call 13 [(.t 49)])⟩,
   ⟨(some 51), (some (48, false)), (.mv (.t 10))⟩,
   ⟨(some 52), (some (48, false)), (.bin .neq .num (.t 50) (.t 51))⟩,
   ⟨(some 53), none, (.pick (.t 48) (.c (.bool true)) (.t 52))⟩])
 (.cond (.t 53)
 (.seq
 (.reg [⟨(some 6), none, (.mv (.c (.bool false)))⟩]) .ret) .skip))))
 (.reg [⟨(some 34), none, (.mv (.t 10))⟩,
   ⟨(some 35), none, (.bin .add .num (.t 34) (.c (.int .i64 1)))⟩,
   ⟨(some 10), none, (.mv (.t 35))⟩])))
/-- limelight/limelightlaw21.WriteLost -/
def af7 : AFunc := ⟨135, [(.tmp 6)],
 (.seq
 (.reg [⟨(some 6), none, (.mv (.c (.bool false)))⟩])
 (.seq
 (.reg [⟨(some 18), none, (.mv (.t 0))⟩,
   ⟨(some 19), none, (.call 8 [(.t 18)])⟩,
   ⟨(some 7), none, (.mv (.t 19))⟩])
 (.seq
 (.seq
 (.reg [⟨(some 20), none, (.mv (.t 7))⟩,
   ⟨(some 21), none, (.bin .eql .ptr (.t 20) (.c (.ptr none)))⟩,
   ⟨(some 22), none, (.mv (.t 21))⟩,
   ⟨(some 23), (some (22, false)), (.mv (.t 7))⟩,
   ⟨(some 24), (some (22, false)), (.call 11 [(.t 23), (.c (.int .i64 1))])⟩,
   ⟨(some 25), (some (22, false)), (.un .not (.t 24))⟩,
   ⟨(some 26), none, (.pick (.t 22) (.c (.bool true)) (.t 25))⟩])
 (.cond (.t 26)
 (.seq
 (.reg [⟨(some 6), none, (.mv (.c (.bool false)))⟩]) .ret) .skip))
 (.seq
 (.reg [⟨(some 27), none, (.mv (.t 1))⟩,
   ⟨(some 28), none, (.call 9 [(.t 27), (.c (.int .i64 1)), (.c (.int .i64 20))])⟩,
   ⟨(some 8), none, (.mv (.t 28))⟩])
 (.seq
 (.reg [⟨(some 29), none, (.buildSlice 1 [(.int .u8 0)] 1 [(0, (1, (.c (.int .u8 1))))])⟩,
   ⟨(some 30), none, (.build [(.bool false), (.int .i64 0), (.int .u16 0), (.int .u32 0), (.int .u32 0), (.slice none 0 0 none), (.int .u16 0), (.slice none 0 0 none), (.slice none 0 0 none)] [(1, (1, (.c (.int .i64 96)))), (3, (1, (.c (.int .u32 5)))), (8, (1, (.t 29)))])⟩,
   ⟨(some 9), none, (.alloc [(.bool false), (.int .i64 0), (.int .u16 0), (.int .u32 0), (.int .u32 0), (.slice none 0 0 none), (.int .u16 0), (.slice none 0 0 none), (.slice none 0 0 none)])⟩,
   ⟨none, none, (.store 9 (.t 9) (.t 30))⟩])
 (.seq
 (.seq
 (.reg [⟨(some 10), none, (.mv (.c (.int .i64 0)))⟩])
 (.block 0
 (.loop af7_l1)))
 (.seq
 (.reg [⟨(some 54), none, (.mv (.t 7))⟩,
   ⟨(some 55), none, (.call 17 [(.t 54)])⟩])
 (.seq
 (.reg [⟨(some 13), none, (.mv (.c (.bool true)))⟩])
 (.seq
 (.reg [⟨(some 56), none, (.mv (.t 7))⟩,
   ⟨(some 57), none, (.call 13 [(.t 56)])⟩,
   ⟨(some 14), none, (.mv (.t 57))⟩])
 (.seq
 (.seq
 (.reg [⟨(some 15), none, (.mv (.c (.int .i64 0)))⟩])
 (.block 2
 (.loop af7_l0)))
 (.seq
 (.reg [⟨(some 121), none, (.mv (.t 7))⟩,
   ⟨(some 122), none, (.call 15 [(.t 121)])⟩,
   ⟨(some 123), none, (.bin .eql .num (.t 122) (.c (.int .i64 1)))⟩,
   ⟨(some 124), none, (.mv (.t 123))⟩,
   ⟨(some 125), (some (124, true)), (.mv (.t 7))⟩,
   ⟨(some 126), (some (124, true)), (.call 10 [(.t 125)])⟩,
   ⟨(some 127), (some (124, true)), (.bin .eql .num (.t 126) (.c (.int .i64 1)))⟩,
   ⟨(some 128), (some (124, true)), (.mv (.t 13))⟩,
   ⟨(some 129), (some (124, true)), (.un .not (.t 128))⟩,
   ⟨(some 130), (some (124, true)), (.bin .eql .bool (.t 127) (.t 129))⟩,
   ⟨(some 131), none, (.pick (.t 124) (.t 130) (.c (.bool false)))⟩,
   ⟨(some 132), none, (.mv (.t 131))⟩,
   ⟨(some 133), (some (132, true)), (.call 14 [])⟩,
   ⟨(some 134), none, (.pick (.t 132) (.t 133) (.c (.bool false)))⟩,
   ⟨(some 6), none, (.mv (.t 134))⟩]) .ret)))))))))))⟩
theorem caf7 : cFunc Try.prog Try.f7 = some af7 := by kernel_rfl
/-- limelight/write.New -/
def af8 : AFunc := ⟨6, [(.tmp 2)],
 (.seq
 (.reg [⟨(some 2), none, (.mv (.c (.ptr none)))⟩])
 (.seq
 (.reg [⟨(some 3), none, (.mv (.t 0))⟩,
   ⟨(some 4), none, (.build [(.int .u32 0), (.int .i64 0), (.int .i64 0), (.int .i64 0), (.int .i64 0), (.int .i64 0), (.int .i64 0), (.int .i64 0), (.int .i64 0)] [(0, (1, (.t 3))), (1, (1, (.c (.int .i64 (-1))))), (2, (1, (.c (.int .i64 (-1))))), (4, (1, (.c (.int .i64 (-1)))))])⟩,
   ⟨(some 5), none, (.box (.t 4))⟩,
   ⟨(some 2), none, (.mv (.t 5))⟩]) .ret))⟩
theorem caf8 : cFunc Try.prog Try.f8 = some af8 := by kernel_rfl
/-- limelight/limelightbook.Within -/
def af9 : AFunc := ⟨33, [(.tmp 6)],
 (.seq
 (.reg [⟨(some 6), none, (.mv (.c (.int .i64 0)))⟩])
 (.seq
 (.seq
 (.reg [⟨(some 7), none, (.mv (.t 0))⟩,
   ⟨(some 8), none, (.mv (.t 1))⟩,
   ⟨(some 9), none, (.bin .geq .num (.t 7) (.t 8))⟩,
   ⟨(some 10), none, (.mv (.t 9))⟩,
   ⟨(some 11), (some (10, true)), (.mv (.t 0))⟩,
   ⟨(some 12), (some (10, true)), (.mv (.t 2))⟩,
   ⟨(some 13), (some (10, true)), (.bin .leq .num (.t 11) (.t 12))⟩,
   ⟨(some 14), none, (.pick (.t 10) (.t 13) (.c (.bool false)))⟩])
 (.cond (.t 14)
 (.seq
 (.reg [⟨(some 15), none, (.mv (.t 0))⟩,
   ⟨(some 6), none, (.mv (.t 15))⟩]) .ret) .skip))
 (.seq
 (.reg [⟨(some 16), none, (.mv (.t 0))⟩,
   ⟨(some 17), none, (.mv (.t 2))⟩,
   ⟨(some 18), none, (.mv (.t 1))⟩,
   ⟨(some 19), none, (.bin .sub .num (.t 17) (.t 18))⟩,
   ⟨(some 20), none, (.bin .add .num (.t 19) (.c (.int .i64 1)))⟩,
   ⟨(some 21), none, (.bin .rem .num (.t 16) (.t 20))⟩,
   ⟨(some 0), none, (.mv (.t 21))⟩])
 (.seq
 (.seq
 (.reg [⟨(some 22), none, (.mv (.t 0))⟩,
   ⟨(some 23), none, (.bin .lss .num (.t 22) (.c (.int .i64 0)))⟩])
 (.cond (.t 23)
 (.reg [⟨(some 24), none, (.mv (.t 0))⟩,
   ⟨(some 25), none, (.mv (.t 2))⟩,
   ⟨(some 26), none, (.bin .add .num (.t 24) (.t 25))⟩,
   ⟨(some 27), none, (.mv (.t 1))⟩,
   ⟨(some 28), none, (.bin .sub .num (.t 26) (.t 27))⟩,
   ⟨(some 29), none, (.bin .add .num (.t 28) (.c (.int .i64 1)))⟩,
   ⟨(some 0), none, (.mv (.t 29))⟩]) .skip))
 (.seq
 (.reg [⟨(some 30), none, (.mv (.t 1))⟩,
   ⟨(some 31), none, (.mv (.t 0))⟩,
   ⟨(some 32), none, (.bin .add .num (.t 30) (.t 31))⟩,
   ⟨(some 6), none, (.mv (.t 32))⟩]) .ret)))))⟩
theorem caf9 : cFunc Try.prog Try.f9 = some af9 := by kernel_rfl
/-- (*limelight/write.Writer).Layer -/
def af10 : AFunc := ⟨7, [(.tmp 2)],
 (.seq
 (.reg [⟨(some 2), none, (.mv (.c (.int .i64 0)))⟩])
 (.seq
 (.reg [⟨(some 3), none, (.mv (.t 0))⟩,
   ⟨(some 4), none, (.nilCheck (.t 3))⟩,
   ⟨(some 5), none, (.fieldAddr 1 1 (.t 4))⟩,
   ⟨(some 6), none, (.load1 (.t 5))⟩,
   ⟨(some 2), none, (.mv (.t 6))⟩]) .ret))⟩
theorem caf10 : cFunc Try.prog Try.f10 = some af10 := by kernel_rfl
/-- (*limelight/write.Writer).Want -/
def af11 : AFunc := ⟨32, [(.tmp 4)],
 (.seq
 (.reg [⟨(some 4), none, (.mv (.c (.bool false)))⟩])
 (.seq
 (.reg [⟨(some 6), none, (.mv (.t 1))⟩,
   ⟨(some 7), none, (.mx [(.c (.int .i64 (-1))), (.t 6)])⟩,
   ⟨(some 1), none, (.mv (.t 7))⟩])
 (.seq
 (.reg [⟨(some 8), none, (.mv (.t 1))⟩,
   ⟨(some 9), none, (.mv (.t 0))⟩,
   ⟨(some 10), none, (.nilCheck (.t 9))⟩,
   ⟨(some 11), none, (.fieldAddr 2 1 (.t 10))⟩,
   ⟨(some 12), none, (.load1 (.t 11))⟩,
   ⟨(some 13), none, (.bin .neq .num (.t 8) (.t 12))⟩,
   ⟨(some 5), none, (.mv (.t 13))⟩])
 (.seq
 (.reg [⟨(some 14), none, (.mv (.t 0))⟩,
   ⟨(some 15), none, (.mv (.t 1))⟩,
   ⟨(some 16), none, (.nilCheck (.t 14))⟩,
   ⟨(some 17), none, (.fieldAddr 2 1 (.t 16))⟩,
   ⟨none, none, (.store 1 (.t 17) (.t 15))⟩])
 (.seq
 (.seq
 (.reg [⟨(some 18), none, (.mv (.t 0))⟩,
   ⟨(some 19), none, (.nilCheck (.t 18))⟩,
   ⟨(some 20), none, (.fieldAddr 1 1 (.t 19))⟩,
   ⟨(some 21), none, (.load1 (.t 20))⟩,
   ⟨(some 22), none, (.mv (.t 1))⟩,
   ⟨(some 23), none, (.bin .neq .num (.t 21) (.t 22))⟩])
 (.cond (.t 23)
 (.reg [⟨(some 24), none, (.mv (.t 0))⟩,
   ⟨(some 25), none, (.nilCheck (.t 24))⟩,
   ⟨(some 26), none, (.fieldAddr 1 1 (.t 25))⟩,
   ⟨none, none, (.store 1 (.t 26) (.c (.int .i64 (-1))))⟩]) .skip))
 (.seq
 (.reg [⟨(some 27), none, (.mv (.t 5))⟩,
   ⟨(some 28), none, (.mv (.t 27))⟩,
   ⟨(some 29), (some (28, true)), (.mv (.t 1))⟩,
   ⟨(some 30), (some (28, true)), (.bin .geq .num (.t 29) (.c (.int .i64 0)))⟩,
   ⟨(some 31), none, (.pick (.t 28) (.t 30) (.c (.bool false)))⟩,
   ⟨(some 4), none, (.mv (.t 31))⟩]) .ret))))))⟩
theorem caf11 : cFunc Try.prog Try.f11 = some af11 := by kernel_rfl
/-- (*limelight/write.Writer).Packet -/
def af12 : AFunc := ⟨127, [(.cellN 10 9), (.tmp 11)],
 (.seq
 (.reg [⟨(some 9), none, (.box (.t 4))⟩,
   ⟨(some 10), none, (.alloc [(.bool false), (.int .i64 0), (.int .u16 0), (.int .u32 0), (.int .u32 0), (.slice none 0 0 none), (.int .u16 0), (.slice none 0 0 none), (.slice none 0 0 none)])⟩,
   ⟨(some 11), none, (.mv (.c (.bool false)))⟩])
 (.seq
 (.block 0
 (.seq
 (.reg [⟨(some 18), none, (.mv (.t 1))⟩,
   ⟨(some 19), none, (.bin .lss .num (.t 18) (.c (.int .i64 0)))⟩,
   ⟨(some 20), none, (.mv (.t 19))⟩,
   ⟨(some 21), (some (20, false)), (.mv (.t 1))⟩,
   ⟨(some 22), (some (20, false)), (.mv (.t 0))⟩,
   ⟨(some 23), (some (20, false)), (.nilCheck (.t 22))⟩,
   ⟨(some 24), (some (20, false)), (.fieldAddr 2 1 (.t 23))⟩,
   ⟨(some 25), (some (20, false)), (.load1 (.t 24))⟩,
   ⟨(some 26), (some (20, false)), (.bin .neq .num (.t 21) (.t 25))⟩,
   ⟨(some 27), none, (.pick (.t 20) (.c (.bool true)) (.t 26))⟩,
   ⟨(some 28), none, (.mv (.t 27))⟩,
   ⟨(some 29), (some (28, false)), (.mv (.t 2))⟩,
   ⟨(some 30), (some (28, false)), (.bin .lss .num (.t 29) (.c (.int .i64 0)))⟩,
   ⟨(some 31), none, (.pick (.t 28) (.c (.bool true)) (.t 30))⟩,
   ⟨(some 17), none, (.mv (.t 31))⟩])
 (.cond (.t 17)
 (.seq
 (.reg [⟨(some 32), none, (.build [(.bool false), (.int .i64 0), (.int .u16 0), (.int .u32 0), (.int .u32 0), (.slice none 0 0 none), (.int .u16 0), (.slice none 0 0 none), (.slice none 0 0 none)] [])⟩,
   ⟨none, none, (.store 9 (.t 10) (.t 32))⟩,
   ⟨(some 11), none, (.mv (.c (.bool false)))⟩]) .ret)
 (.seq
 (.reg [⟨(some 34), none, (.mv (.t 1))⟩,
   ⟨(some 35), none, (.mv (.t 0))⟩,
   ⟨(some 36), none, (.nilCheck (.t 35))⟩,
   ⟨(some 37), none, (.fieldAddr 1 1 (.t 36))⟩,
   ⟨(some 38), none, (.load1 (.t 37))⟩,
   ⟨(some 39), none, (.bin .eql .num (.t 34) (.t 38))⟩,
   ⟨(some 40), none, (.mv (.t 39))⟩,
   ⟨(some 41), (some (40, true)), (.mv (.t 2))⟩,
   ⟨(some 42), (some (40, true)), (.mv (.t 0))⟩,
   ⟨(some 43), (some (40, true)), (.nilCheck (.t 42))⟩,
   ⟨(some 44), (some (40, true)), (.fieldAddr 6 1 (.t 43))⟩,
   ⟨(some 45), (some (40, true)), (.load1 (.t 44))⟩,
   ⟨(some 46), (some (40, true)), (.bin .leq .num (.t 41) (.t 45))⟩,
   ⟨(some 47), none, (.pick (.t 40) (.t 46) (.c (.bool false)))⟩,
   ⟨(some 33), none, (.mv (.t 47))⟩])
 (.cond (.t 33)
 (.seq
 (.reg [⟨(some 48), none, (.build [(.bool false), (.int .i64 0), (.int .u16 0), (.int .u32 0), (.int .u32 0), (.slice none 0 0 none), (.int .u16 0), (.slice none 0 0 none), (.slice none 0 0 none)] [])⟩,
   ⟨none, none, (.store 9 (.t 10) (.t 48))⟩,
   ⟨(some 11), none, (.mv (.c (.bool false)))⟩]) .ret)
 (.seq
 (.reg [⟨(some 50), none, (.mv (.t 1))⟩,
   ⟨(some 51), none, (.mv (.t 0))⟩,
   ⟨(some 52), none, (.nilCheck (.t 51))⟩,
   ⟨(some 53), none, (.fieldAddr 1 1 (.t 52))⟩,
   ⟨(some 54), none, (.load1 (.t 53))⟩,
   ⟨(some 55), none, (.bin .eql .num (.t 50) (.t 54))⟩,
   ⟨(some 49), none, (.mv (.t 55))⟩])
 (.cond (.t 49)
 (.seq
 (.dreg [⟨(some 56), none, (.mv (.t 0))⟩,
   ⟨(some 57), none, (.mv (.t 0))⟩,
   ⟨(some 58), none, (.mv (.t 0))⟩,
   ⟨(some 59), none, (.nilCheck (.t 58))⟩,
   ⟨(some 60), none, (.fieldAddr 4 1 (.t 59))⟩,
   ⟨(some 61), none, (.load1 (.t 60))⟩,
   ⟨(some 62), none, (.mv (.t 2))⟩,
   ⟨(some 63), none, (.mv (.t 0))⟩,
   ⟨(some 64), none, (.nilCheck (.t 63))⟩,
   ⟨(some 65), none, (.fieldAddr 6 1 (.t 64))⟩,
   ⟨(some 66), none, (.load1 (.t 65))⟩,
   ⟨(some 67), none, (.bin .sub .num (.t 62) (.t 66))⟩,
   ⟨(some 68), none, (.call 18 [(.t 61), (.t 67)])⟩,
   ⟨(some 69), none, (.mv (.t 2))⟩,
   ⟨(some 70), none, (.nilCheck (.t 56))⟩,
   ⟨(some 71), none, (.fieldAddr 4 1 (.t 70))⟩,
   ⟨none, none, (.store 1 (.t 71) (.t 68))⟩,
   ⟨(some 72), none, (.nilCheck (.t 57))⟩,
   ⟨(some 73), none, (.fieldAddr 6 1 (.t 72))⟩,
   ⟨none, none, (.store 1 (.t 73) (.t 69))⟩] [])
 (.seq
 (.dreg [⟨(some 74), none, (.mv (.t 0))⟩,
   ⟨(some 75), none, (.mv (.t 0))⟩,
   ⟨(some 76), none, (.nilCheck (.t 75))⟩,
   ⟨(some 77), none, (.fieldAddr 7 1 (.t 76))⟩,
   ⟨(some 78), none, (.load1 (.t 77))⟩,
   ⟨(some 79), none, (.fieldAddr 3 1 (.t 9))⟩,
   ⟨(some 80), none, (.load1 (.t 79))⟩,
   ⟨(some 81), none, (.call 19 [(.t 78), (.t 80)])⟩,
   ⟨(some 82), none, (.nilCheck (.t 74))⟩,
   ⟨(some 83), none, (.fieldAddr 7 1 (.t 82))⟩,
   ⟨none, none, (.store 1 (.t 83) (.t 81))⟩] [])
 (.dreg [⟨(some 84), none, (.mv (.t 0))⟩,
   ⟨(some 85), none, (.mv (.t 0))⟩,
   ⟨(some 86), none, (.nilCheck (.t 85))⟩,
   ⟨(some 87), none, (.fieldAddr 5 1 (.t 86))⟩,
   ⟨(some 88), none, (.load1 (.t 87))⟩,
   ⟨(some 89), none, (.mv (.t 0))⟩,
   ⟨(some 90), none, (.nilCheck (.t 89))⟩,
   ⟨(some 91), none, (.fieldAddr 7 1 (.t 90))⟩,
   ⟨(some 92), none, (.load1 (.t 91))⟩,
   ⟨(some 93), none, (.mv (.t 0))⟩,
   ⟨(some 94), none, (.nilCheck (.t 93))⟩,
   ⟨(some 95), none, (.fieldAddr 8 1 (.t 94))⟩,
   ⟨(some 96), none, (.load1 (.t 95))⟩,
   ⟨(some 97), none, (.bin .add .num (.t 92) (.t 96))⟩,
   ⟨(some 98), none, (.mx [(.t 88), (.t 97)])⟩,
   ⟨(some 99), none, (.nilCheck (.t 84))⟩,
   ⟨(some 100), none, (.fieldAddr 5 1 (.t 99))⟩,
   ⟨none, none, (.store 1 (.t 100) (.t 98))⟩] [])))
 (.seq
 (.reg [⟨(some 102), none, (.mv (.t 3))⟩,
   ⟨(some 103), none, (.un .not (.t 102))⟩,
   ⟨(some 101), none, (.mv (.t 103))⟩])
 (.cond (.t 101)
 (.seq
 (.reg [⟨(some 104), none, (.build [(.bool false), (.int .i64 0), (.int .u16 0), (.int .u32 0), (.int .u32 0), (.slice none 0 0 none), (.int .u16 0), (.slice none 0 0 none), (.slice none 0 0 none)] [])⟩,
   ⟨none, none, (.store 9 (.t 10) (.t 104))⟩,
   ⟨(some 11), none, (.mv (.c (.bool false)))⟩]) .ret)
 (.reg [⟨(some 12), none, (.mv (.t 0))⟩,
   ⟨(some 13), none, (.mv (.t 1))⟩,
   ⟨(some 14), none, (.mv (.t 2))⟩,
   ⟨(some 15), none, (.loadN 9 (.t 9))⟩,
   ⟨(some 16), none, (.call 20 [(.t 12), (.t 13), (.t 14), (.t 15)])⟩]))))))))))
 (.seq
 (.dreg [⟨(some 105), none, (.fieldAddr 0 1 (.t 9))⟩,
   ⟨(some 106), none, (.load1 (.t 105))⟩,
   ⟨(some 107), none, (.fieldAddr 1 1 (.t 9))⟩,
   ⟨(some 108), none, (.load1 (.t 107))⟩,
   ⟨(some 109), none, (.mv (.t 0))⟩,
   ⟨(some 110), none, (.nilCheck (.t 109))⟩,
   ⟨(some 111), none, (.fieldAddr 4 1 (.t 110))⟩,
   ⟨(some 112), none, (.load1 (.t 111))⟩,
   ⟨(some 113), none, (.conv (.int .u16) (.t 112))⟩,
   ⟨(some 114), none, (.mv (.t 0))⟩,
   ⟨(some 115), none, (.nilCheck (.t 114))⟩,
   ⟨(some 116), none, (.fieldAddr 5 1 (.t 115))⟩,
   ⟨(some 117), none, (.load1 (.t 116))⟩,
   ⟨(some 118), none, (.conv (.int .u32) (.t 117))⟩,
   ⟨(some 119), none, (.mv (.t 0))⟩,
   ⟨(some 120), none, (.nilCheck (.t 119))⟩,
   ⟨(some 121), none, (.fieldAddr 0 1 (.t 120))⟩,
   ⟨(some 122), none, (.load1 (.t 121))⟩,
   ⟨(some 123), none, (.fieldAddr 8 1 (.t 9))⟩,
   ⟨(some 124), none, (.load1 (.t 123))⟩,
   ⟨(some 125), none, (.call 21 [(.t 124)])⟩,
   ⟨(some 126), none, (.build [(.bool false), (.int .i64 0), (.int .u16 0), (.int .u32 0), (.int .u32 0), (.slice none 0 0 none), (.int .u16 0), (.slice none 0 0 none), (.slice none 0 0 none)] [(0, (1, (.t 106))), (1, (1, (.t 108))), (2, (1, (.t 113))), (3, (1, (.t 118))), (4, (1, (.t 122))), (8, (1, (.t 125)))])⟩,
   ⟨none, none, (.store 9 (.t 10) (.t 126))⟩,
   ⟨(some 11), none, (.mv (.c (.bool true)))⟩] [(1, 21), (3, 21), (7, 21), (12, 21), (17, 21)]) .ret)))⟩
theorem caf12 : cFunc Try.prog Try.f12 = some af12 := by kernel_rfl
/-- (*limelight/write.Writer).Last -/
def af13 : AFunc := ⟨7, [(.tmp 2)],
 (.seq
 (.reg [⟨(some 2), none, (.mv (.c (.int .i64 0)))⟩])
 (.seq
 (.reg [⟨(some 3), none, (.mv (.t 0))⟩,
   ⟨(some 4), none, (.nilCheck (.t 3))⟩,
   ⟨(some 5), none, (.fieldAddr 4 1 (.t 4))⟩,
   ⟨(some 6), none, (.load1 (.t 5))⟩,
   ⟨(some 2), none, (.mv (.t 6))⟩]) .ret))⟩
theorem caf13 : cFunc Try.prog Try.f13 = some af13 := by kernel_rfl
/-- limelight/limelightlaw21.known -/
def af14 : AFunc := ⟨143, [(.tmp 0)],
 (.seq
 (.reg [⟨(some 0), none, (.mv (.c (.bool false)))⟩])
 (.seq
 (.reg [⟨(some 16), none, (.call 8 [(.c (.int .u32 77))])⟩,
   ⟨(some 1), none, (.mv (.t 16))⟩])
 (.seq
 (.seq
 (.reg [⟨(some 17), none, (.mv (.t 1))⟩,
   ⟨(some 18), none, (.bin .eql .ptr (.t 17) (.c (.ptr none)))⟩])
 (.cond (.t 18)
 (.seq
 (.reg [⟨(some 0), none, (.mv (.c (.bool false)))⟩]) .ret) .skip))
 (.seq
 (.reg [⟨(some 19), none, (.buildSlice 1 [(.int .u32 0)] 1 [(0, (1, (.c (.int .u32 1))))])⟩,
   ⟨(some 20), none, (.buildSlice 1 [(.int .u8 0)] 2 [(0, (1, (.c (.int .u8 1)))), (1, (1, (.c (.int .u8 2))))])⟩,
   ⟨(some 21), none, (.build [(.bool false), (.int .i64 0), (.int .u16 0), (.int .u32 0), (.int .u32 0), (.slice none 0 0 none), (.int .u16 0), (.slice none 0 0 none), (.slice none 0 0 none)] [(1, (1, (.c (.int .i64 96)))), (2, (1, (.c (.int .u16 500)))), (3, (1, (.c (.int .u32 9000)))), (4, (1, (.c (.int .u32 5)))), (5, (1, (.t 19))), (8, (1, (.t 20)))])⟩,
   ⟨(some 2), none, (.alloc [(.bool false), (.int .i64 0), (.int .u16 0), (.int .u32 0), (.int .u32 0), (.slice none 0 0 none), (.int .u16 0), (.slice none 0 0 none), (.slice none 0 0 none)])⟩,
   ⟨none, none, (.store 9 (.t 2) (.t 21))⟩])
 (.seq
 (.reg [⟨(some 23), none, (.mv (.t 1))⟩,
   ⟨(some 24), none, (.loadN 9 (.t 2))⟩,
   ⟨(some 25), none, (.call 12 [(.t 23), (.c (.int .i64 0)), (.c (.int .i64 500)), (.c (.bool true)), (.t 24)])⟩,
   ⟨(some 22), none, (.mv (.t 25))⟩,
   ⟨(some 26), none, (.extract 0 (.t 22))⟩,
   ⟨(some 27), none, (.extract 1 (.t 22))⟩,
   ⟨(some 3), none, (.alloc [(.bool false), (.int .i64 0), (.int .u16 0), (.int .u32 0), (.int .u32 0), (.slice none 0 0 none), (.int .u16 0), (.slice none 0 0 none), (.slice none 0 0 none)])⟩,
   ⟨none, none, (.store 9 (.t 3) (.t 26))⟩,
   ⟨(some 4), none, (.mv (.t 27))⟩])
 (.seq
 (.reg [⟨(some 28), none, (.mv (.t 1))⟩,
   ⟨(some 29), none, (.call 11 [(.t 28), (.c (.int .i64 1))])⟩,
   ⟨(some 30), none, (.mv (.t 1))⟩,
   ⟨(some 31), none, (.call 11 [(.t 30), (.c (.int .i64 1))])⟩,
   ⟨(some 5), none, (.mv (.t 29))⟩,
   ⟨(some 6), none, (.mv (.t 31))⟩])
 (.seq
 (.reg [⟨(some 33), none, (.mv (.t 1))⟩,
   ⟨(some 34), none, (.loadN 9 (.t 2))⟩,
   ⟨(some 35), none, (.call 12 [(.t 33), (.c (.int .i64 1)), (.c (.int .i64 500)), (.c (.bool false)), (.t 34)])⟩,
   ⟨(some 32), none, (.mv (.t 35))⟩,
   ⟨(some 36), none, (.extract 0 (.t 32))⟩,
   ⟨(some 37), none, (.extract 1 (.t 32))⟩,
   ⟨(some 7), none, (.alloc [(.bool false), (.int .i64 0), (.int .u16 0), (.int .u32 0), (.int .u32 0), (.slice none 0 0 none), (.int .u16 0), (.slice none 0 0 none), (.slice none 0 0 none)])⟩,
   ⟨none, none, (.store 9 (.t 7) (.t 36))⟩,
   ⟨(some 8), none, (.mv (.t 37))⟩])
 (.seq
 (.reg [⟨(some 39), none, (.mv (.t 1))⟩,
   ⟨(some 40), none, (.loadN 9 (.t 2))⟩,
   ⟨(some 41), none, (.call 12 [(.t 39), (.c (.int .i64 1)), (.c (.int .i64 500)), (.c (.bool true)), (.t 40)])⟩,
   ⟨(some 38), none, (.mv (.t 41))⟩,
   ⟨(some 42), none, (.extract 0 (.t 38))⟩,
   ⟨(some 43), none, (.extract 1 (.t 38))⟩,
   ⟨(some 9), none, (.alloc [(.bool false), (.int .i64 0), (.int .u16 0), (.int .u32 0), (.int .u32 0), (.slice none 0 0 none), (.int .u16 0), (.slice none 0 0 none), (.slice none 0 0 none)])⟩,
   ⟨none, none, (.store 9 (.t 9) (.t 42))⟩,
   ⟨(some 10), none, (.mv (.t 43))⟩])
 (.seq
 (.reg [⟨(some 44), none, (.fieldAddr 3 1 (.t 2))⟩,
   ⟨none, none, (.store 1 (.t 44) (.c (.int .u32 9500)))⟩])
 (.seq
 (.reg [⟨(some 46), none, (.mv (.t 1))⟩,
   ⟨(some 47), none, (.loadN 9 (.t 2))⟩,
   ⟨(some 48), none, (.call 12 [(.t 46), (.c (.int .i64 1)), (.c (.int .i64 503)), (.c (.bool false)), (.t 47)])⟩,
   ⟨(some 45), none, (.mv (.t 48))⟩,
   ⟨(some 49), none, (.extract 0 (.t 45))⟩,
   ⟨(some 50), none, (.extract 1 (.t 45))⟩,
   ⟨(some 11), none, (.alloc [(.bool false), (.int .i64 0), (.int .u16 0), (.int .u32 0), (.int .u32 0), (.slice none 0 0 none), (.int .u16 0), (.slice none 0 0 none), (.slice none 0 0 none)])⟩,
   ⟨none, none, (.store 9 (.t 11) (.t 49))⟩,
   ⟨(some 12), none, (.mv (.t 50))⟩])
 (.seq
 (.reg [⟨(some 52), none, (.mv (.t 1))⟩,
   ⟨(some 53), none, (.loadN 9 (.t 2))⟩,
   ⟨(some 54), none, (.call 12 [(.t 52), (.c (.int .i64 1)), (.c (.int .i64 503)), (.c (.bool false)), (.t 53)])⟩,
   ⟨(some 51), none, (.mv (.t 54))⟩,
   ⟨(some 55), none, (.extract 0 (.t 51))⟩,
   ⟨(some 56), none, (.extract 1 (.t 51))⟩,
   ⟨(some 13), none, (.alloc [(.bool false), (.int .i64 0), (.int .u16 0), (.int .u32 0), (.int .u32 0), (.slice none 0 0 none), (.int .u16 0), (.slice none 0 0 none), (.slice none 0 0 none)])⟩,
   ⟨none, none, (.store 9 (.t 13) (.t 55))⟩,
   ⟨(some 14), none, (.mv (.t 56))⟩])
 (.seq
 (.reg [⟨(some 57), none, (.mv (.t 1))⟩,
   ⟨(some 58), none, (.call 11 [(.t 57), (.c (.int .i64 (-1)))])⟩,
   ⟨(some 15), none, (.mv (.t 58))⟩])
 (.seq
 (.reg [⟨(some 59), none, (.mv (.t 4))⟩,
   ⟨(some 60), none, (.un .not (.t 59))⟩,
   ⟨(some 61), none, (.mv (.t 60))⟩,
   ⟨(some 62), (some (61, true)), (.mv (.t 5))⟩,
   ⟨(some 63), none, (.pick (.t 61) (.t 62) (.c (.bool false)))⟩,
   ⟨(some 64), none, (.mv (.t 63))⟩,
   ⟨(some 65), (some (64, true)), (.mv (.t 6))⟩,
   ⟨(some 66), (some (64, true)), (.un .not (.t 65))⟩,
   ⟨(some 67), none, (.pick (.t 64) (.t 66) (.c (.bool false)))⟩,
   ⟨(some 68), none, (.mv (.t 67))⟩,
   ⟨(some 69), (some (68, true)), (.mv (.t 8))⟩,
   ⟨(some 70), (some (68, true)), (.un .not (.t 69))⟩,
   ⟨(some 71), none, (.pick (.t 68) (.t 70) (.c (.bool false)))⟩,
   ⟨(some 72), none, (.mv (.t 71))⟩,
   ⟨(some 73), (some (72, true)), (.mv (.t 10))⟩,
   ⟨(some 74), none, (.pick (.t 72) (.t 73) (.c (.bool false)))⟩,
   ⟨(some 75), none, (.mv (.t 74))⟩,
   ⟨(some 76), (some (75, true)), (.fieldAddr 2 1 (.t 9))⟩,
   ⟨(some 77), (some (75, true)), (.load1 (.t 76))⟩,
   ⟨(some 78), (some (75, true)), (.bin .eql .num (.t 77) (.c (.int .u16 0)))⟩,
   ⟨(some 79), none, (.pick (.t 75) (.t 78) (.c (.bool false)))⟩,
   ⟨(some 80), none, (.mv (.t 79))⟩,
   ⟨(some 81), (some (80, true)), (.fieldAddr 3 1 (.t 9))⟩,
   ⟨(some 82), (some (80, true)), (.load1 (.t 81))⟩,
   ⟨(some 83), (some (80, true)), (.bin .eql .num (.t 82) (.c (.int .u32 9000)))⟩,
   ⟨(some 84), none, (.pick (.t 80) (.t 83) (.c (.bool false)))⟩,
   ⟨(some 85), none, (.mv (.t 84))⟩,
   ⟨(some 86), (some (85, true)), (.fieldAddr 4 1 (.t 9))⟩,
   ⟨(some 87), (some (85, true)), (.load1 (.t 86))⟩,
   ⟨(some 88), (some (85, true)), (.bin .eql .num (.t 87) (.c (.int .u32 77)))⟩,
   ⟨(some 89), none, (.pick (.t 85) (.t 88) (.c (.bool false)))⟩,
   ⟨(some 90), none, (.mv (.t 89))⟩,
   ⟨(some 91), (some (90, true)), (.fieldAddr 5 1 (.t 9))⟩,
   ⟨(some 92), (some (90, true)), (.load1 (.t 91))⟩,
   ⟨(some 93), (some (90, true)), (.len (.t 92))⟩,
   ⟨(some 94), (some (90, true)), (.bin .eql .num (.t 93) (.c (.int .i64 0)))⟩,
   ⟨(some 95), none, (.pick (.t 90) (.t 94) (.c (.bool false)))⟩,
   ⟨(some 96), none, (.mv (.t 95))⟩,
   ⟨(some 97), (some (96, true)), (.fieldAddr 8 1 (.t 9))⟩,
   ⟨(some 98), (some (96, true)), (.load1 (.t 97))⟩,
   ⟨(some 99), (some (96, true)), (.conv .bytesStr (.t 98))⟩,
   ⟨(some 100), (some (96, true)), (.bin .eql .str (.t 99) (.c (.str [1, 2])))⟩,
   ⟨(some 101), none, (.pick (.t 96) (.t 100) (.c (.bool false)))⟩,
   ⟨(some 102), none, (.mv (.t 101))⟩,
   ⟨(some 103), (some (102, true)), (.mv (.t 12))⟩,
   ⟨(some 104), none, (.pick (.t 102) (.t 103) (.c (.bool false)))⟩,
   ⟨(some 105), none, (.mv (.t 104))⟩,
   ⟨(some 106), (some (105, true)), (.fieldAddr 2 1 (.t 11))⟩,
   ⟨(some 107), (some (105, true)), (.load1 (.t 106))⟩,
   ⟨(some 108), (some (105, true)), (.bin .eql .num (.t 107) (.c (.int .u16 3)))⟩,
   ⟨(some 109), none, (.pick (.t 105) (.t 108) (.c (.bool false)))⟩,
   ⟨(some 110), none, (.mv (.t 109))⟩,
   ⟨(some 111), (some (110, true)), (.fieldAddr 3 1 (.t 11))⟩,
   ⟨(some 112), (some (110, true)), (.load1 (.t 111))⟩,
   ⟨(some 113), (some (110, true)), (.bin .eql .num (.t 112) (.c (.int .u32 9500)))⟩,
   ⟨(some 114), none, (.pick (.t 110) (.t 113) (.c (.bool false)))⟩,
   ⟨(some 115), none, (.mv (.t 114))⟩,
   ⟨(some 116), (some (115, true)), (.mv (.t 14))⟩,
   ⟨(some 117), (some (115, true)), (.un .not (.t 116))⟩,
   ⟨(some 118), none, (.pick (.t 115) (.t 117) (.c (.bool false)))⟩,
   ⟨(some 119), none, (.mv (.t 118))⟩,
   ⟨(some 120), (some (119, true)), (.mv (.t 1))⟩,
   ⟨(some 121), (some (119, true)), (.call 13 [(.t 120)])⟩,
   ⟨(some 122), (some (119, true)), (.bin .eql .num (.t 121) (.c (.int .i64 3)))⟩,
   ⟨(some 123), none, (.pick (.t 119) (.t 122) (.c (.bool false)))⟩,
   ⟨(some 124), none, (.mv (.t 123))⟩,
   ⟨(some 125), (some (124, true)), (.mv (.t 1))⟩,
   ⟨(some 126), (some (124, true)), (.call 22 [(.t 125)])⟩,
   ⟨(some 127), (some (124, true)), (.bin .eql .num (.t 126) (.c (.int .i64 1)))⟩,
   ⟨(some 128), none, (.pick (.t 124) (.t 127) (.c (.bool false)))⟩,
   ⟨(some 129), none, (.mv (.t 128))⟩,
   ⟨(some 130), (some (129, true)), (.mv (.t 15))⟩,
   ⟨(some 131), (some (129, true)), (.un .not (.t 130))⟩,
   ⟨(some 132), none, (.pick (.t 129) (.t 131) (.c (.bool false)))⟩,
   ⟨(some 133), none, (.mv (.t 132))⟩,
   ⟨(some 134), (some (133, true)), (.mv (.t 1))⟩,
   ⟨(some 135), (some (133, true)), (.call 10 [(.t 134)])⟩,
   ⟨(some 136), (some (133, true)), (.bin .eql .num (.t 135) (.c (.int .i64 (-1))))⟩,
   ⟨(some 137), none, (.pick (.t 133) (.t 136) (.c (.bool false)))⟩,
   ⟨(some 138), none, (.mv (.t 137))⟩,
   ⟨(some 139), (some (138, true)), (.mv (.t 1))⟩,
   ⟨(some 140), (some (138, true)), (.call 15 [(.t 139)])⟩,
   ⟨(some 141), (some (138, true)), (.bin .eql .num (.t 140) (.c (.int .i64 (-1))))⟩,
   ⟨(some 142), none, (.pick (.t 138) (.t 141) (.c (.bool false)))⟩,
   ⟨(some 0), none, (.mv (.t 142))⟩]) .ret)))))))))))))⟩
theorem caf14 : cFunc Try.prog Try.f14 = some af14 := by kernel_rfl
/-- (*limelight/write.Writer).Wanted -/
def af15 : AFunc := ⟨7, [(.tmp 2)],
 (.seq
 (.reg [⟨(some 2), none, (.mv (.c (.int .i64 0)))⟩])
 (.seq
 (.reg [⟨(some 3), none, (.mv (.t 0))⟩,
   ⟨(some 4), none, (.nilCheck (.t 3))⟩,
   ⟨(some 5), none, (.fieldAddr 2 1 (.t 4))⟩,
   ⟨(some 6), none, (.load1 (.t 5))⟩,
   ⟨(some 2), none, (.mv (.t 6))⟩]) .ret))⟩
theorem caf15 : cFunc Try.prog Try.f15 = some af15 := by kernel_rfl
def af16_l0 : AC :=
 (.seq
 (.seq
 (.reg [⟨(some 18), none, (.mv (.t 7))⟩,
   ⟨(some 19), none, (.mv (.t 1))⟩,
   ⟨(some 20), none, (.len (.t 19))⟩,
   ⟨(some 21), none, (.bin .lss .num (.t 18) (.t 20))⟩,
   ⟨(some 22), none, (.mv (.t 21))⟩,
   ⟨(some 23), (some (22, true)), (.mv (.t 7))⟩,
   ⟨(some 24), (some (22, true)), (.bin .lss .num (.t 23) (.c (.int .i64 120)))⟩,
   ⟨(some 25), none, (.pick (.t 22) (.t 24) (.c (.bool false)))⟩])
 (.cond (.t 25) .skip (.exit 0)))
 (.seq
 (.block 1
 (.seq
 (.reg [⟨(some 28), none, (.mv (.t 1))⟩,
   ⟨(some 29), none, (.mv (.t 7))⟩,
   ⟨(some 30), none, (.ixSlice 5 (.t 28) (.t 29))⟩,
   ⟨(some 31), none, (.loadN 5 (.t 30))⟩,
   ⟨(some 8), none, (.alloc [(.int .i64 0), (.int .i64 0), (.int .i64 0), (.int .u32 0), (.bool false)])⟩,
   ⟨none, none, (.store 5 (.t 8) (.t 31))⟩])
 (.seq
 (.seq
 (.reg [⟨(some 32), none, (.mv (.t 5))⟩,
   ⟨(some 33), none, (.bin .eql .ptr (.t 32) (.c (.ptr none)))⟩])
 (.cond (.t 33)
 (.seq
 (.reg [⟨(some 4), none, (.mv (.c (.bool false)))⟩]) .ret) .skip))
 (.seq
 (.seq
 (.reg [⟨(some 34), none, (.fieldAddr 0 1 (.t 8))⟩,
   ⟨(some 35), none, (.load1 (.t 34))⟩])
 (.block 2
 (.seq
 (.reg [⟨(some 84), none, (.bin .eql .num (.t 35) (.c (.int .i64 6)))⟩,
   ⟨(some 83), none, (.mv (.t 84))⟩])
 (.cond (.t 83)
 (.seq
 (.dreg [⟨(some 85), none, (.mv (.t 5))⟩,
   ⟨(some 86), none, (.fieldAddr 1 1 (.t 8))⟩,
   ⟨(some 87), none, (.load1 (.t 86))⟩,
   ⟨(some 88), none, (.call 11 [(.t 85), (.t 87)])⟩,
   ⟨(some 89), none, (.mv (.t 6))⟩,
   ⟨(some 90), none, (.fieldAddr 1 1 (.t 8))⟩,
   ⟨(some 91), none, (.load1 (.t 90))⟩,
   ⟨(some 92), none, (.call 24 [(.t 89), (.t 91)])⟩,
   ⟨(some 93), none, (.bin .neq .bool (.t 88) (.t 92))⟩] [(6, 3)])
 (.cond (.t 93)
 (.seq
 (.reg [⟨(some 4), none, (.mv (.c (.bool false)))⟩]) .ret) .skip))
 (.seq
 (.reg [⟨(some 95), none, (.bin .eql .num (.t 35) (.c (.int .i64 7)))⟩,
   ⟨(some 94), none, (.mv (.t 95))⟩])
 (.cond (.t 94)
 (.seq
 (.reg [⟨(some 96), none, (.mv (.t 5))⟩,
   ⟨(some 97), none, (.call 17 [(.t 96)])⟩])
 (.reg [⟨(some 98), none, (.mv (.t 6))⟩,
   ⟨(some 99), none, (.call 25 [(.t 98)])⟩]))
 (.seq
 (.reg [⟨(some 36), none, (.mv (.t 7))⟩,
   ⟨(some 37), none, (.bin .rem .num (.t 36) (.c (.int .i64 2)))⟩,
   ⟨(some 38), none, (.bin .eql .num (.t 37) (.c (.int .i64 0)))⟩,
   ⟨(some 39), none, (.mv (.t 7))⟩,
   ⟨(some 40), none, (.bin .and .num (.t 39) (.c (.int .i64 127)))⟩,
   ⟨(some 41), none, (.fieldAddr 2 1 (.t 8))⟩,
   ⟨(some 42), none, (.load1 (.t 41))⟩,
   ⟨(some 43), none, (.conv (.int .u16) (.t 42))⟩,
   ⟨(some 44), none, (.fieldAddr 3 1 (.t 8))⟩,
   ⟨(some 45), none, (.load1 (.t 44))⟩,
   ⟨(some 46), none, (.mv (.t 7))⟩,
   ⟨(some 47), none, (.conv (.int .u8) (.t 46))⟩,
   ⟨(some 48), none, (.buildSlice 1 [(.int .u8 0)] 2 [(0, (1, (.t 47))), (1, (1, (.c (.int .u8 7))))])⟩,
   ⟨(some 49), none, (.build [(.bool false), (.int .i64 0), (.int .u16 0), (.int .u32 0), (.int .u32 0), (.slice none 0 0 none), (.int .u16 0), (.slice none 0 0 none), (.slice none 0 0 none)] [(0, (1, (.t 38))), (1, (1, (.t 40))), (2, (1, (.t 43))), (3, (1, (.t 45))), (4, (1, (.c (.int .u32 9)))), (8, (1, (.t 48)))])⟩,
   ⟨(some 9), none, (.alloc [(.bool false), (.int .i64 0), (.int .u16 0), (.int .u32 0), (.int .u32 0), (.slice none 0 0 none), (.int .u16 0), (.slice none 0 0 none), (.slice none 0 0 none)])⟩,
   ⟨none, none, (.store 9 (.t 9) (.t 49))⟩])
 (.seq
 (.reg [⟨(some 51), none, (.mv (.t 5))⟩,
   ⟨(some 52), none, (.fieldAddr 1 1 (.t 8))⟩,
   ⟨(some 53), none, (.load1 (.t 52))⟩,
   ⟨(some 54), none, (.fieldAddr 2 1 (.t 8))⟩,
   ⟨(some 55), none, (.load1 (.t 54))⟩,
   ⟨(some 56), none, (.fieldAddr 4 1 (.t 8))⟩,
   ⟨(some 57), none, (.load1 (.t 56))⟩,
   ⟨(some 58), none, (.loadN 9 (.t 9))⟩,
   ⟨(some 59), none, (.call 12 [(.t 51), (.t 53), (.t 55), (.t 57), (.t 58)])⟩,
   ⟨(some 50), none, (.mv (.t 59))⟩,
   ⟨(some 60), none, (.extract 0 (.t 50))⟩,
   ⟨(some 61), none, (.extract 1 (.t 50))⟩,
   ⟨(some 10), none, (.alloc [(.bool false), (.int .i64 0), (.int .u16 0), (.int .u32 0), (.int .u32 0), (.slice none 0 0 none), (.int .u16 0), (.slice none 0 0 none), (.slice none 0 0 none)])⟩,
   ⟨none, none, (.store 9 (.t 10) (.t 60))⟩,
   ⟨(some 11), none, (.mv (.t 61))⟩])
 (.seq
 (.reg [⟨(some 63), none, (.mv (.t 6))⟩,
   ⟨(some 64), none, (.fieldAddr 1 1 (.t 8))⟩,
   ⟨(some 65), none, (.load1 (.t 64))⟩,
   ⟨(some 66), none, (.fieldAddr 2 1 (.t 8))⟩,
   ⟨(some 67), none, (.load1 (.t 66))⟩,
   ⟨(some 68), none, (.fieldAddr 4 1 (.t 8))⟩,
   ⟨(some 69), none, (.load1 (.t 68))⟩,
   ⟨(some 70), none, (.loadN 9 (.t 9))⟩,
   ⟨(some 71), none, (.call 26 [(.t 63), (.t 65), (.t 67), (.t 69), (.t 70)])⟩,
   ⟨(some 62), none, (.mv (.t 71))⟩,
   ⟨(some 72), none, (.extract 0 (.t 62))⟩,
   ⟨(some 73), none, (.extract 1 (.t 62))⟩,
   ⟨(some 12), none, (.alloc [(.bool false), (.int .i64 0), (.int .u16 0), (.int .u32 0), (.int .u32 0), (.slice none 0 0 none), (.int .u16 0), (.slice none 0 0 none), (.slice none 0 0 none)])⟩,
   ⟨none, none, (.store 9 (.t 12) (.t 72))⟩,
   ⟨(some 13), none, (.mv (.t 73))⟩])
 (.seq
 (.reg [⟨(some 74), none, (.mv (.t 11))⟩,
   ⟨(some 75), none, (.mv (.t 13))⟩,
   ⟨(some 76), none, (.bin .neq .bool (.t 74) (.t 75))⟩,
   ⟨(some 77), none, (.mv (.t 76))⟩,
   ⟨(some 78), (some (77, false)), (.loadN 9 (.t 10))⟩,
   ⟨(some 79), (some (77, false)), (.loadN 9 (.t 12))⟩,
   ⟨(some 80), (some (77, false)), (.call 27 [(.t 78), (.t 79)])⟩,
   ⟨(some 81), (some (77, false)), (.un .not (.t 80))⟩,
   ⟨(some 82), none, (.pick (.t 77) (.c (.bool true)) (.t 81))⟩])
 (.cond (.t 82)
 (.seq
 (.reg [⟨(some 4), none, (.mv (.c (.bool false)))⟩]) .ret) .skip)))))))))))
 (.seq
 (.reg [⟨(some 100), none, (.mv (.t 5))⟩,
   ⟨(some 101), none, (.mv (.t 6))⟩,
   ⟨(some 102), none, (.call 28 [(.t 100), (.t 101)])⟩,
   ⟨(some 103), none, (.un .not (.t 102))⟩])
 (.cond (.t 103)
 (.seq
 (.reg [⟨(some 4), none, (.mv (.c (.bool false)))⟩]) .ret) .skip))))))
 (.reg [⟨(some 26), none, (.mv (.t 7))⟩,
   ⟨(some 27), none, (.bin .add .num (.t 26) (.c (.int .i64 1)))⟩,
   ⟨(some 7), none, (.mv (.t 27))⟩])))
/-- limelight/limelightlaw21.play -/
def af16 : AFunc := ⟨106, [(.tmp 4)],
 (.seq
 (.reg [⟨(some 4), none, (.mv (.c (.bool false)))⟩])
 (.seq
 (.reg [⟨(some 14), none, (.mv (.t 0))⟩,
   ⟨(some 15), none, (.call 8 [(.t 14)])⟩,
   ⟨(some 16), none, (.mv (.t 0))⟩,
   ⟨(some 17), none, (.call 23 [(.t 16)])⟩,
   ⟨(some 5), none, (.mv (.t 15))⟩,
   ⟨(some 6), none, (.mv (.t 17))⟩])
 (.seq
 (.seq
 (.reg [⟨(some 7), none, (.mv (.c (.int .i64 0)))⟩])
 (.block 0
 (.loop af16_l0)))
 (.seq
 (.reg [⟨(some 104), none, (.mv (.t 5))⟩,
   ⟨(some 105), none, (.bin .neq .ptr (.t 104) (.c (.ptr none)))⟩,
   ⟨(some 4), none, (.mv (.t 105))⟩]) .ret))))⟩
theorem caf16 : cFunc Try.prog Try.f16 = some af16 := by kernel_rfl
/-- (*limelight/write.Writer).Lost -/
def af17 : AFunc := ⟨5, [],
 (.reg [⟨(some 2), none, (.mv (.t 0))⟩,
   ⟨(some 3), none, (.nilCheck (.t 2))⟩,
   ⟨(some 4), none, (.fieldAddr 1 1 (.t 3))⟩,
   ⟨none, none, (.store 1 (.t 4) (.c (.int .i64 (-1))))⟩])⟩
theorem caf17 : cFunc Try.prog Try.f17 = some af17 := by kernel_rfl
/-- limelight/clock.Add -/
def af18 : AFunc := ⟨12, [(.tmp 4)],
 (.seq
 (.reg [⟨(some 4), none, (.mv (.c (.int .i64 0)))⟩])
 (.seq
 (.reg [⟨(some 5), none, (.mv (.t 0))⟩,
   ⟨(some 6), none, (.call 29 [(.t 5)])⟩,
   ⟨(some 7), none, (.mv (.t 1))⟩,
   ⟨(some 8), none, (.call 29 [(.t 7)])⟩,
   ⟨(some 9), none, (.bin .add .num (.t 6) (.t 8))⟩,
   ⟨(some 10), none, (.mn [(.t 9), (.c (.int .u64 9223372036854775807))])⟩,
   ⟨(some 11), none, (.conv (.int .i64) (.t 10))⟩,
   ⟨(some 4), none, (.mv (.t 11))⟩]) .ret))⟩
theorem caf18 : cFunc Try.prog Try.f18 = some af18 := by kernel_rfl
/-- limelight/seq.Stamp -/
def af19 : AFunc := ⟨9, [(.tmp 4)],
 (.seq
 (.reg [⟨(some 4), none, (.mv (.c (.int .i64 0)))⟩])
 (.seq
 (.reg [⟨(some 5), none, (.mv (.t 0))⟩,
   ⟨(some 6), none, (.mv (.t 1))⟩,
   ⟨(some 7), none, (.conv (.int .i64) (.t 6))⟩,
   ⟨(some 8), none, (.call 30 [(.t 5), (.t 7), (.c (.int .i64 32))])⟩,
   ⟨(some 4), none, (.mv (.t 8))⟩]) .ret))⟩
theorem caf19 : cFunc Try.prog Try.f19 = some af19 := by kernel_rfl
/-- (*limelight/write.Writer).begin -/
def af20 : AFunc := ⟨64, [],
 (.seq
 (.reg [⟨(some 7), none, (.box (.t 3))⟩])
 (.seq
 (.reg [⟨(some 9), none, (.fieldAddr 3 1 (.t 7))⟩,
   ⟨(some 10), none, (.load1 (.t 9))⟩,
   ⟨(some 11), none, (.conv (.int .i64) (.t 10))⟩,
   ⟨(some 8), none, (.mv (.t 11))⟩])
 (.seq
 (.seq
 (.reg [⟨(some 12), none, (.mv (.t 0))⟩,
   ⟨(some 13), none, (.nilCheck (.t 12))⟩,
   ⟨(some 14), none, (.fieldAddr 4 1 (.t 13))⟩,
   ⟨(some 15), none, (.load1 (.t 14))⟩,
   ⟨(some 16), none, (.bin .geq .num (.t 15) (.c (.int .i64 0)))⟩])
 (.cond (.t 16)
 (.reg [⟨(some 17), none, (.mv (.t 0))⟩,
   ⟨(some 18), none, (.nilCheck (.t 17))⟩,
   ⟨(some 19), none, (.fieldAddr 5 1 (.t 18))⟩,
   ⟨(some 20), none, (.load1 (.t 19))⟩,
   ⟨(some 21), none, (.call 18 [(.t 20), (.c (.int .i64 1))])⟩,
   ⟨(some 8), none, (.mv (.t 21))⟩]) .skip))
 (.seq
 (.reg [⟨(some 22), none, (.mv (.t 0))⟩,
   ⟨(some 23), none, (.mv (.t 1))⟩,
   ⟨(some 24), none, (.nilCheck (.t 22))⟩,
   ⟨(some 25), none, (.fieldAddr 1 1 (.t 24))⟩,
   ⟨none, none, (.store 1 (.t 25) (.t 23))⟩])
 (.seq
 (.reg [⟨(some 26), none, (.mv (.t 0))⟩,
   ⟨(some 27), none, (.nilCheck (.t 26))⟩,
   ⟨(some 28), none, (.fieldAddr 3 1 (.t 27))⟩,
   ⟨(some 29), none, (.load1 (.t 28))⟩,
   ⟨(some 30), none, (.bin .add .num (.t 29) (.c (.int .i64 1)))⟩,
   ⟨(some 31), none, (.nilCheck (.t 26))⟩,
   ⟨(some 32), none, (.fieldAddr 3 1 (.t 31))⟩,
   ⟨none, none, (.store 1 (.t 32) (.t 30))⟩])
 (.seq
 (.reg [⟨(some 33), none, (.mv (.t 0))⟩,
   ⟨(some 34), none, (.fieldAddr 3 1 (.t 7))⟩,
   ⟨(some 35), none, (.load1 (.t 34))⟩,
   ⟨(some 36), none, (.conv (.int .i64) (.t 35))⟩,
   ⟨(some 37), none, (.nilCheck (.t 33))⟩,
   ⟨(some 38), none, (.fieldAddr 7 1 (.t 37))⟩,
   ⟨none, none, (.store 1 (.t 38) (.t 36))⟩])
 (.seq
 (.reg [⟨(some 39), none, (.mv (.t 0))⟩,
   ⟨(some 40), none, (.mv (.t 8))⟩,
   ⟨(some 41), none, (.mv (.t 0))⟩,
   ⟨(some 42), none, (.nilCheck (.t 41))⟩,
   ⟨(some 43), none, (.fieldAddr 7 1 (.t 42))⟩,
   ⟨(some 44), none, (.load1 (.t 43))⟩,
   ⟨(some 45), none, (.bin .sub .num (.t 40) (.t 44))⟩,
   ⟨(some 46), none, (.nilCheck (.t 39))⟩,
   ⟨(some 47), none, (.fieldAddr 8 1 (.t 46))⟩,
   ⟨none, none, (.store 1 (.t 47) (.t 45))⟩])
 (.reg [⟨(some 48), none, (.mv (.t 0))⟩,
   ⟨(some 49), none, (.mv (.t 0))⟩,
   ⟨(some 50), none, (.mv (.t 0))⟩,
   ⟨(some 51), none, (.mv (.t 0))⟩,
   ⟨(some 52), none, (.nilCheck (.t 51))⟩,
   ⟨(some 53), none, (.fieldAddr 4 1 (.t 52))⟩,
   ⟨(some 54), none, (.load1 (.t 53))⟩,
   ⟨(some 55), none, (.call 31 [(.t 54)])⟩,
   ⟨(some 56), none, (.mv (.t 8))⟩,
   ⟨(some 57), none, (.mv (.t 2))⟩,
   ⟨(some 58), none, (.nilCheck (.t 48))⟩,
   ⟨(some 59), none, (.fieldAddr 4 1 (.t 58))⟩,
   ⟨none, none, (.store 1 (.t 59) (.t 55))⟩,
   ⟨(some 60), none, (.nilCheck (.t 49))⟩,
   ⟨(some 61), none, (.fieldAddr 5 1 (.t 60))⟩,
   ⟨none, none, (.store 1 (.t 61) (.t 56))⟩,
   ⟨(some 62), none, (.nilCheck (.t 50))⟩,
   ⟨(some 63), none, (.fieldAddr 6 1 (.t 62))⟩,
   ⟨none, none, (.store 1 (.t 63) (.t 57))⟩]))))))))⟩
theorem caf20 : cFunc Try.prog Try.f20 = some af20 := by kernel_rfl
/-- slices.Clone[[]byte,byte] -/
def af21 : AFunc := ⟨8, [(.tmp 2)],
 (.seq
 (.reg [⟨(some 2), none, (.mv (.c (.slice none 0 0 none)))⟩])
 (.seq
 (.seq
 (.reg [⟨(some 3), none, (.mv (.t 0))⟩,
   ⟨(some 4), none, (.bin .eql .slc (.t 3) (.c (.slice none 0 0 none)))⟩])
 (.cond (.t 4)
 (.seq
 (.reg [⟨(some 2), none, (.mv (.c (.slice none 0 0 none)))⟩]) .ret) .skip))
 (.seq
 (.reg [⟨(some 5), none, (.buildSlice 1 [(.int .u8 0)] 0 [])⟩,
   ⟨(some 6), none, (.mv (.t 0))⟩,
   ⟨(some 7), none, (.append 1 1 (.t 5) (.t 6))⟩,
   ⟨(some 2), none, (.mv (.t 7))⟩]) .ret)))⟩
theorem caf21 : cFunc Try.prog Try.f21 = some af21 := by kernel_rfl
/-- (*limelight/write.Writer).Switches -/
def af22 : AFunc := ⟨7, [(.tmp 2)],
 (.seq
 (.reg [⟨(some 2), none, (.mv (.c (.int .i64 0)))⟩])
 (.seq
 (.reg [⟨(some 3), none, (.mv (.t 0))⟩,
   ⟨(some 4), none, (.nilCheck (.t 3))⟩,
   ⟨(some 5), none, (.fieldAddr 3 1 (.t 4))⟩,
   ⟨(some 6), none, (.load1 (.t 5))⟩,
   ⟨(some 2), none, (.mv (.t 6))⟩]) .ret))⟩
theorem caf22 : cFunc Try.prog Try.f22 = some af22 := by kernel_rfl
/-- limelight/limelightref18.NewWriter -/
def af23 : AFunc := ⟨6, [(.tmp 2)],
 (.seq
 (.reg [⟨(some 2), none, (.mv (.c (.ptr none)))⟩])
 (.seq
 (.reg [⟨(some 3), none, (.mv (.t 0))⟩,
   ⟨(some 4), none, (.build [(.int .u32 0), (.int .i64 0), (.int .i64 0), (.int .i64 0), (.int .i64 0), (.int .i64 0), (.int .i64 0), (.int .i64 0), (.int .i64 0), (.int .i64 0), (.bool false)] [(0, (1, (.t 3))), (1, (1, (.c (.int .i64 (-1))))), (2, (1, (.c (.int .i64 (-1))))), (4, (1, (.c (.int .i64 (-1))))), (5, (1, (.c (.int .i64 (-1)))))])⟩,
   ⟨(some 5), none, (.box (.t 4))⟩,
   ⟨(some 2), none, (.mv (.t 5))⟩]) .ret))⟩
theorem caf23 : cFunc Try.prog Try.f23 = some af23 := by kernel_rfl
/-- (*limelight/limelightref18.Writer).Want -/
def af24 : AFunc := ⟨32, [(.tmp 4)],
 (.seq
 (.reg [⟨(some 4), none, (.mv (.c (.bool false)))⟩])
 (.seq
 (.reg [⟨(some 6), none, (.mv (.t 1))⟩,
   ⟨(some 7), none, (.mx [(.t 6), (.c (.int .i64 (-1)))])⟩,
   ⟨(some 1), none, (.mv (.t 7))⟩])
 (.seq
 (.reg [⟨(some 8), none, (.mv (.t 1))⟩,
   ⟨(some 9), none, (.mv (.t 0))⟩,
   ⟨(some 10), none, (.nilCheck (.t 9))⟩,
   ⟨(some 11), none, (.fieldAddr 2 1 (.t 10))⟩,
   ⟨(some 12), none, (.load1 (.t 11))⟩,
   ⟨(some 13), none, (.bin .neq .num (.t 8) (.t 12))⟩,
   ⟨(some 14), none, (.mv (.t 13))⟩,
   ⟨(some 15), (some (14, true)), (.mv (.t 1))⟩,
   ⟨(some 16), (some (14, true)), (.bin .neq .num (.t 15) (.c (.int .i64 (-1))))⟩,
   ⟨(some 17), none, (.pick (.t 14) (.t 16) (.c (.bool false)))⟩,
   ⟨(some 5), none, (.mv (.t 17))⟩])
 (.seq
 (.reg [⟨(some 18), none, (.mv (.t 0))⟩,
   ⟨(some 19), none, (.mv (.t 1))⟩,
   ⟨(some 20), none, (.nilCheck (.t 18))⟩,
   ⟨(some 21), none, (.fieldAddr 2 1 (.t 20))⟩,
   ⟨none, none, (.store 1 (.t 21) (.t 19))⟩])
 (.seq
 (.seq
 (.reg [⟨(some 22), none, (.mv (.t 0))⟩,
   ⟨(some 23), none, (.nilCheck (.t 22))⟩,
   ⟨(some 24), none, (.fieldAddr 1 1 (.t 23))⟩,
   ⟨(some 25), none, (.load1 (.t 24))⟩,
   ⟨(some 26), none, (.mv (.t 1))⟩,
   ⟨(some 27), none, (.bin .neq .num (.t 25) (.t 26))⟩])
 (.cond (.t 27)
 (.reg [⟨(some 28), none, (.mv (.t 0))⟩,
   ⟨(some 29), none, (.nilCheck (.t 28))⟩,
   ⟨(some 30), none, (.fieldAddr 1 1 (.t 29))⟩,
   ⟨none, none, (.store 1 (.t 30) (.c (.int .i64 (-1))))⟩]) .skip))
 (.seq
 (.reg [⟨(some 31), none, (.mv (.t 5))⟩,
   ⟨(some 4), none, (.mv (.t 31))⟩]) .ret))))))⟩
theorem caf24 : cFunc Try.prog Try.f24 = some af24 := by kernel_rfl
/-- (*limelight/limelightref18.Writer).Lost -/
def af25 : AFunc := ⟨5, [],
 (.reg [⟨(some 2), none, (.mv (.t 0))⟩,
   ⟨(some 3), none, (.nilCheck (.t 2))⟩,
   ⟨(some 4), none, (.fieldAddr 1 1 (.t 3))⟩,
   ⟨none, none, (.store 1 (.t 4) (.c (.int .i64 (-1))))⟩])⟩
theorem caf25 : cFunc Try.prog Try.f25 = some af25 := by kernel_rfl
/-- (*limelight/limelightref18.Writer).Packet -/
def af26 : AFunc := ⟨157, [(.cellN 10 9), (.tmp 11)],
 (.seq
 (.reg [⟨(some 9), none, (.box (.t 4))⟩,
   ⟨(some 10), none, (.alloc [(.bool false), (.int .i64 0), (.int .u16 0), (.int .u32 0), (.int .u32 0), (.slice none 0 0 none), (.int .u16 0), (.slice none 0 0 none), (.slice none 0 0 none)])⟩,
   ⟨(some 11), none, (.mv (.c (.bool false)))⟩])
 (.seq
 (.seq
 (.reg [⟨(some 12), none, (.mv (.t 1))⟩,
   ⟨(some 13), none, (.bin .lss .num (.t 12) (.c (.int .i64 0)))⟩,
   ⟨(some 14), none, (.mv (.t 13))⟩,
   ⟨(some 15), (some (14, false)), (.mv (.t 1))⟩,
   ⟨(some 16), (some (14, false)), (.mv (.t 0))⟩,
   ⟨(some 17), (some (14, false)), (.nilCheck (.t 16))⟩,
   ⟨(some 18), (some (14, false)), (.fieldAddr 2 1 (.t 17))⟩,
   ⟨(some 19), (some (14, false)), (.load1 (.t 18))⟩,
   ⟨(some 20), (some (14, false)), (.bin .neq .num (.t 15) (.t 19))⟩,
   ⟨(some 21), none, (.pick (.t 14) (.c (.bool true)) (.t 20))⟩,
   ⟨(some 22), none, (.mv (.t 21))⟩,
   ⟨(some 23), (some (22, false)), (.mv (.t 2))⟩,
   ⟨(some 24), (some (22, false)), (.bin .lss .num (.t 23) (.c (.int .i64 0)))⟩,
   ⟨(some 25), none, (.pick (.t 22) (.c (.bool true)) (.t 24))⟩])
 (.cond (.t 25)
 (.seq
 (.reg [⟨(some 26), none, (.build [(.bool false), (.int .i64 0), (.int .u16 0), (.int .u32 0), (.int .u32 0), (.slice none 0 0 none), (.int .u16 0), (.slice none 0 0 none), (.slice none 0 0 none)] [])⟩,
   ⟨none, none, (.store 9 (.t 10) (.t 26))⟩,
   ⟨(some 11), none, (.mv (.c (.bool false)))⟩]) .ret) .skip))
 (.seq
 (.seq
 (.reg [⟨(some 27), none, (.mv (.t 0))⟩,
   ⟨(some 28), none, (.nilCheck (.t 27))⟩,
   ⟨(some 29), none, (.fieldAddr 1 1 (.t 28))⟩,
   ⟨(some 30), none, (.load1 (.t 29))⟩,
   ⟨(some 31), none, (.mv (.t 1))⟩,
   ⟨(some 32), none, (.bin .neq .num (.t 30) (.t 31))⟩])
 (.cond (.t 32)
 (.seq
 (.seq
 (.reg [⟨(some 33), none, (.mv (.t 3))⟩,
   ⟨(some 34), none, (.un .not (.t 33))⟩])
 (.cond (.t 34)
 (.seq
 (.reg [⟨(some 35), none, (.build [(.bool false), (.int .i64 0), (.int .u16 0), (.int .u32 0), (.int .u32 0), (.slice none 0 0 none), (.int .u16 0), (.slice none 0 0 none), (.slice none 0 0 none)] [])⟩,
   ⟨none, none, (.store 9 (.t 10) (.t 35))⟩,
   ⟨(some 11), none, (.mv (.c (.bool false)))⟩]) .ret) .skip))
 (.seq
 (.reg [⟨(some 36), none, (.mv (.t 0))⟩,
   ⟨(some 37), none, (.mv (.t 0))⟩,
   ⟨(some 38), none, (.mv (.t 1))⟩,
   ⟨(some 39), none, (.mv (.t 0))⟩,
   ⟨(some 40), none, (.nilCheck (.t 39))⟩,
   ⟨(some 41), none, (.fieldAddr 3 1 (.t 40))⟩,
   ⟨(some 42), none, (.load1 (.t 41))⟩,
   ⟨(some 43), none, (.bin .add .num (.t 42) (.c (.int .i64 1)))⟩,
   ⟨(some 44), none, (.nilCheck (.t 36))⟩,
   ⟨(some 45), none, (.fieldAddr 1 1 (.t 44))⟩,
   ⟨none, none, (.store 1 (.t 45) (.t 38))⟩,
   ⟨(some 46), none, (.nilCheck (.t 37))⟩,
   ⟨(some 47), none, (.fieldAddr 3 1 (.t 46))⟩,
   ⟨none, none, (.store 1 (.t 47) (.t 43))⟩])
 (.seq
 (.dreg [⟨(some 48), none, (.mv (.t 0))⟩,
   ⟨(some 49), none, (.mv (.t 0))⟩,
   ⟨(some 50), none, (.mv (.t 0))⟩,
   ⟨(some 51), none, (.nilCheck (.t 50))⟩,
   ⟨(some 52), none, (.fieldAddr 4 1 (.t 51))⟩,
   ⟨(some 53), none, (.load1 (.t 52))⟩,
   ⟨(some 54), none, (.bin .add .num (.t 53) (.c (.int .i64 1)))⟩,
   ⟨(some 55), none, (.mv (.t 2))⟩,
   ⟨(some 56), none, (.bin .sub .num (.t 54) (.t 55))⟩,
   ⟨(some 57), none, (.fieldAddr 3 1 (.t 9))⟩,
   ⟨(some 58), none, (.load1 (.t 57))⟩,
   ⟨(some 59), none, (.conv (.int .i64) (.t 58))⟩,
   ⟨(some 60), none, (.nilCheck (.t 48))⟩,
   ⟨(some 61), none, (.fieldAddr 8 1 (.t 60))⟩,
   ⟨none, none, (.store 1 (.t 61) (.t 56))⟩,
   ⟨(some 62), none, (.nilCheck (.t 49))⟩,
   ⟨(some 63), none, (.fieldAddr 7 1 (.t 62))⟩,
   ⟨none, none, (.store 1 (.t 63) (.t 59))⟩] [(10, 15)])
 (.seq
 (.dreg [⟨(some 64), none, (.mv (.t 0))⟩,
   ⟨(some 65), none, (.mv (.t 0))⟩,
   ⟨(some 66), none, (.nilCheck (.t 65))⟩,
   ⟨(some 67), none, (.fieldAddr 5 1 (.t 66))⟩,
   ⟨(some 68), none, (.load1 (.t 67))⟩,
   ⟨(some 69), none, (.bin .add .num (.t 68) (.c (.int .i64 1)))⟩,
   ⟨(some 70), none, (.fieldAddr 3 1 (.t 9))⟩,
   ⟨(some 71), none, (.load1 (.t 70))⟩,
   ⟨(some 72), none, (.conv (.int .i64) (.t 71))⟩,
   ⟨(some 73), none, (.bin .sub .num (.t 69) (.t 72))⟩,
   ⟨(some 74), none, (.nilCheck (.t 64))⟩,
   ⟨(some 75), none, (.fieldAddr 9 1 (.t 74))⟩,
   ⟨none, none, (.store 1 (.t 75) (.t 73))⟩] [])
 (.seq
 (.reg [⟨(some 76), none, (.mv (.t 0))⟩,
   ⟨(some 77), none, (.nilCheck (.t 76))⟩,
   ⟨(some 78), none, (.fieldAddr 10 1 (.t 77))⟩,
   ⟨(some 79), none, (.load1 (.t 78))⟩,
   ⟨(some 80), none, (.un .not (.t 79))⟩])
 (.cond (.t 80)
 (.reg [⟨(some 81), none, (.mv (.t 0))⟩,
   ⟨(some 82), none, (.nilCheck (.t 81))⟩,
   ⟨(some 83), none, (.fieldAddr 9 1 (.t 82))⟩,
   ⟨none, none, (.store 1 (.t 83) (.c (.int .i64 0)))⟩]) .skip))))))
 (.seq
 (.reg [⟨(some 84), none, (.mv (.t 2))⟩,
   ⟨(some 85), none, (.mv (.t 0))⟩,
   ⟨(some 86), none, (.nilCheck (.t 85))⟩,
   ⟨(some 87), none, (.fieldAddr 6 1 (.t 86))⟩,
   ⟨(some 88), none, (.load1 (.t 87))⟩,
   ⟨(some 89), none, (.bin .leq .num (.t 84) (.t 88))⟩])
 (.cond (.t 89)
 (.seq
 (.reg [⟨(some 90), none, (.build [(.bool false), (.int .i64 0), (.int .u16 0), (.int .u32 0), (.int .u32 0), (.slice none 0 0 none), (.int .u16 0), (.slice none 0 0 none), (.slice none 0 0 none)] [])⟩,
   ⟨none, none, (.store 9 (.t 10) (.t 90))⟩,
   ⟨(some 11), none, (.mv (.c (.bool false)))⟩]) .ret)
 (.dreg [⟨(some 91), none, (.mv (.t 0))⟩,
   ⟨(some 92), none, (.mv (.t 0))⟩,
   ⟨(some 93), none, (.nilCheck (.t 92))⟩,
   ⟨(some 94), none, (.fieldAddr 7 1 (.t 93))⟩,
   ⟨(some 95), none, (.load1 (.t 94))⟩,
   ⟨(some 96), none, (.fieldAddr 3 1 (.t 9))⟩,
   ⟨(some 97), none, (.load1 (.t 96))⟩,
   ⟨(some 98), none, (.call 32 [(.t 95), (.t 97)])⟩,
   ⟨(some 99), none, (.nilCheck (.t 91))⟩,
   ⟨(some 100), none, (.fieldAddr 7 1 (.t 99))⟩,
   ⟨none, none, (.store 1 (.t 100) (.t 98))⟩] [])))))
 (.seq
 (.reg [⟨(some 101), none, (.mv (.t 0))⟩,
   ⟨(some 102), none, (.mv (.t 0))⟩,
   ⟨(some 103), none, (.mv (.t 2))⟩,
   ⟨(some 104), none, (.nilCheck (.t 101))⟩,
   ⟨(some 105), none, (.fieldAddr 6 1 (.t 104))⟩,
   ⟨none, none, (.store 1 (.t 105) (.t 103))⟩,
   ⟨(some 106), none, (.nilCheck (.t 102))⟩,
   ⟨(some 107), none, (.fieldAddr 10 1 (.t 106))⟩,
   ⟨none, none, (.store 1 (.t 107) (.c (.bool true)))⟩])
 (.seq
 (.reg [⟨(some 108), none, (.mv (.t 0))⟩,
   ⟨(some 109), none, (.mv (.t 2))⟩,
   ⟨(some 110), none, (.mv (.t 0))⟩,
   ⟨(some 111), none, (.nilCheck (.t 110))⟩,
   ⟨(some 112), none, (.fieldAddr 8 1 (.t 111))⟩,
   ⟨(some 113), none, (.load1 (.t 112))⟩,
   ⟨(some 114), none, (.bin .add .num (.t 109) (.t 113))⟩,
   ⟨(some 115), none, (.nilCheck (.t 108))⟩,
   ⟨(some 116), none, (.fieldAddr 4 1 (.t 115))⟩,
   ⟨none, none, (.store 1 (.t 116) (.t 114))⟩])
 (.seq
 (.dreg [⟨(some 117), none, (.mv (.t 0))⟩,
   ⟨(some 118), none, (.mv (.t 0))⟩,
   ⟨(some 119), none, (.nilCheck (.t 118))⟩,
   ⟨(some 120), none, (.fieldAddr 5 1 (.t 119))⟩,
   ⟨(some 121), none, (.load1 (.t 120))⟩,
   ⟨(some 122), none, (.mv (.t 0))⟩,
   ⟨(some 123), none, (.nilCheck (.t 122))⟩,
   ⟨(some 124), none, (.fieldAddr 7 1 (.t 123))⟩,
   ⟨(some 125), none, (.load1 (.t 124))⟩,
   ⟨(some 126), none, (.mv (.t 0))⟩,
   ⟨(some 127), none, (.nilCheck (.t 126))⟩,
   ⟨(some 128), none, (.fieldAddr 9 1 (.t 127))⟩,
   ⟨(some 129), none, (.load1 (.t 128))⟩,
   ⟨(some 130), none, (.bin .add .num (.t 125) (.t 129))⟩,
   ⟨(some 131), none, (.mx [(.t 121), (.t 130)])⟩,
   ⟨(some 132), none, (.nilCheck (.t 117))⟩,
   ⟨(some 133), none, (.fieldAddr 5 1 (.t 132))⟩,
   ⟨none, none, (.store 1 (.t 133) (.t 131))⟩] [])
 (.seq
 (.dreg [⟨(some 134), none, (.fieldAddr 0 1 (.t 9))⟩,
   ⟨(some 135), none, (.load1 (.t 134))⟩,
   ⟨(some 136), none, (.fieldAddr 1 1 (.t 9))⟩,
   ⟨(some 137), none, (.load1 (.t 136))⟩,
   ⟨(some 138), none, (.mv (.t 0))⟩,
   ⟨(some 139), none, (.nilCheck (.t 138))⟩,
   ⟨(some 140), none, (.fieldAddr 4 1 (.t 139))⟩,
   ⟨(some 141), none, (.load1 (.t 140))⟩,
   ⟨(some 142), none, (.conv (.int .u16) (.t 141))⟩,
   ⟨(some 143), none, (.mv (.t 0))⟩,
   ⟨(some 144), none, (.nilCheck (.t 143))⟩,
   ⟨(some 145), none, (.fieldAddr 5 1 (.t 144))⟩,
   ⟨(some 146), none, (.load1 (.t 145))⟩,
   ⟨(some 147), none, (.conv (.int .u32) (.t 146))⟩,
   ⟨(some 148), none, (.mv (.t 0))⟩,
   ⟨(some 149), none, (.nilCheck (.t 148))⟩,
   ⟨(some 150), none, (.fieldAddr 0 1 (.t 149))⟩,
   ⟨(some 151), none, (.load1 (.t 150))⟩,
   ⟨(some 152), none, (.buildSlice 1 [(.int .u8 0)] 0 [])⟩,
   ⟨(some 153), none, (.fieldAddr 8 1 (.t 9))⟩,
   ⟨(some 154), none, (.load1 (.t 153))⟩,
   ⟨(some 155), none, (.append 1 1 (.t 152) (.t 154))⟩,
   ⟨(some 156), none, (.build [(.bool false), (.int .i64 0), (.int .u16 0), (.int .u32 0), (.int .u32 0), (.slice none 0 0 none), (.int .u16 0), (.slice none 0 0 none), (.slice none 0 0 none)] [(0, (1, (.t 135))), (1, (1, (.t 137))), (2, (1, (.t 142))), (3, (1, (.t 147))), (4, (1, (.t 151))), (8, (1, (.t 155)))])⟩,
   ⟨none, none, (.store 9 (.t 10) (.t 156))⟩,
   ⟨(some 11), none, (.mv (.c (.bool true)))⟩] [(1, 19), (1, 22), (3, 19), (3, 22), (7, 19), (7, 22), (12, 19), (12, 22), (17, 19), (17, 22), (20, 18)]) .ret)))))))⟩
theorem caf26 : cFunc Try.prog Try.f26 = some af26 := by kernel_rfl
/-- limelight/limelightlaw21.packet -/
def af27 : AFunc := ⟨64, [(.tmp 4)],
 (.seq
 (.reg [⟨(some 2), none, (.box (.t 0))⟩,
   ⟨(some 3), none, (.box (.t 1))⟩,
   ⟨(some 4), none, (.mv (.c (.bool false)))⟩])
 (.seq
 (.reg [⟨(some 5), none, (.fieldAddr 0 1 (.t 2))⟩,
   ⟨(some 6), none, (.load1 (.t 5))⟩,
   ⟨(some 7), none, (.fieldAddr 0 1 (.t 3))⟩,
   ⟨(some 8), none, (.load1 (.t 7))⟩,
   ⟨(some 9), none, (.bin .eql .bool (.t 6) (.t 8))⟩,
   ⟨(some 10), none, (.mv (.t 9))⟩,
   ⟨(some 11), (some (10, true)), (.fieldAddr 1 1 (.t 2))⟩,
   ⟨(some 12), (some (10, true)), (.load1 (.t 11))⟩,
   ⟨(some 13), (some (10, true)), (.fieldAddr 1 1 (.t 3))⟩,
   ⟨(some 14), (some (10, true)), (.load1 (.t 13))⟩,
   ⟨(some 15), (some (10, true)), (.bin .eql .num (.t 12) (.t 14))⟩,
   ⟨(some 16), none, (.pick (.t 10) (.t 15) (.c (.bool false)))⟩,
   ⟨(some 17), none, (.mv (.t 16))⟩,
   ⟨(some 18), (some (17, true)), (.fieldAddr 2 1 (.t 2))⟩,
   ⟨(some 19), (some (17, true)), (.load1 (.t 18))⟩,
   ⟨(some 20), (some (17, true)), (.fieldAddr 2 1 (.t 3))⟩,
   ⟨(some 21), (some (17, true)), (.load1 (.t 20))⟩,
   ⟨(some 22), (some (17, true)), (.bin .eql .num (.t 19) (.t 21))⟩,
   ⟨(some 23), none, (.pick (.t 17) (.t 22) (.c (.bool false)))⟩,
   ⟨(some 24), none, (.mv (.t 23))⟩,
   ⟨(some 25), (some (24, true)), (.fieldAddr 3 1 (.t 2))⟩,
   ⟨(some 26), (some (24, true)), (.load1 (.t 25))⟩,
   ⟨(some 27), (some (24, true)), (.fieldAddr 3 1 (.t 3))⟩,
   ⟨(some 28), (some (24, true)), (.load1 (.t 27))⟩,
   ⟨(some 29), (some (24, true)), (.bin .eql .num (.t 26) (.t 28))⟩,
   ⟨(some 30), none, (.pick (.t 24) (.t 29) (.c (.bool false)))⟩,
   ⟨(some 31), none, (.mv (.t 30))⟩,
   ⟨(some 32), (some (31, true)), (.fieldAddr 4 1 (.t 2))⟩,
   ⟨(some 33), (some (31, true)), (.load1 (.t 32))⟩,
   ⟨(some 34), (some (31, true)), (.fieldAddr 4 1 (.t 3))⟩,
   ⟨(some 35), (some (31, true)), (.load1 (.t 34))⟩,
   ⟨(some 36), (some (31, true)), (.bin .eql .num (.t 33) (.t 35))⟩,
   ⟨(some 37), none, (.pick (.t 31) (.t 36) (.c (.bool false)))⟩,
   ⟨(some 38), none, (.mv (.t 37))⟩,
   ⟨(some 39), (some (38, true)), (.fieldAddr 5 1 (.t 2))⟩,
   ⟨(some 40), (some (38, true)), (.load1 (.t 39))⟩,
   ⟨(some 41), (some (38, true)), (.len (.t 40))⟩,
   ⟨(some 42), (some (38, true)), (.bin .eql .num (.t 41) (.c (.int .i64 0)))⟩,
   ⟨(some 43), none, (.pick (.t 38) (.t 42) (.c (.bool false)))⟩,
   ⟨(some 44), none, (.mv (.t 43))⟩,
   ⟨(some 45), (some (44, true)), (.fieldAddr 6 1 (.t 2))⟩,
   ⟨(some 46), (some (44, true)), (.load1 (.t 45))⟩,
   ⟨(some 47), (some (44, true)), (.bin .eql .num (.t 46) (.c (.int .u16 0)))⟩,
   ⟨(some 48), none, (.pick (.t 44) (.t 47) (.c (.bool false)))⟩,
   ⟨(some 49), none, (.mv (.t 48))⟩,
   ⟨(some 50), (some (49, true)), (.fieldAddr 7 1 (.t 2))⟩,
   ⟨(some 51), (some (49, true)), (.load1 (.t 50))⟩,
   ⟨(some 52), (some (49, true)), (.len (.t 51))⟩,
   ⟨(some 53), (some (49, true)), (.bin .eql .num (.t 52) (.c (.int .i64 0)))⟩,
   ⟨(some 54), none, (.pick (.t 49) (.t 53) (.c (.bool false)))⟩,
   ⟨(some 55), none, (.mv (.t 54))⟩,
   ⟨(some 56), (some (55, true)), (.fieldAddr 8 1 (.t 2))⟩,
   ⟨(some 57), (some (55, true)), (.load1 (.t 56))⟩,
   ⟨(some 58), (some (55, true)), (.conv .bytesStr (.t 57))⟩,
   ⟨(some 59), (some (55, true)), (.fieldAddr 8 1 (.t 3))⟩,
   ⟨(some 60), (some (55, true)), (.load1 (.t 59))⟩,
   ⟨(some 61), (some (55, true)), (.conv .bytesStr (.t 60))⟩,
   ⟨(some 62), (some (55, true)), (.bin .eql .str (.t 58) (.t 61))⟩,
   ⟨(some 63), none, (.pick (.t 55) (.t 62) (.c (.bool false)))⟩,
   ⟨(some 4), none, (.mv (.t 63))⟩]) .ret))⟩
theorem caf27 : cFunc Try.prog Try.f27 = some af27 := by kernel_rfl
/-- limelight/limelightlaw21.same -/
def af28 : AFunc := ⟨39, [(.tmp 4)],
 (.seq
 (.reg [⟨(some 4), none, (.mv (.c (.bool false)))⟩])
 (.seq
 (.dreg [⟨(some 5), none, (.mv (.t 0))⟩,
   ⟨(some 6), none, (.call 10 [(.t 5)])⟩,
   ⟨(some 7), none, (.mv (.t 1))⟩,
   ⟨(some 8), none, (.nilCheck (.t 7))⟩,
   ⟨(some 9), none, (.fieldAddr 1 1 (.t 8))⟩,
   ⟨(some 10), none, (.load1 (.t 9))⟩,
   ⟨(some 11), none, (.bin .eql .num (.t 6) (.t 10))⟩,
   ⟨(some 12), none, (.mv (.t 11))⟩,
   ⟨(some 13), (some (12, true)), (.mv (.t 0))⟩,
   ⟨(some 14), (some (12, true)), (.call 15 [(.t 13)])⟩,
   ⟨(some 15), (some (12, true)), (.mv (.t 1))⟩,
   ⟨(some 16), (some (12, true)), (.nilCheck (.t 15))⟩,
   ⟨(some 17), (some (12, true)), (.fieldAddr 2 1 (.t 16))⟩,
   ⟨(some 18), (some (12, true)), (.load1 (.t 17))⟩,
   ⟨(some 19), (some (12, true)), (.bin .eql .num (.t 14) (.t 18))⟩,
   ⟨(some 20), none, (.pick (.t 12) (.t 19) (.c (.bool false)))⟩,
   ⟨(some 21), none, (.mv (.t 20))⟩,
   ⟨(some 22), (some (21, true)), (.mv (.t 0))⟩,
   ⟨(some 23), (some (21, true)), (.call 22 [(.t 22)])⟩,
   ⟨(some 24), (some (21, true)), (.mv (.t 1))⟩,
   ⟨(some 25), (some (21, true)), (.nilCheck (.t 24))⟩,
   ⟨(some 26), (some (21, true)), (.fieldAddr 3 1 (.t 25))⟩,
   ⟨(some 27), (some (21, true)), (.load1 (.t 26))⟩,
   ⟨(some 28), (some (21, true)), (.bin .eql .num (.t 23) (.t 27))⟩,
   ⟨(some 29), none, (.pick (.t 21) (.t 28) (.c (.bool false)))⟩,
   ⟨(some 30), none, (.mv (.t 29))⟩,
   ⟨(some 31), (some (30, true)), (.mv (.t 0))⟩,
   ⟨(some 32), (some (30, true)), (.call 13 [(.t 31)])⟩,
   ⟨(some 33), (some (30, true)), (.mv (.t 1))⟩,
   ⟨(some 34), (some (30, true)), (.nilCheck (.t 33))⟩,
   ⟨(some 35), (some (30, true)), (.fieldAddr 4 1 (.t 34))⟩,
   ⟨(some 36), (some (30, true)), (.load1 (.t 35))⟩,
   ⟨(some 37), (some (30, true)), (.bin .eql .num (.t 32) (.t 36))⟩,
   ⟨(some 38), none, (.pick (.t 30) (.t 37) (.c (.bool false)))⟩,
   ⟨(some 4), none, (.mv (.t 38))⟩] [(5, 1), (13, 9), (22, 18), (31, 27)]) .ret))⟩
theorem caf28 : cFunc Try.prog Try.f28 = some af28 := by kernel_rfl
/-- limelight/clock.up -/
def af29 : AFunc := ⟨6, [(.tmp 2)],
 (.seq
 (.reg [⟨(some 2), none, (.mv (.c (.int .u64 0)))⟩])
 (.seq
 (.reg [⟨(some 3), none, (.mv (.t 0))⟩,
   ⟨(some 4), none, (.mx [(.c (.int .i64 0)), (.t 3)])⟩,
   ⟨(some 5), none, (.conv (.int .u64) (.t 4))⟩,
   ⟨(some 2), none, (.mv (.t 5))⟩]) .ret))⟩
theorem caf29 : cFunc Try.prog Try.f29 = some af29 := by kernel_rfl
/-- limelight/seq.extend -/
def af30 : AFunc := ⟨46, [(.tmp 6)],
 (.seq
 (.reg [⟨(some 6), none, (.mv (.c (.int .i64 0)))⟩])
 (.seq
 (.reg [⟨(some 9), none, (.mv (.t 2))⟩,
   ⟨(some 10), none, (.bin .shl .num (.c (.int .i64 1)) (.t 9))⟩,
   ⟨(some 7), none, (.mv (.t 10))⟩])
 (.seq
 (.seq
 (.reg [⟨(some 11), none, (.mv (.t 0))⟩,
   ⟨(some 12), none, (.bin .lss .num (.t 11) (.c (.int .i64 0)))⟩])
 (.cond (.t 12)
 (.seq
 (.reg [⟨(some 13), none, (.mv (.t 1))⟩,
   ⟨(some 6), none, (.mv (.t 13))⟩]) .ret) .skip))
 (.seq
 (.reg [⟨(some 14), none, (.mv (.t 1))⟩,
   ⟨(some 15), none, (.mv (.t 0))⟩,
   ⟨(some 16), none, (.mv (.t 7))⟩,
   ⟨(some 17), none, (.bin .sub .num (.t 16) (.c (.int .i64 1)))⟩,
   ⟨(some 18), none, (.bin .and .num (.t 15) (.t 17))⟩,
   ⟨(some 19), none, (.bin .sub .num (.t 14) (.t 18))⟩,
   ⟨(some 20), none, (.mv (.t 7))⟩,
   ⟨(some 21), none, (.bin .add .num (.t 19) (.t 20))⟩,
   ⟨(some 22), none, (.mv (.t 7))⟩,
   ⟨(some 23), none, (.bin .sub .num (.t 22) (.c (.int .i64 1)))⟩,
   ⟨(some 24), none, (.bin .and .num (.t 21) (.t 23))⟩,
   ⟨(some 8), none, (.mv (.t 24))⟩])
 (.seq
 (.seq
 (.reg [⟨(some 25), none, (.mv (.t 8))⟩,
   ⟨(some 26), none, (.mv (.t 7))⟩,
   ⟨(some 27), none, (.bin .quo .num (.t 26) (.c (.int .i64 2)))⟩,
   ⟨(some 28), none, (.bin .gtr .num (.t 25) (.t 27))⟩,
   ⟨(some 29), none, (.mv (.t 28))⟩,
   ⟨(some 30), (some (29, false)), (.mv (.t 0))⟩,
   ⟨(some 31), (some (29, false)), (.mv (.t 8))⟩,
   ⟨(some 32), (some (29, false)), (.bin .sub .num (.c (.int .i64 9223372036854775807)) (.t 31))⟩,
   ⟨(some 33), (some (29, false)), (.bin .gtr .num (.t 30) (.t 32))⟩,
   ⟨(some 34), none, (.pick (.t 29) (.c (.bool true)) (.t 33))⟩])
 (.cond (.t 34)
 (.reg [⟨(some 35), none, (.mv (.t 8))⟩,
   ⟨(some 36), none, (.mv (.t 7))⟩,
   ⟨(some 37), none, (.bin .sub .num (.t 35) (.t 36))⟩,
   ⟨(some 8), none, (.mv (.t 37))⟩]) .skip))
 (.seq
 (.seq
 (.reg [⟨(some 38), none, (.mv (.t 0))⟩,
   ⟨(some 39), none, (.mv (.t 8))⟩,
   ⟨(some 40), none, (.bin .add .num (.t 38) (.t 39))⟩,
   ⟨(some 41), none, (.bin .lss .num (.t 40) (.c (.int .i64 0)))⟩])
 (.cond (.t 41)
 (.seq
 (.reg [⟨(some 42), none, (.mv (.t 1))⟩,
   ⟨(some 6), none, (.mv (.t 42))⟩]) .ret) .skip))
 (.seq
 (.reg [⟨(some 43), none, (.mv (.t 0))⟩,
   ⟨(some 44), none, (.mv (.t 8))⟩,
   ⟨(some 45), none, (.bin .add .num (.t 43) (.t 44))⟩,
   ⟨(some 6), none, (.mv (.t 45))⟩]) .ret)))))))⟩
theorem caf30 : cFunc Try.prog Try.f30 = some af30 := by kernel_rfl
/-- limelight/write.next -/
def af31 : AFunc := ⟨7, [(.tmp 2)],
 (.seq
 (.reg [⟨(some 2), none, (.mv (.c (.int .i64 0)))⟩])
 (.seq
 (.seq
 (.reg [⟨(some 3), none, (.mv (.t 0))⟩,
   ⟨(some 4), none, (.bin .lss .num (.t 3) (.c (.int .i64 0)))⟩])
 (.cond (.t 4)
 (.seq
 (.reg [⟨(some 2), none, (.mv (.c (.int .i64 0)))⟩]) .ret) .skip))
 (.seq
 (.reg [⟨(some 5), none, (.mv (.t 0))⟩,
   ⟨(some 6), none, (.call 18 [(.t 5), (.c (.int .i64 1))])⟩,
   ⟨(some 2), none, (.mv (.t 6))⟩]) .ret)))⟩
theorem caf31 : cFunc Try.prog Try.f31 = some af31 := by kernel_rfl
/-- limelight/limelightref15.Stamp -/
def af32 : AFunc := ⟨9, [(.tmp 4)],
 (.seq
 (.reg [⟨(some 4), none, (.mv (.c (.int .i64 0)))⟩])
 (.seq
 (.reg [⟨(some 5), none, (.mv (.t 0))⟩,
   ⟨(some 6), none, (.mv (.t 1))⟩,
   ⟨(some 7), none, (.conv (.int .i64) (.t 6))⟩,
   ⟨(some 8), none, (.call 33 [(.t 5), (.t 7), (.c (.int .i64 4294967296))])⟩,
   ⟨(some 4), none, (.mv (.t 8))⟩]) .ret))⟩
theorem caf32 : cFunc Try.prog Try.f32 = some af32 := by kernel_rfl
/-- limelight/limelightref15.next -/
def af33 : AFunc := ⟨47, [(.tmp 6)],
 (.seq
 (.reg [⟨(some 6), none, (.mv (.c (.int .i64 0)))⟩])
 (.seq
 (.seq
 (.reg [⟨(some 8), none, (.mv (.t 0))⟩,
   ⟨(some 9), none, (.bin .lss .num (.t 8) (.c (.int .i64 0)))⟩])
 (.cond (.t 9)
 (.seq
 (.reg [⟨(some 10), none, (.mv (.t 1))⟩,
   ⟨(some 6), none, (.mv (.t 10))⟩]) .ret) .skip))
 (.seq
 (.reg [⟨(some 11), none, (.mv (.t 0))⟩,
   ⟨(some 12), none, (.mv (.t 0))⟩,
   ⟨(some 13), none, (.mv (.t 2))⟩,
   ⟨(some 14), none, (.bin .rem .num (.t 12) (.t 13))⟩,
   ⟨(some 15), none, (.bin .sub .num (.t 11) (.t 14))⟩,
   ⟨(some 16), none, (.mv (.t 1))⟩,
   ⟨(some 17), none, (.bin .add .num (.t 15) (.t 16))⟩,
   ⟨(some 7), none, (.mv (.t 17))⟩])
 (.seq
 (.seq
 (.reg [⟨(some 18), none, (.mv (.t 0))⟩,
   ⟨(some 19), none, (.mv (.t 7))⟩,
   ⟨(some 20), none, (.bin .sub .num (.t 18) (.t 19))⟩,
   ⟨(some 21), none, (.mv (.t 2))⟩,
   ⟨(some 22), none, (.bin .quo .num (.t 21) (.c (.int .i64 2)))⟩,
   ⟨(some 23), none, (.bin .geq .num (.t 20) (.t 22))⟩])
 (.cond (.t 23)
 (.seq
 (.seq
 (.reg [⟨(some 24), none, (.mv (.t 7))⟩,
   ⟨(some 25), none, (.mv (.t 2))⟩,
   ⟨(some 26), none, (.bin .sub .num (.c (.int .i64 9223372036854775807)) (.t 25))⟩,
   ⟨(some 27), none, (.bin .gtr .num (.t 24) (.t 26))⟩])
 (.cond (.t 27)
 (.seq
 (.reg [⟨(some 28), none, (.mv (.t 7))⟩,
   ⟨(some 6), none, (.mv (.t 28))⟩]) .ret) .skip))
 (.reg [⟨(some 29), none, (.mv (.t 7))⟩,
   ⟨(some 30), none, (.mv (.t 2))⟩,
   ⟨(some 31), none, (.bin .add .num (.t 29) (.t 30))⟩,
   ⟨(some 7), none, (.mv (.t 31))⟩])) .skip))
 (.seq
 (.seq
 (.reg [⟨(some 32), none, (.mv (.t 7))⟩,
   ⟨(some 33), none, (.mv (.t 0))⟩,
   ⟨(some 34), none, (.bin .sub .num (.t 32) (.t 33))⟩,
   ⟨(some 35), none, (.mv (.t 2))⟩,
   ⟨(some 36), none, (.bin .quo .num (.t 35) (.c (.int .i64 2)))⟩,
   ⟨(some 37), none, (.bin .gtr .num (.t 34) (.t 36))⟩,
   ⟨(some 38), none, (.mv (.t 37))⟩,
   ⟨(some 39), (some (38, true)), (.mv (.t 7))⟩,
   ⟨(some 40), (some (38, true)), (.mv (.t 2))⟩,
   ⟨(some 41), (some (38, true)), (.bin .geq .num (.t 39) (.t 40))⟩,
   ⟨(some 42), none, (.pick (.t 38) (.t 41) (.c (.bool false)))⟩])
 (.cond (.t 42)
 (.reg [⟨(some 43), none, (.mv (.t 7))⟩,
   ⟨(some 44), none, (.mv (.t 2))⟩,
   ⟨(some 45), none, (.bin .sub .num (.t 43) (.t 44))⟩,
   ⟨(some 7), none, (.mv (.t 45))⟩]) .skip))
 (.seq
 (.reg [⟨(some 46), none, (.mv (.t 7))⟩,
   ⟨(some 6), none, (.mv (.t 46))⟩]) .ret))))))⟩
theorem caf33 : cFunc Try.prog Try.f33 = some af33 := by kernel_rfl
def AP : Nat → Option AFunc
  | 3 => some af3
  | 4 => some af4
  | 5 => some af5
  | 6 => some af6
  | 7 => some af7
  | 8 => some af8
  | 9 => some af9
  | 10 => some af10
  | 11 => some af11
  | 12 => some af12
  | 13 => some af13
  | 14 => some af14
  | 15 => some af15
  | 16 => some af16
  | 17 => some af17
  | 18 => some af18
  | 19 => some af19
  | 20 => some af20
  | 21 => some af21
  | 22 => some af22
  | 23 => some af23
  | 24 => some af24
  | 25 => some af25
  | 26 => some af26
  | 27 => some af27
  | 28 => some af28
  | 29 => some af29
  | 30 => some af30
  | 31 => some af31
  | 32 => some af32
  | 33 => some af33
  | _ => none
theorem apOk : APOk Try.prog AP := by
  intro f af h
  unfold AP at h
  split at h
  · cases h; exact ⟨_, Try.func3, caf3⟩
  · cases h; exact ⟨_, Try.func4, caf4⟩
  · cases h; exact ⟨_, Try.func5, caf5⟩
  · cases h; exact ⟨_, Try.func6, caf6⟩
  · cases h; exact ⟨_, Try.func7, caf7⟩
  · cases h; exact ⟨_, Try.func8, caf8⟩
  · cases h; exact ⟨_, Try.func9, caf9⟩
  · cases h; exact ⟨_, Try.func10, caf10⟩
  · cases h; exact ⟨_, Try.func11, caf11⟩
  · cases h; exact ⟨_, Try.func12, caf12⟩
  · cases h; exact ⟨_, Try.func13, caf13⟩
  · cases h; exact ⟨_, Try.func14, caf14⟩
  · cases h; exact ⟨_, Try.func15, caf15⟩
  · cases h; exact ⟨_, Try.func16, caf16⟩
  · cases h; exact ⟨_, Try.func17, caf17⟩
  · cases h; exact ⟨_, Try.func18, caf18⟩
  · cases h; exact ⟨_, Try.func19, caf19⟩
  · cases h; exact ⟨_, Try.func20, caf20⟩
  · cases h; exact ⟨_, Try.func21, caf21⟩
  · cases h; exact ⟨_, Try.func22, caf22⟩
  · cases h; exact ⟨_, Try.func23, caf23⟩
  · cases h; exact ⟨_, Try.func24, caf24⟩
  · cases h; exact ⟨_, Try.func25, caf25⟩
  · cases h; exact ⟨_, Try.func26, caf26⟩
  · cases h; exact ⟨_, Try.func27, caf27⟩
  · cases h; exact ⟨_, Try.func28, caf28⟩
  · cases h; exact ⟨_, Try.func29, caf29⟩
  · cases h; exact ⟨_, Try.func30, caf30⟩
  · cases h; exact ⟨_, Try.func31, caf31⟩
  · cases h; exact ⟨_, Try.func32, caf32⟩
  · cases h; exact ⟨_, Try.func33, caf33⟩
  · cases h
theorem mixed : Try.prog.follows .mixedOrders = true := by kernel_rfl
end Go.Proofs.YtdppaegnmdiheaaA
