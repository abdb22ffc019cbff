/- The loaded functions of this seat, their types resolved: printed by a program of this claim; each is held against the loaded one. -/
import Derived.Test.YtajoogahcgbohaaGreatAeK1
import Derived.Test.YtajoogahcgbohaaGreatProg
set_option maxRecDepth 100000
namespace Go.Proofs.YtajoogahcgbohaaGreatA
open Go.RowKit
/-- limelight/limelighttop.TopTmmbr -/
def af3 : AFunc := ⟨121, [(.tmp 6)],
 (.seq
 (.reg [⟨(some 6), none, (.mv (.c (.bool false)))⟩])
 (.seq
 (.reg [⟨(some 14), none, (.buildSlice 1 [(.int .i64 0)] 1 [(0, (1, (.c (.int .i64 1073741824))))])⟩,
   ⟨(some 15), none, (.call 4 [(.c (.int .i64 1)), (.c (.int .i64 500)), (.t 14)])⟩,
   ⟨(some 7), none, (.mv (.t 15))⟩])
 (.seq
 (.seq
 (.reg [⟨(some 16), none, (.mv (.t 7))⟩,
   ⟨(some 17), none, (.bin .eql .ptr (.t 16) (.c (.ptr none)))⟩])
 (.cond (.t 17)
 (.seq
 (.reg [⟨(some 6), none, (.mv (.c (.bool false)))⟩]) .ret) .skip))
 (.seq
 (.reg [⟨(some 18), none, (.mv (.t 0))⟩,
   ⟨(some 19), none, (.bin .and .num (.t 18) (.c (.int .u64 16777215)))⟩,
   ⟨(some 20), none, (.bin .add .num (.c (.int .u64 80)) (.t 19))⟩,
   ⟨(some 21), none, (.call 5 [(.t 20), (.c (.int .i64 17))])⟩,
   ⟨(some 22), none, (.mv (.t 1))⟩,
   ⟨(some 23), none, (.call 6 [(.t 22), (.c (.int .i64 0)), (.c (.int .i64 511))])⟩,
   ⟨(some 24), none, (.build [(.int .u32 0), (.int .u64 0), (.int .i64 0)] [(0, (1, (.c (.int .u32 9)))), (1, (1, (.t 21))), (2, (1, (.t 23)))])⟩,
   ⟨(some 8), none, (.alloc [(.int .u32 0), (.int .u64 0), (.int .i64 0)])⟩,
   ⟨none, none, (.store 3 (.t 8) (.t 24))⟩])
 (.seq
 (.reg [⟨(some 25), none, (.mv (.t 7))⟩,
   ⟨(some 26), none, (.mv (.t 2))⟩,
   ⟨(some 27), none, (.loadN 3 (.t 8))⟩,
   ⟨(some 28), none, (.buildSlice 3 [(.int .u32 0), (.int .u64 0), (.int .i64 0)] 1 [(0, (3, (.t 27)))])⟩,
   ⟨(some 29), none, (.build [(.int .i64 0), (.int .u32 0), (.int .u32 0), (.slice none 0 0 none), (.slice none 0 0 none), (.slice none 0 0 none), (.int .u64 0), (.int .i64 0), (.int .i64 0), (.slice none 0 0 none)] [(0, (1, (.c (.int .i64 1)))), (1, (1, (.t 26))), (3, (1, (.t 28)))])⟩,
   ⟨(some 30), none, (.buildSlice 10 [(.int .i64 0), (.int .u32 0), (.int .u32 0), (.slice none 0 0 none), (.slice none 0 0 none), (.slice none 0 0 none), (.int .u64 0), (.int .i64 0), (.int .i64 0), (.slice none 0 0 none)] 1 [(0, (10, (.t 29)))])⟩,
   ⟨(some 31), none, (.call 8 [(.t 30)])⟩,
   ⟨(some 32), none, (.call 7 [(.t 25), (.c (.int .i64 1)), (.t 31)])⟩,
   ⟨(some 9), none, (.mv (.t 32))⟩])
 (.seq
 (.seq
 (.reg [⟨(some 33), none, (.mv (.t 9))⟩,
   ⟨(some 34), none, (.len (.t 33))⟩,
   ⟨(some 35), none, (.bin .neq .num (.t 34) (.c (.int .i64 1)))⟩,
   ⟨(some 36), none, (.mv (.t 35))⟩,
   ⟨(some 37), (some (36, false)), (.mv (.t 9))⟩,
   ⟨(some 38), (some (36, false)), (.ixSlice 3 (.t 37) (.c (.int .i64 0)))⟩,
   ⟨(some 39), (some (36, false)), (.fieldAddr 0 1 (.t 38))⟩,
   ⟨(some 40), (some (36, false)), (.load1 (.t 39))⟩,
   ⟨(some 41), (some (36, false)), (.bin .neq .num (.t 40) (.c (.int .i64 1)))⟩,
   ⟨(some 42), none, (.pick (.t 36) (.c (.bool true)) (.t 41))⟩,
   ⟨(some 43), none, (.mv (.t 42))⟩,
   ⟨(some 44), (some (43, false)), (.mv (.t 9))⟩,
   ⟨(some 45), (some (43, false)), (.ixSlice 3 (.t 44) (.c (.int .i64 0)))⟩,
   ⟨(some 46), (some (43, false)), (.fieldAddr 1 1 (.t 45))⟩,
   ⟨(some 47), (some (43, false)), (.load1 (.t 46))⟩,
   ⟨(some 48), none, (.pick (.t 43) (.c (.bool true)) (.t 47))⟩])
 (.cond (.t 48)
 (.seq
 (.reg [⟨(some 6), none, (.mv (.c (.bool false)))⟩]) .ret) .skip))
 (.seq
 (.reg [⟨(some 50), none, (.mv (.t 9))⟩,
   ⟨(some 51), none, (.ixSlice 3 (.t 50) (.c (.int .i64 0)))⟩,
   ⟨(some 52), none, (.fieldAddr 2 1 (.t 51))⟩,
   ⟨(some 53), none, (.load1 (.t 52))⟩,
   ⟨(some 54), none, (.call 9 [(.t 53)])⟩,
   ⟨(some 49), none, (.mv (.t 54))⟩,
   ⟨(some 55), none, (.extract 0 (.t 49))⟩,
   ⟨(some 56), none, (.extract 1 (.t 49))⟩,
   ⟨(some 10), none, (.mv (.t 55))⟩,
   ⟨(some 11), none, (.mv (.t 56))⟩])
 (.seq
 (.reg [⟨(some 57), none, (.mv (.t 2))⟩,
   ⟨(some 58), none, (.fieldAddr 0 1 (.t 8))⟩,
   ⟨none, none, (.store 1 (.t 58) (.t 57))⟩])
 (.seq
 (.dreg [⟨(some 59), none, (.mv (.t 11))⟩,
   ⟨(some 60), none, (.bin .eql .num (.t 59) (.c (.int .i64 0)))⟩,
   ⟨(some 61), none, (.mv (.t 60))⟩,
   ⟨(some 62), (some (61, true)), (.mv (.t 10))⟩,
   ⟨(some 63), (some (61, true)), (.len (.t 62))⟩,
   ⟨(some 64), (some (61, true)), (.bin .eql .num (.t 63) (.c (.int .i64 1)))⟩,
   ⟨(some 65), none, (.pick (.t 61) (.t 64) (.c (.bool false)))⟩,
   ⟨(some 66), none, (.mv (.t 65))⟩,
   ⟨(some 67), (some (66, true)), (.mv (.t 10))⟩,
   ⟨(some 68), (some (66, true)), (.ixSlice 10 (.t 67) (.c (.int .i64 0)))⟩,
   ⟨(some 69), (some (66, true)), (.fieldAddr 0 1 (.t 68))⟩,
   ⟨(some 70), (some (66, true)), (.load1 (.t 69))⟩,
   ⟨(some 71), (some (66, true)), (.bin .eql .num (.t 70) (.c (.int .i64 2)))⟩,
   ⟨(some 72), none, (.pick (.t 66) (.t 71) (.c (.bool false)))⟩,
   ⟨(some 73), none, (.mv (.t 72))⟩,
   ⟨(some 74), (some (73, true)), (.mv (.t 10))⟩,
   ⟨(some 75), (some (73, true)), (.ixSlice 10 (.t 74) (.c (.int .i64 0)))⟩,
   ⟨(some 76), (some (73, true)), (.fieldAddr 3 1 (.t 75))⟩,
   ⟨(some 77), (some (73, true)), (.load1 (.t 76))⟩,
   ⟨(some 78), (some (73, true)), (.len (.t 77))⟩,
   ⟨(some 79), (some (73, true)), (.bin .eql .num (.t 78) (.c (.int .i64 1)))⟩,
   ⟨(some 80), none, (.pick (.t 73) (.t 79) (.c (.bool false)))⟩,
   ⟨(some 81), none, (.mv (.t 80))⟩,
   ⟨(some 82), (some (81, true)), (.mv (.t 10))⟩,
   ⟨(some 83), (some (81, true)), (.ixSlice 10 (.t 82) (.c (.int .i64 0)))⟩,
   ⟨(some 84), (some (81, true)), (.fieldAddr 3 1 (.t 83))⟩,
   ⟨(some 85), (some (81, true)), (.load1 (.t 84))⟩,
   ⟨(some 86), (some (81, true)), (.ixSlice 3 (.t 85) (.c (.int .i64 0)))⟩,
   ⟨(some 87), (some (81, true)), (.loadN 3 (.t 86))⟩,
   ⟨(some 88), (some (81, true)), (.loadN 3 (.t 8))⟩,
   ⟨(some 89), (some (81, true)), (.bin .eql (.strct [(0, .num), (1, .num), (2, .num)]) (.t 87) (.t 88))⟩,
   ⟨(some 90), none, (.pick (.t 81) (.t 89) (.c (.bool false)))⟩,
   ⟨(some 91), none, (.mv (.t 90))⟩,
   ⟨(some 92), (some (91, true)), (.mv (.t 7))⟩,
   ⟨(some 93), (some (91, true)), (.call 10 [(.t 92), (.c (.int .i64 1))])⟩,
   ⟨(some 94), (some (91, true)), (.fieldAddr 1 1 (.t 8))⟩,
   ⟨(some 95), (some (91, true)), (.load1 (.t 94))⟩,
   ⟨(some 96), (some (91, true)), (.call 11 [(.t 95)])⟩,
   ⟨(some 97), (some (91, true)), (.bin .eql .num (.t 93) (.t 96))⟩,
   ⟨(some 98), none, (.pick (.t 91) (.t 97) (.c (.bool false)))⟩,
   ⟨(some 12), none, (.mv (.t 98))⟩] [(36, 34)])
 (.seq
 (.reg [⟨(some 99), none, (.mv (.t 7))⟩,
   ⟨(some 100), none, (.call 12 [(.t 99), (.c (.int .i64 999999))])⟩])
 (.seq
 (.dreg [⟨(some 101), none, (.mv (.t 7))⟩,
   ⟨(some 102), none, (.call 10 [(.t 101), (.c (.int .i64 1))])⟩,
   ⟨(some 103), none, (.fieldAddr 1 1 (.t 8))⟩,
   ⟨(some 104), none, (.load1 (.t 103))⟩,
   ⟨(some 105), none, (.call 11 [(.t 104)])⟩,
   ⟨(some 106), none, (.bin .eql .num (.t 102) (.t 105))⟩,
   ⟨(some 13), none, (.mv (.t 106))⟩] [(3, 1)])
 (.seq
 (.reg [⟨(some 107), none, (.mv (.t 7))⟩,
   ⟨(some 108), none, (.call 12 [(.t 107), (.c (.int .i64 1))])⟩])
 (.seq
 (.reg [⟨(some 109), none, (.mv (.t 12))⟩,
   ⟨(some 110), none, (.mv (.t 109))⟩,
   ⟨(some 111), (some (110, true)), (.mv (.t 13))⟩,
   ⟨(some 112), none, (.pick (.t 110) (.t 111) (.c (.bool false)))⟩,
   ⟨(some 113), none, (.mv (.t 112))⟩,
   ⟨(some 114), (some (113, true)), (.mv (.t 7))⟩,
   ⟨(some 115), (some (113, true)), (.call 10 [(.t 114), (.c (.int .i64 1))])⟩,
   ⟨(some 116), (some (113, true)), (.bin .eql .num (.t 115) (.c (.int .i64 1073741824)))⟩,
   ⟨(some 117), none, (.pick (.t 113) (.t 116) (.c (.bool false)))⟩,
   ⟨(some 118), none, (.mv (.t 117))⟩,
   ⟨(some 119), (some (118, true)), (.call 13 [])⟩,
   ⟨(some 120), none, (.pick (.t 118) (.t 119) (.c (.bool false)))⟩,
   ⟨(some 6), none, (.mv (.t 120))⟩]) .ret)))))))))))))⟩
theorem caf3 : cFunc Tryz.prog Tryz.f3 = some af3 := by kernel_rfl
def af4_l0 : AC :=
 (.seq
 (.reg [⟨(some 28), none, (.bin .lss .num (.t 27) (.t 26))⟩])
 (.seq
 (.cond (.t 28) .skip (.exit 0))
 (.seq
 (.block 1
 (.seq
 (.reg [⟨(some 29), none, (.mv (.t 27))⟩,
   ⟨(some 30), none, (.ixSlice 1 (.t 25) (.t 27))⟩,
   ⟨(some 31), none, (.load1 (.t 30))⟩,
   ⟨(some 8), none, (.mv (.t 29))⟩,
   ⟨(some 9), none, (.mv (.t 31))⟩])
 (.seq
 (.reg [⟨(some 32), none, (.mv (.t 7))⟩,
   ⟨(some 33), none, (.mv (.t 8))⟩,
   ⟨(some 34), none, (.bin .add .num (.c (.int .i64 1)) (.t 33))⟩,
   ⟨(some 35), none, (.mv (.t 9))⟩,
   ⟨(some 36), none, (.call 15 [(.t 32), (.t 34), (.t 35)])⟩,
   ⟨(some 37), none, (.un .not (.t 36))⟩,
   ⟨(some 38), none, (.mv (.t 37))⟩,
   ⟨(some 39), (some (38, false)), (.mv (.t 7))⟩,
   ⟨(some 40), (some (38, false)), (.mv (.t 8))⟩,
   ⟨(some 41), (some (38, false)), (.bin .add .num (.c (.int .i64 1)) (.t 40))⟩,
   ⟨(some 42), (some (38, false)), (.mv (.t 1))⟩,
   ⟨(some 43), (some (38, false)), (.call 18 [(.t 39), (.t 41), (.c (.int .i64 0)), (.t 42), (.c (.int .i64 0))])⟩,
   ⟨(some 44), (some (38, false)), (.un .not (.t 43))⟩,
   ⟨(some 45), none, (.pick (.t 38) (.c (.bool true)) (.t 44))⟩])
 (.cond (.t 45)
 (.seq
 (.reg [⟨(some 6), none, (.mv (.c (.ptr none)))⟩]) .ret) .skip))))
 (.reg [⟨(some 46), none, (.bin .add .num (.t 27) (.c (.int .i64 1)))⟩,
   ⟨(some 27), none, (.mv (.t 46))⟩]))))
/-- limelight/limelighttop.house -/
def af4 : AFunc := ⟨48, [(.tmp 6)],
 (.seq
 (.reg [⟨(some 6), none, (.mv (.c (.ptr none)))⟩])
 (.seq
 (.reg [⟨(some 10), none, (.call 14 [])⟩,
   ⟨(some 7), none, (.mv (.t 10))⟩])
 (.seq
 (.seq
 (.reg [⟨(some 11), none, (.mv (.t 7))⟩,
   ⟨(some 12), none, (.bin .eql .ptr (.t 11) (.c (.ptr none)))⟩,
   ⟨(some 13), none, (.mv (.t 12))⟩,
   ⟨(some 14), (some (13, false)), (.mv (.t 7))⟩,
   ⟨(some 15), (some (13, false)), (.call 15 [(.t 14), (.c (.int .i64 0)), (.c (.int .i64 1073741824))])⟩,
   ⟨(some 16), (some (13, false)), (.un .not (.t 15))⟩,
   ⟨(some 17), none, (.pick (.t 13) (.c (.bool true)) (.t 16))⟩,
   ⟨(some 18), none, (.mv (.t 17))⟩,
   ⟨(some 19), (some (18, false)), (.mv (.t 7))⟩,
   ⟨(some 20), (some (18, false)), (.mv (.t 0))⟩,
   ⟨(some 21), (some (18, false)), (.call 17 [(.c (.int .i64 0)), (.t 20)])⟩,
   ⟨(some 22), (some (18, false)), (.call 16 [(.t 19), (.c (.int .i64 0)), (.t 21)])⟩,
   ⟨(some 23), (some (18, false)), (.un .not (.t 22))⟩,
   ⟨(some 24), none, (.pick (.t 18) (.c (.bool true)) (.t 23))⟩])
 (.cond (.t 24)
 (.seq
 (.reg [⟨(some 6), none, (.mv (.c (.ptr none)))⟩]) .ret) .skip))
 (.seq
 (.seq
 (.reg [⟨(some 25), none, (.mv (.t 2))⟩,
   ⟨(some 26), none, (.len (.t 25))⟩,
   ⟨(some 27), none, (.mv (.c (.int .i64 0)))⟩])
 (.block 0
 (.loop af4_l0)))
 (.seq
 (.reg [⟨(some 47), none, (.mv (.t 7))⟩,
   ⟨(some 6), none, (.mv (.t 47))⟩]) .ret)))))⟩
theorem caf4 : cFunc Tryz.prog Tryz.f4 = some af4 := by kernel_rfl
/-- limelight/rate.Down -/
def af5 : AFunc := ⟨17, [(.tmp 4)],
 (.seq
 (.reg [⟨(some 4), none, (.mv (.c (.int .u64 0)))⟩])
 (.seq
 (.reg [⟨(some 8), none, (.mv (.t 0))⟩,
   ⟨(some 9), none, (.mv (.t 1))⟩,
   ⟨(some 10), none, (.call 19 [(.t 8), (.t 9)])⟩,
   ⟨(some 7), none, (.mv (.t 10))⟩,
   ⟨(some 11), none, (.extract 0 (.t 7))⟩,
   ⟨(some 12), none, (.extract 1 (.t 7))⟩,
   ⟨(some 5), none, (.mv (.t 11))⟩,
   ⟨(some 6), none, (.mv (.t 12))⟩])
 (.seq
 (.reg [⟨(some 13), none, (.mv (.t 5))⟩,
   ⟨(some 14), none, (.mv (.t 6))⟩,
   ⟨(some 15), none, (.mv (.t 1))⟩,
   ⟨(some 16), none, (.call 20 [(.t 13), (.t 14), (.t 15)])⟩,
   ⟨(some 4), none, (.mv (.t 16))⟩]) .ret)))⟩
theorem caf5 : cFunc Tryz.prog Tryz.f5 = some af5 := by kernel_rfl
/-- limelight/limelightbook.Within -/
def af6 : AFunc := ⟨33, [(.tmp 6)],
 (.seq
 (.reg [⟨(some 6), none, (.mv (.c (.int .i64 0)))⟩])
 (.seq
 (.seq
 (.reg [⟨(some 7), none, (.mv (.t 0))⟩,
   ⟨(some 8), none, (.mv (.t 1))⟩,
   ⟨(some 9), none, (.bin .geq .num (.t 7) (.t 8))⟩,
   ⟨(some 10), none, (.mv (.t 9))⟩,
   ⟨(some 11), (some (10, true)), (.mv (.t 0))⟩,
   ⟨(some 12), (some (10, true)), (.mv (.t 2))⟩,
   ⟨(some 13), (some (10, true)), (.bin .leq .num (.t 11) (.t 12))⟩,
   ⟨(some 14), none, (.pick (.t 10) (.t 13) (.c (.bool false)))⟩])
 (.cond (.t 14)
 (.seq
 (.reg [⟨(some 15), none, (.mv (.t 0))⟩,
   ⟨(some 6), none, (.mv (.t 15))⟩]) .ret) .skip))
 (.seq
 (.reg [⟨(some 16), none, (.mv (.t 0))⟩,
   ⟨(some 17), none, (.mv (.t 2))⟩,
   ⟨(some 18), none, (.mv (.t 1))⟩,
   ⟨(some 19), none, (.bin .sub .num (.t 17) (.t 18))⟩,
   ⟨(some 20), none, (.bin .add .num (.t 19) (.c (.int .i64 1)))⟩,
   ⟨(some 21), none, (.bin .rem .num (.t 16) (.t 20))⟩,
   ⟨(some 0), none, (.mv (.t 21))⟩])
 (.seq
 (.seq
 (.reg [⟨(some 22), none, (.mv (.t 0))⟩,
   ⟨(some 23), none, (.bin .lss .num (.t 22) (.c (.int .i64 0)))⟩])
 (.cond (.t 23)
 (.reg [⟨(some 24), none, (.mv (.t 0))⟩,
   ⟨(some 25), none, (.mv (.t 2))⟩,
   ⟨(some 26), none, (.bin .add .num (.t 24) (.t 25))⟩,
   ⟨(some 27), none, (.mv (.t 1))⟩,
   ⟨(some 28), none, (.bin .sub .num (.t 26) (.t 27))⟩,
   ⟨(some 29), none, (.bin .add .num (.t 28) (.c (.int .i64 1)))⟩,
   ⟨(some 0), none, (.mv (.t 29))⟩]) .skip))
 (.seq
 (.reg [⟨(some 30), none, (.mv (.t 1))⟩,
   ⟨(some 31), none, (.mv (.t 0))⟩,
   ⟨(some 32), none, (.bin .add .num (.t 30) (.t 31))⟩,
   ⟨(some 6), none, (.mv (.t 32))⟩]) .ret)))))⟩
theorem caf6 : cFunc Tryz.prog Tryz.f6 = some af6 := by kernel_rfl
/-- (*limelight/sfu.House).Datagram -/
def af7 : AFunc := ⟨43, [(.tmp 6)],
 (.seq
 (.reg [⟨(some 6), none, (.mv (.c (.slice none 0 0 none)))⟩])
 (.seq
 (.reg [⟨(some 8), none, (.mv (.t 0))⟩,
   ⟨(some 9), none, (.mv (.t 1))⟩,
   ⟨(some 10), none, (.call 21 [(.t 8), (.t 9)])⟩,
   ⟨(some 11), none, (.bin .neq .ptr (.t 10) (.c (.ptr none)))⟩,
   ⟨(some 7), none, (.mv (.t 11))⟩])
 (.seq
 (.block 0
 (.seq
 (.reg [⟨(some 13), none, (.mv (.t 7))⟩,
   ⟨(some 14), none, (.mv (.t 13))⟩,
   ⟨(some 15), (some (14, true)), (.mv (.t 2))⟩,
   ⟨(some 16), (some (14, true)), (.call 22 [(.t 15)])⟩,
   ⟨(some 17), none, (.pick (.t 14) (.t 16) (.c (.bool false)))⟩,
   ⟨(some 12), none, (.mv (.t 17))⟩])
 (.cond (.t 12)
 (.reg [⟨(some 18), none, (.mv (.t 0))⟩,
   ⟨(some 19), none, (.mv (.t 1))⟩,
   ⟨(some 20), none, (.mv (.t 2))⟩,
   ⟨(some 21), none, (.call 23 [(.t 18), (.t 19), (.t 20)])⟩,
   ⟨(some 7), none, (.mv (.t 21))⟩])
 (.seq
 (.reg [⟨(some 23), none, (.mv (.t 7))⟩,
   ⟨(some 22), none, (.mv (.t 23))⟩])
 (.cond (.t 22)
 (.reg [⟨(some 24), none, (.mv (.t 0))⟩,
   ⟨(some 25), none, (.mv (.t 1))⟩,
   ⟨(some 26), none, (.mv (.t 2))⟩,
   ⟨(some 27), none, (.call 24 [(.t 24), (.t 25), (.t 26)])⟩,
   ⟨(some 7), none, (.mv (.t 27))⟩]) .skip)))))
 (.seq
 (.seq
 (.reg [⟨(some 28), none, (.mv (.t 7))⟩,
   ⟨(some 29), none, (.un .not (.t 28))⟩])
 (.cond (.t 29)
 (.seq
 (.reg [⟨(some 30), none, (.mv (.t 0))⟩,
   ⟨(some 31), none, (.nilCheck (.t 30))⟩,
   ⟨(some 32), none, (.fieldAddr 8 4 (.t 31))⟩,
   ⟨(some 33), none, (.fieldAddr 0 1 (.t 32))⟩,
   ⟨(some 34), none, (.load1 (.t 33))⟩,
   ⟨(some 35), none, (.bin .add .num (.t 34) (.c (.int .i64 1)))⟩,
   ⟨(some 36), none, (.nilCheck (.t 30))⟩,
   ⟨(some 37), none, (.fieldAddr 8 4 (.t 36))⟩,
   ⟨(some 38), none, (.fieldAddr 0 1 (.t 37))⟩,
   ⟨none, none, (.store 1 (.t 38) (.t 35))⟩])
 (.seq
 (.reg [⟨(some 6), none, (.mv (.c (.slice none 0 0 none)))⟩]) .ret)) .skip))
 (.seq
 (.reg [⟨(some 39), none, (.mv (.t 0))⟩,
   ⟨(some 40), none, (.call 25 [(.t 39)])⟩])
 (.seq
 (.reg [⟨(some 41), none, (.mv (.t 0))⟩,
   ⟨(some 42), none, (.call 26 [(.t 41)])⟩,
   ⟨(some 6), none, (.mv (.t 42))⟩]) .ret))))))⟩
theorem caf7 : cFunc Tryz.prog Tryz.f7 = some af7 := by kernel_rfl
/-- limelight/limelighttop.report -/
def af8 : AFunc := ⟨11, [(.tmp 2)],
 (.seq
 (.reg [⟨(some 2), none, (.mv (.c (.slice none 0 0 none)))⟩])
 (.seq
 (.reg [⟨(some 6), none, (.mv (.t 0))⟩,
   ⟨(some 7), none, (.call 27 [(.t 6)])⟩,
   ⟨(some 5), none, (.mv (.t 7))⟩,
   ⟨(some 8), none, (.extract 0 (.t 5))⟩,
   ⟨(some 9), none, (.extract 1 (.t 5))⟩,
   ⟨(some 3), none, (.mv (.t 8))⟩,
   ⟨(some 4), none, (.mv (.t 9))⟩])
 (.seq
 (.reg [⟨(some 10), none, (.mv (.t 3))⟩,
   ⟨(some 2), none, (.mv (.t 10))⟩]) .ret)))⟩
theorem caf8 : cFunc Tryz.prog Tryz.f8 = some af8 := by kernel_rfl
def af9_l0 : AC :=
 (.seq
 (.seq
 (.reg [⟨(some 17), none, (.mv (.t 5))⟩,
   ⟨(some 18), none, (.mv (.t 0))⟩,
   ⟨(some 19), none, (.len (.t 18))⟩,
   ⟨(some 20), none, (.bin .lss .num (.t 17) (.t 19))⟩])
 (.cond (.t 20) .skip (.exit 1)))
 (.block 2
 (.seq
 (.reg [⟨(some 22), none, (.mv (.t 0))⟩,
   ⟨(some 23), none, (.mv (.t 5))⟩,
   ⟨(some 24), none, (.cut 1 (.t 22) (some (.t 23)) none none)⟩,
   ⟨(some 25), none, (.call 28 [(.t 24)])⟩,
   ⟨(some 21), none, (.mv (.t 25))⟩,
   ⟨(some 26), none, (.extract 0 (.t 21))⟩,
   ⟨(some 27), none, (.extract 1 (.t 21))⟩,
   ⟨(some 28), none, (.extract 2 (.t 21))⟩,
   ⟨(some 6), none, (.alloc [(.int .i64 0), (.int .u32 0), (.int .u32 0), (.slice none 0 0 none), (.slice none 0 0 none), (.slice none 0 0 none), (.int .u64 0), (.int .i64 0), (.int .i64 0), (.slice none 0 0 none)])⟩,
   ⟨none, none, (.store 10 (.t 6) (.t 26))⟩,
   ⟨(some 7), none, (.mv (.t 27))⟩,
   ⟨(some 8), none, (.mv (.t 28))⟩])
 (.seq
 (.seq
 (.reg [⟨(some 29), none, (.mv (.t 8))⟩,
   ⟨(some 30), none, (.bin .neq .num (.t 29) (.c (.int .i64 0)))⟩])
 (.cond (.t 30)
 (.seq
 (.reg [⟨(some 31), none, (.mv (.t 8))⟩,
   ⟨(some 2), none, (.mv (.c (.slice none 0 0 none)))⟩,
   ⟨(some 3), none, (.mv (.t 31))⟩]) .ret) .skip))
 (.seq
 (.reg [⟨(some 32), none, (.mv (.t 4))⟩,
   ⟨(some 33), none, (.loadN 10 (.t 6))⟩,
   ⟨(some 34), none, (.buildSlice 10 [(.int .i64 0), (.int .u32 0), (.int .u32 0), (.slice none 0 0 none), (.slice none 0 0 none), (.slice none 0 0 none), (.int .u64 0), (.int .i64 0), (.int .i64 0), (.slice none 0 0 none)] 1 [(0, (10, (.t 33)))])⟩,
   ⟨(some 35), none, (.append 10 136 (.t 32) (.t 34))⟩,
   ⟨(some 4), none, (.mv (.t 35))⟩])
 (.reg [⟨(some 36), none, (.mv (.t 5))⟩,
   ⟨(some 37), none, (.mv (.t 7))⟩,
   ⟨(some 38), none, (.bin .add .num (.t 36) (.t 37))⟩,
   ⟨(some 5), none, (.mv (.t 38))⟩]))))))
/-- limelight/rtcp.Read -/
def af9 : AFunc := ⟨41, [(.tmp 2), (.tmp 3)],
 (.seq
 (.reg [⟨(some 2), none, (.mv (.c (.slice none 0 0 none)))⟩,
   ⟨(some 3), none, (.mv (.c (.int .i64 0)))⟩])
 (.seq
 (.block 0
 (.seq
 (.reg [⟨(some 10), none, (.mv (.t 0))⟩,
   ⟨(some 11), none, (.len (.t 10))⟩,
   ⟨(some 12), none, (.bin .gtr .num (.t 11) (.c (.int .i64 1500)))⟩,
   ⟨(some 9), none, (.mv (.t 12))⟩])
 (.cond (.t 9)
 (.seq
 (.reg [⟨(some 2), none, (.mv (.c (.slice none 0 0 none)))⟩,
   ⟨(some 3), none, (.mv (.c (.int .i64 3)))⟩]) .ret)
 (.seq
 (.reg [⟨(some 14), none, (.mv (.t 0))⟩,
   ⟨(some 15), none, (.len (.t 14))⟩,
   ⟨(some 16), none, (.bin .eql .num (.t 15) (.c (.int .i64 0)))⟩,
   ⟨(some 13), none, (.mv (.t 16))⟩])
 (.cond (.t 13)
 (.seq
 (.reg [⟨(some 2), none, (.mv (.c (.slice none 0 0 none)))⟩,
   ⟨(some 3), none, (.mv (.c (.int .i64 13)))⟩]) .ret) .skip)))))
 (.seq
 (.reg [⟨(some 4), none, (.mv (.c (.slice none 0 0 none)))⟩])
 (.seq
 (.seq
 (.reg [⟨(some 5), none, (.mv (.c (.int .i64 0)))⟩])
 (.block 1
 (.loop af9_l0)))
 (.seq
 (.reg [⟨(some 39), none, (.mv (.t 4))⟩,
   ⟨(some 40), none, (.call 29 [(.t 39)])⟩,
   ⟨(some 2), none, (.mv (.t 40))⟩,
   ⟨(some 3), none, (.mv (.c (.int .i64 0)))⟩]) .ret)))))⟩
theorem caf9 : cFunc Tryz.prog Tryz.f9 = some af9 := by kernel_rfl
/-- (*limelight/sfu.House).Rate -/
def af10 : AFunc := ⟨16, [(.tmp 4)],
 (.seq
 (.reg [⟨(some 4), none, (.mv (.c (.int .i64 0)))⟩])
 (.seq
 (.seq
 (.reg [⟨(some 6), none, (.mv (.t 0))⟩,
   ⟨(some 7), none, (.mv (.t 1))⟩,
   ⟨(some 8), none, (.call 21 [(.t 6), (.t 7)])⟩,
   ⟨(some 5), none, (.mv (.t 8))⟩])
 (.seq
 (.reg [⟨(some 9), none, (.mv (.t 5))⟩,
   ⟨(some 10), none, (.bin .neq .ptr (.t 9) (.c (.ptr none)))⟩])
 (.cond (.t 10)
 (.seq
 (.reg [⟨(some 11), none, (.mv (.t 5))⟩,
   ⟨(some 12), none, (.nilCheck (.t 11))⟩,
   ⟨(some 13), none, (.fieldAddr 0 1 (.t 12))⟩,
   ⟨(some 14), none, (.load1 (.t 13))⟩,
   ⟨(some 15), none, (.call 30 [(.t 14)])⟩,
   ⟨(some 4), none, (.mv (.t 15))⟩]) .ret) .skip)))
 (.seq
 (.reg [⟨(some 4), none, (.mv (.c (.int .i64 0)))⟩]) .ret)))⟩
theorem caf10 : cFunc Tryz.prog Tryz.f10 = some af10 := by kernel_rfl
/-- limelight/rate.Bytes -/
def af11 : AFunc := ⟨7, [(.tmp 2)],
 (.seq
 (.reg [⟨(some 2), none, (.mv (.c (.int .i64 0)))⟩])
 (.seq
 (.reg [⟨(some 3), none, (.mv (.t 0))⟩,
   ⟨(some 4), none, (.bin .quo .num (.t 3) (.c (.int .u64 8)))⟩,
   ⟨(some 5), none, (.mn [(.t 4), (.c (.int .u64 1099511627776))])⟩,
   ⟨(some 6), none, (.conv (.int .i64) (.t 5))⟩,
   ⟨(some 2), none, (.mv (.t 6))⟩]) .ret))⟩
theorem caf11 : cFunc Tryz.prog Tryz.f11 = some af11 := by kernel_rfl
def af12_l0 : AC :=
 (.seq
 (.reg [⟨(some 23), none, (.bin .lss .num (.t 22) (.c (.int .i64 6)))⟩])
 (.seq
 (.cond (.t 23) .skip (.exit 0))
 (.seq
 (.block 1
 (.seq
 (.reg [⟨(some 24), none, (.ixAgg1 6 (.t 21) (.t 22))⟩,
   ⟨(some 6), none, (.mv (.t 24))⟩])
 (.seq
 (.reg [⟨(some 25), none, (.mv (.t 6))⟩,
   ⟨(some 26), none, (.bin .neq .ptr (.t 25) (.c (.ptr none)))⟩])
 (.cond (.t 26)
 (.reg [⟨(some 27), none, (.mv (.t 6))⟩,
   ⟨(some 28), none, (.nilCheck (.t 27))⟩,
   ⟨(some 29), none, (.fieldAddr 1 1 (.t 28))⟩,
   ⟨(some 30), none, (.load1 (.t 29))⟩,
   ⟨(some 31), none, (.mv (.t 1))⟩,
   ⟨(some 32), none, (.call 31 [(.t 30), (.t 31)])⟩]) .skip))))
 (.reg [⟨(some 33), none, (.bin .add .num (.t 22) (.c (.int .i64 1)))⟩,
   ⟨(some 22), none, (.mv (.t 33))⟩]))))
/-- (*limelight/sfu.House).Tick -/
def af12 : AFunc := ⟨38, [(.tmp 4)],
 (.seq
 (.reg [⟨(some 4), none, (.mv (.c (.slice none 0 0 none)))⟩])
 (.seq
 (.reg [⟨(some 7), none, (.mv (.t 1))⟩,
   ⟨(some 8), none, (.mn [(.t 7), (.c (.int .i64 16777216))])⟩,
   ⟨(some 9), none, (.mx [(.c (.int .i64 0)), (.t 8)])⟩,
   ⟨(some 1), none, (.mv (.t 9))⟩])
 (.seq
 (.reg [⟨(some 10), none, (.mv (.t 0))⟩,
   ⟨(some 11), none, (.nilCheck (.t 10))⟩,
   ⟨(some 12), none, (.fieldAddr 7 1 (.t 11))⟩,
   ⟨(some 13), none, (.load1 (.t 12))⟩,
   ⟨(some 14), none, (.mv (.t 1))⟩,
   ⟨(some 15), none, (.bin .add .num (.t 13) (.t 14))⟩,
   ⟨(some 16), none, (.nilCheck (.t 10))⟩,
   ⟨(some 17), none, (.fieldAddr 7 1 (.t 16))⟩,
   ⟨none, none, (.store 1 (.t 17) (.t 15))⟩])
 (.seq
 (.seq
 (.reg [⟨(some 18), none, (.mv (.t 0))⟩,
   ⟨(some 19), none, (.nilCheck (.t 18))⟩,
   ⟨(some 20), none, (.fieldAddr 1 6 (.t 19))⟩,
   ⟨(some 21), none, (.loadN 6 (.t 20))⟩,
   ⟨(some 22), none, (.mv (.c (.int .i64 0)))⟩])
 (.block 0
 (.loop af12_l0)))
 (.seq
 (.reg [⟨(some 34), none, (.mv (.t 0))⟩,
   ⟨(some 35), none, (.call 25 [(.t 34)])⟩])
 (.seq
 (.reg [⟨(some 36), none, (.mv (.t 0))⟩,
   ⟨(some 37), none, (.call 26 [(.t 36)])⟩,
   ⟨(some 4), none, (.mv (.t 37))⟩]) .ret))))))⟩
theorem caf12 : cFunc Tryz.prog Tryz.f12 = some af12 := by kernel_rfl
/-- limelight/limelighttop.awake -/
def af13 : AFunc := ⟨25, [(.tmp 0)],
 (.seq
 (.reg [⟨(some 0), none, (.mv (.c (.bool false)))⟩])
 (.seq
 (.reg [⟨(some 3), none, (.buildSlice 1 [(.int .i64 0)] 1 [(0, (1, (.c (.int .i64 100000))))])⟩,
   ⟨(some 4), none, (.call 4 [(.c (.int .i64 2)), (.c (.int .i64 500)), (.t 3)])⟩,
   ⟨(some 1), none, (.mv (.t 4))⟩])
 (.seq
 (.seq
 (.reg [⟨(some 5), none, (.mv (.t 1))⟩,
   ⟨(some 6), none, (.bin .eql .ptr (.t 5) (.c (.ptr none)))⟩])
 (.cond (.t 6)
 (.seq
 (.reg [⟨(some 0), none, (.mv (.c (.bool false)))⟩]) .ret) .skip))
 (.seq
 (.reg [⟨(some 7), none, (.mv (.t 1))⟩,
   ⟨(some 8), none, (.call 32 [(.t 7), (.c (.int .i64 0)), (.c (.int .i64 20))])⟩,
   ⟨(some 2), none, (.mv (.t 8))⟩])
 (.seq
 (.reg [⟨(some 9), none, (.mv (.t 1))⟩,
   ⟨(some 10), none, (.call 34 [(.t 9), (.c (.int .i64 1))])⟩,
   ⟨(some 11), none, (.buildSlice 1 [(.int .i64 0)] 1 [(0, (1, (.c (.int .i64 1))))])⟩,
   ⟨(some 12), none, (.call 33 [(.t 10), (.t 11)])⟩,
   ⟨(some 13), none, (.mv (.t 12))⟩,
   ⟨(some 14), (some (13, true)), (.mv (.t 2))⟩,
   ⟨(some 15), (some (13, true)), (.call 35 [(.t 14), (.c (.int .i64 1)), (.c (.int .u32 2))])⟩,
   ⟨(some 16), (some (13, true)), (.len (.t 15))⟩,
   ⟨(some 17), (some (13, true)), (.bin .gtr .num (.t 16) (.c (.int .i64 5)))⟩,
   ⟨(some 18), none, (.pick (.t 13) (.t 17) (.c (.bool false)))⟩,
   ⟨(some 19), none, (.mv (.t 18))⟩,
   ⟨(some 20), (some (19, true)), (.mv (.t 1))⟩,
   ⟨(some 21), (some (19, true)), (.call 36 [(.t 20), (.c (.int .i64 0))])⟩,
   ⟨(some 22), (some (19, true)), (.buildSlice 1 [(.int .i64 0)] 1 [(0, (1, (.c (.int .i64 0))))])⟩,
   ⟨(some 23), (some (19, true)), (.call 33 [(.t 21), (.t 22)])⟩,
   ⟨(some 24), none, (.pick (.t 19) (.t 23) (.c (.bool false)))⟩,
   ⟨(some 0), none, (.mv (.t 24))⟩]) .ret)))))⟩
theorem caf13 : cFunc Tryz.prog Tryz.f13 = some af13 := by kernel_rfl
/-- limelight/sfu.New -/
def af14 : AFunc := ⟨4, [(.tmp 0)],
 (.seq
 (.reg [⟨(some 0), none, (.mv (.c (.ptr none)))⟩])
 (.seq
 (.reg [⟨(some 1), none, (.call 37 [])⟩,
   ⟨(some 2), none, (.build [(.ptr none), (.ptr none), (.ptr none), (.ptr none), (.ptr none), (.ptr none), (.ptr none), (.int .i64 0), (.int .i64 0), (.int .i64 0), (.int .i64 0), (.int .i64 0), (.int .i64 0), (.slice none 0 0 none)] [(0, (1, (.t 1)))])⟩,
   ⟨(some 3), none, (.box (.t 2))⟩,
   ⟨(some 0), none, (.mv (.t 3))⟩]) .ret))⟩
theorem caf14 : cFunc Tryz.prog Tryz.f14 = some af14 := by kernel_rfl
/-- limelight/calm.Join -/
def af15 : AFunc := ⟨12, [(.tmp 6)],
 (.seq
 (.reg [⟨(some 6), none, (.mv (.c (.bool false)))⟩])
 (.seq
 (.reg [⟨(some 7), none, (.mv (.t 0))⟩,
   ⟨(some 8), none, (.mv (.t 1))⟩,
   ⟨(some 9), none, (.mv (.t 2))⟩,
   ⟨(some 10), none, (.build [(.int .i64 0), (.int .i64 0), (.slice none 0 0 none), (.int .i64 0), (.int .i64 0), (.int .i64 0), (.int .i64 0), (.int .i64 0)] [(0, (1, (.c (.int .i64 1)))), (1, (1, (.t 9)))])⟩,
   ⟨(some 11), none, (.call 38 [(.t 7), (.t 8), (.t 10)])⟩,
   ⟨(some 6), none, (.mv (.t 11))⟩]) .ret))⟩
theorem caf15 : cFunc Tryz.prog Tryz.f15 = some af15 := by kernel_rfl
/-- limelight/calm.Publish -/
def af16 : AFunc := ⟨12, [(.tmp 6)],
 (.seq
 (.reg [⟨(some 6), none, (.mv (.c (.bool false)))⟩])
 (.seq
 (.reg [⟨(some 7), none, (.mv (.t 0))⟩,
   ⟨(some 8), none, (.mv (.t 1))⟩,
   ⟨(some 9), none, (.mv (.t 2))⟩,
   ⟨(some 10), none, (.build [(.int .i64 0), (.int .i64 0), (.slice none 0 0 none), (.int .i64 0), (.int .i64 0), (.int .i64 0), (.int .i64 0), (.int .i64 0)] [(0, (1, (.c (.int .i64 3)))), (2, (1, (.t 9)))])⟩,
   ⟨(some 11), none, (.call 38 [(.t 7), (.t 8), (.t 10)])⟩,
   ⟨(some 6), none, (.mv (.t 11))⟩]) .ret))⟩
theorem caf16 : cFunc Tryz.prog Tryz.f16 = some af16 := by kernel_rfl
def af17_l0 : AC :=
 (.seq
 (.seq
 (.reg [⟨(some 7), none, (.mv (.t 6))⟩,
   ⟨(some 8), none, (.mv (.t 1))⟩,
   ⟨(some 9), none, (.bin .lss .num (.t 7) (.t 8))⟩])
 (.cond (.t 9) .skip (.exit 0)))
 (.seq
 (.block 1
 (.reg [⟨(some 12), none, (.mv (.t 5))⟩,
   ⟨(some 13), none, (.mv (.t 6))⟩,
   ⟨(some 14), none, (.bin .add .num (.c (.int .i64 48)) (.t 13))⟩,
   ⟨(some 15), none, (.conv (.int .i32) (.t 14))⟩,
   ⟨(some 16), none, (.conv .runeStr (.t 15))⟩,
   ⟨(some 17), none, (.bin .add .num (.c (.str [108])) (.t 16))⟩,
   ⟨(some 18), none, (.mv (.t 0))⟩,
   ⟨(some 19), none, (.bin .mul .num (.c (.int .i64 10)) (.t 18))⟩,
   ⟨(some 20), none, (.bin .add .num (.c (.int .i64 40)) (.t 19))⟩,
   ⟨(some 21), none, (.mv (.t 6))⟩,
   ⟨(some 22), none, (.bin .add .num (.t 20) (.t 21))⟩,
   ⟨(some 23), none, (.conv (.int .u32) (.t 22))⟩,
   ⟨(some 24), none, (.mv (.t 6))⟩,
   ⟨(some 25), none, (.bin .add .num (.t 24) (.c (.int .i64 1)))⟩,
   ⟨(some 26), none, (.bin .mul .num (.c (.int .i64 100)) (.t 25))⟩,
   ⟨(some 27), none, (.build [(.str []), (.int .u32 0), (.int .i64 0)] [(0, (1, (.t 17))), (1, (1, (.t 23))), (2, (1, (.t 26)))])⟩,
   ⟨(some 28), none, (.buildSlice 3 [(.str []), (.int .u32 0), (.int .i64 0)] 1 [(0, (3, (.t 27)))])⟩,
   ⟨(some 29), none, (.append 3 32 (.t 12) (.t 28))⟩,
   ⟨(some 5), none, (.mv (.t 29))⟩]))
 (.reg [⟨(some 10), none, (.mv (.t 6))⟩,
   ⟨(some 11), none, (.bin .add .num (.t 10) (.c (.int .i64 1)))⟩,
   ⟨(some 6), none, (.mv (.t 11))⟩])))
/-- limelight/limelighttop.layers -/
def af17 : AFunc := ⟨31, [(.tmp 4)],
 (.seq
 (.reg [⟨(some 4), none, (.mv (.c (.slice none 0 0 none)))⟩])
 (.seq
 (.reg [⟨(some 5), none, (.mv (.c (.slice none 0 0 none)))⟩])
 (.seq
 (.seq
 (.reg [⟨(some 6), none, (.mv (.c (.int .i64 0)))⟩])
 (.block 0
 (.loop af17_l0)))
 (.seq
 (.reg [⟨(some 30), none, (.mv (.t 5))⟩,
   ⟨(some 4), none, (.mv (.t 30))⟩]) .ret))))⟩
theorem caf17 : cFunc Tryz.prog Tryz.f17 = some af17 := by kernel_rfl
/-- limelight/calm.Watch -/
def af18 : AFunc := ⟨18, [(.tmp 10)],
 (.seq
 (.reg [⟨(some 10), none, (.mv (.c (.bool false)))⟩])
 (.seq
 (.reg [⟨(some 11), none, (.mv (.t 0))⟩,
   ⟨(some 12), none, (.mv (.t 1))⟩,
   ⟨(some 13), none, (.mv (.t 2))⟩,
   ⟨(some 14), none, (.mv (.t 3))⟩,
   ⟨(some 15), none, (.mv (.t 4))⟩,
   ⟨(some 16), none, (.build [(.int .i64 0), (.int .i64 0), (.slice none 0 0 none), (.int .i64 0), (.int .i64 0), (.int .i64 0), (.int .i64 0), (.int .i64 0)] [(0, (1, (.c (.int .i64 4)))), (3, (1, (.t 13))), (4, (1, (.t 14))), (5, (1, (.t 15)))])⟩,
   ⟨(some 17), none, (.call 38 [(.t 11), (.t 12), (.t 16)])⟩,
   ⟨(some 10), none, (.mv (.t 17))⟩]) .ret))⟩
theorem caf18 : cFunc Tryz.prog Tryz.f18 = some af18 := by kernel_rfl
def af19_l0 : AC :=
 (.seq
 (.seq
 (.reg [⟨(some 10), none, (.mv (.t 0))⟩,
   ⟨(some 11), none, (.mv (.t 1))⟩,
   ⟨(some 12), none, (.bin .shr .num (.t 10) (.t 11))⟩,
   ⟨(some 13), none, (.bin .gtr .num (.t 12) (.c (.int .u64 0)))⟩])
 (.cond (.t 13) .skip (.exit 0)))
 (.block 1
 (.seq
 (.reg [⟨(some 14), none, (.mv (.t 0))⟩,
   ⟨(some 15), none, (.bin .shr .num (.t 14) (.c (.int .u64 1)))⟩,
   ⟨(some 0), none, (.mv (.t 15))⟩])
 (.reg [⟨(some 16), none, (.mv (.t 6))⟩,
   ⟨(some 17), none, (.bin .add .num (.t 16) (.c (.int .i64 1)))⟩,
   ⟨(some 6), none, (.mv (.t 17))⟩]))))
/-- limelight/rate.Pack -/
def af19 : AFunc := ⟨21, [(.tmp 4), (.tmp 5)],
 (.seq
 (.reg [⟨(some 4), none, (.mv (.c (.int .i64 0)))⟩,
   ⟨(some 5), none, (.mv (.c (.int .u32 0)))⟩])
 (.seq
 (.seq
 (.reg [⟨(some 7), none, (.mv (.t 1))⟩,
   ⟨(some 8), none, (.call 39 [(.t 7)])⟩,
   ⟨(some 9), none, (.un .not (.t 8))⟩])
 (.cond (.t 9)
 (.seq
 (.reg [⟨(some 4), none, (.mv (.c (.int .i64 0)))⟩,
   ⟨(some 5), none, (.mv (.c (.int .u32 0)))⟩]) .ret) .skip))
 (.seq
 (.reg [⟨(some 6), none, (.mv (.c (.int .i64 0)))⟩])
 (.seq
 (.block 0
 (.loop af19_l0))
 (.seq
 (.reg [⟨(some 18), none, (.mv (.t 6))⟩,
   ⟨(some 19), none, (.mv (.t 0))⟩,
   ⟨(some 20), none, (.conv (.int .u32) (.t 19))⟩,
   ⟨(some 4), none, (.mv (.t 18))⟩,
   ⟨(some 5), none, (.mv (.t 20))⟩]) .ret)))))⟩
theorem caf19 : cFunc Tryz.prog Tryz.f19 = some af19 := by kernel_rfl
/-- limelight/rate.Open -/
def af20 : AFunc := ⟨36, [(.tmp 6)],
 (.seq
 (.reg [⟨(some 6), none, (.mv (.c (.int .u64 0)))⟩])
 (.seq
 (.seq
 (.reg [⟨(some 8), none, (.mv (.t 2))⟩,
   ⟨(some 9), none, (.call 39 [(.t 8)])⟩,
   ⟨(some 10), none, (.un .not (.t 9))⟩,
   ⟨(some 11), none, (.mv (.t 10))⟩,
   ⟨(some 12), (some (11, false)), (.mv (.t 0))⟩,
   ⟨(some 13), (some (11, false)), (.bin .lss .num (.t 12) (.c (.int .i64 0)))⟩,
   ⟨(some 14), none, (.pick (.t 11) (.c (.bool true)) (.t 13))⟩,
   ⟨(some 15), none, (.mv (.t 14))⟩,
   ⟨(some 16), (some (15, false)), (.mv (.t 0))⟩,
   ⟨(some 17), (some (15, false)), (.bin .gtr .num (.t 16) (.c (.int .i64 63)))⟩,
   ⟨(some 18), none, (.pick (.t 15) (.c (.bool true)) (.t 17))⟩,
   ⟨(some 19), none, (.mv (.t 18))⟩,
   ⟨(some 20), (some (19, false)), (.mv (.t 1))⟩,
   ⟨(some 21), (some (19, false)), (.mv (.t 2))⟩,
   ⟨(some 22), (some (19, false)), (.bin .shr .num (.t 20) (.t 21))⟩,
   ⟨(some 23), (some (19, false)), (.bin .gtr .num (.t 22) (.c (.int .u32 0)))⟩,
   ⟨(some 24), none, (.pick (.t 19) (.c (.bool true)) (.t 23))⟩])
 (.cond (.t 24)
 (.seq
 (.reg [⟨(some 6), none, (.mv (.c (.int .u64 0)))⟩]) .ret) .skip))
 (.seq
 (.reg [⟨(some 25), none, (.mv (.t 1))⟩,
   ⟨(some 26), none, (.conv (.int .u64) (.t 25))⟩,
   ⟨(some 27), none, (.mv (.t 0))⟩,
   ⟨(some 28), none, (.bin .shl .num (.t 26) (.t 27))⟩,
   ⟨(some 7), none, (.mv (.t 28))⟩])
 (.seq
 (.seq
 (.reg [⟨(some 29), none, (.mv (.t 7))⟩,
   ⟨(some 30), none, (.mv (.t 0))⟩,
   ⟨(some 31), none, (.bin .shr .num (.t 29) (.t 30))⟩,
   ⟨(some 32), none, (.mv (.t 1))⟩,
   ⟨(some 33), none, (.conv (.int .u64) (.t 32))⟩,
   ⟨(some 34), none, (.bin .neq .num (.t 31) (.t 33))⟩])
 (.cond (.t 34)
 (.seq
 (.reg [⟨(some 6), none, (.mv (.c (.int .u64 18446744073709551615)))⟩]) .ret) .skip))
 (.seq
 (.reg [⟨(some 35), none, (.mv (.t 7))⟩,
   ⟨(some 6), none, (.mv (.t 35))⟩]) .ret)))))⟩
theorem caf20 : cFunc Tryz.prog Tryz.f20 = some af20 := by kernel_rfl
/-- (*limelight/sfu.House).peer -/
def af21 : AFunc := ⟨17, [(.tmp 4)],
 (.seq
 (.reg [⟨(some 4), none, (.mv (.c (.ptr none)))⟩])
 (.seq
 (.seq
 (.reg [⟨(some 5), none, (.mv (.t 1))⟩,
   ⟨(some 6), none, (.bin .lss .num (.t 5) (.c (.int .i64 0)))⟩,
   ⟨(some 7), none, (.mv (.t 6))⟩,
   ⟨(some 8), (some (7, false)), (.mv (.t 1))⟩,
   ⟨(some 9), (some (7, false)), (.bin .geq .num (.t 8) (.c (.int .i64 6)))⟩,
   ⟨(some 10), none, (.pick (.t 7) (.c (.bool true)) (.t 9))⟩])
 (.cond (.t 10)
 (.seq
 (.reg [⟨(some 4), none, (.mv (.c (.ptr none)))⟩]) .ret) .skip))
 (.seq
 (.reg [⟨(some 11), none, (.mv (.t 0))⟩,
   ⟨(some 12), none, (.mv (.t 1))⟩,
   ⟨(some 13), none, (.nilCheck (.t 11))⟩,
   ⟨(some 14), none, (.fieldAddr 1 6 (.t 13))⟩,
   ⟨(some 15), none, (.ixArr 6 1 (.t 14) (.t 12))⟩,
   ⟨(some 16), none, (.load1 (.t 15))⟩,
   ⟨(some 4), none, (.mv (.t 16))⟩]) .ret)))⟩
theorem caf21 : cFunc Tryz.prog Tryz.f21 = some af21 := by kernel_rfl
/-- limelight/rtcp.Is -/
def af22 : AFunc := ⟨18, [(.tmp 2)],
 (.seq
 (.reg [⟨(some 2), none, (.mv (.c (.bool false)))⟩])
 (.seq
 (.reg [⟨(some 3), none, (.mv (.t 0))⟩,
   ⟨(some 4), none, (.len (.t 3))⟩,
   ⟨(some 5), none, (.bin .geq .num (.t 4) (.c (.int .i64 2)))⟩,
   ⟨(some 6), none, (.mv (.t 5))⟩,
   ⟨(some 7), (some (6, true)), (.mv (.t 0))⟩,
   ⟨(some 8), (some (6, true)), (.ixSlice 1 (.t 7) (.c (.int .i64 1)))⟩,
   ⟨(some 9), (some (6, true)), (.load1 (.t 8))⟩,
   ⟨(some 10), (some (6, true)), (.bin .geq .num (.t 9) (.c (.int .u8 192)))⟩,
   ⟨(some 11), none, (.pick (.t 6) (.t 10) (.c (.bool false)))⟩,
   ⟨(some 12), none, (.mv (.t 11))⟩,
   ⟨(some 13), (some (12, true)), (.mv (.t 0))⟩,
   ⟨(some 14), (some (12, true)), (.ixSlice 1 (.t 13) (.c (.int .i64 1)))⟩,
   ⟨(some 15), (some (12, true)), (.load1 (.t 14))⟩,
   ⟨(some 16), (some (12, true)), (.bin .leq .num (.t 15) (.c (.int .u8 223)))⟩,
   ⟨(some 17), none, (.pick (.t 12) (.t 16) (.c (.bool false)))⟩,
   ⟨(some 2), none, (.mv (.t 17))⟩]) .ret))⟩
theorem caf22 : cFunc Tryz.prog Tryz.f22 = some af22 := by kernel_rfl
def af23_l0 : AC :=
 (.seq
 (.reg [⟨(some 19), none, (.bin .lss .num (.t 18) (.t 17))⟩])
 (.seq
 (.cond (.t 19) .skip (.exit 0))
 (.seq
 (.block 1
 (.seq
 (.reg [⟨(some 20), none, (.ixSlice 10 (.t 16) (.t 18))⟩,
   ⟨(some 21), none, (.loadN 10 (.t 20))⟩,
   ⟨(some 10), none, (.alloc [(.int .i64 0), (.int .u32 0), (.int .u32 0), (.slice none 0 0 none), (.slice none 0 0 none), (.slice none 0 0 none), (.int .u64 0), (.int .i64 0), (.int .i64 0), (.slice none 0 0 none)])⟩,
   ⟨none, none, (.store 10 (.t 10) (.t 21))⟩])
 (.reg [⟨(some 22), none, (.mv (.t 0))⟩,
   ⟨(some 23), none, (.mv (.t 1))⟩,
   ⟨(some 24), none, (.loadN 10 (.t 10))⟩,
   ⟨(some 25), none, (.call 40 [(.t 22), (.t 23), (.t 24)])⟩])))
 (.reg [⟨(some 26), none, (.bin .add .num (.t 18) (.c (.int .i64 1)))⟩,
   ⟨(some 18), none, (.mv (.t 26))⟩]))))
/-- (*limelight/sfu.House).reports -/
def af23 : AFunc := ⟨29, [(.tmp 6)],
 (.seq
 (.reg [⟨(some 6), none, (.mv (.c (.bool false)))⟩])
 (.seq
 (.reg [⟨(some 12), none, (.mv (.t 2))⟩,
   ⟨(some 13), none, (.call 9 [(.t 12)])⟩,
   ⟨(some 11), none, (.mv (.t 13))⟩,
   ⟨(some 14), none, (.extract 0 (.t 11))⟩,
   ⟨(some 15), none, (.extract 1 (.t 11))⟩,
   ⟨(some 7), none, (.mv (.t 14))⟩,
   ⟨(some 8), none, (.mv (.t 15))⟩])
 (.seq
 (.seq
 (.reg [⟨(some 16), none, (.mv (.t 7))⟩,
   ⟨(some 17), none, (.len (.t 16))⟩,
   ⟨(some 18), none, (.mv (.c (.int .i64 0)))⟩])
 (.block 0
 (.loop af23_l0)))
 (.seq
 (.reg [⟨(some 27), none, (.mv (.t 8))⟩,
   ⟨(some 28), none, (.bin .eql .num (.t 27) (.c (.int .i64 0)))⟩,
   ⟨(some 6), none, (.mv (.t 28))⟩]) .ret))))⟩
theorem caf23 : cFunc Tryz.prog Tryz.f23 = some af23 := by kernel_rfl
def af24_l0 : AC :=
 (.seq
 (.reg [⟨(some 73), none, (.bin .lss .num (.t 72) (.c (.int .i64 6)))⟩])
 (.seq
 (.cond (.t 73) .skip (.exit 0))
 (.seq
 (.block 1
 (.seq
 (.reg [⟨(some 74), none, (.mv (.t 72))⟩,
   ⟨(some 75), none, (.ixAgg1 6 (.t 71) (.t 72))⟩,
   ⟨(some 13), none, (.mv (.t 74))⟩,
   ⟨(some 14), none, (.mv (.t 75))⟩])
 (.seq
 (.reg [⟨(some 76), none, (.mv (.t 14))⟩,
   ⟨(some 77), none, (.bin .neq .ptr (.t 76) (.c (.ptr none)))⟩])
 (.cond (.t 77)
 (.reg [⟨(some 78), none, (.mv (.t 0))⟩,
   ⟨(some 79), none, (.mv (.t 13))⟩,
   ⟨(some 80), none, (.mv (.t 1))⟩,
   ⟨(some 81), none, (.mv (.t 10))⟩,
   ⟨(some 82), none, (.mv (.t 11))⟩,
   ⟨(some 83), none, (.loadN 9 (.t 8))⟩,
   ⟨(some 84), none, (.call 44 [(.t 78), (.t 79), (.t 80), (.t 81), (.t 82), (.t 83)])⟩]) .skip))))
 (.reg [⟨(some 85), none, (.bin .add .num (.t 72) (.c (.int .i64 1)))⟩,
   ⟨(some 72), none, (.mv (.t 85))⟩]))))
/-- (*limelight/sfu.House).packet -/
def af24 : AFunc := ⟨86, [(.tmp 6)],
 (.seq
 (.reg [⟨(some 6), none, (.mv (.c (.bool false)))⟩])
 (.seq
 (.reg [⟨(some 15), none, (.mv (.t 0))⟩,
   ⟨(some 16), none, (.mv (.t 1))⟩,
   ⟨(some 17), none, (.nilCheck (.t 15))⟩,
   ⟨(some 18), none, (.fieldAddr 1 6 (.t 17))⟩,
   ⟨(some 19), none, (.ixArr 6 1 (.t 18) (.t 16))⟩,
   ⟨(some 20), none, (.load1 (.t 19))⟩,
   ⟨(some 21), none, (.nilCheck (.t 20))⟩,
   ⟨(some 22), none, (.fieldAddr 2 1 (.t 21))⟩,
   ⟨(some 23), none, (.load1 (.t 22))⟩,
   ⟨(some 7), none, (.mv (.t 23))⟩])
 (.seq
 (.reg [⟨(some 25), none, (.mv (.t 2))⟩,
   ⟨(some 26), none, (.call 41 [(.t 25)])⟩,
   ⟨(some 24), none, (.mv (.t 26))⟩,
   ⟨(some 27), none, (.extract 0 (.t 24))⟩,
   ⟨(some 28), none, (.extract 1 (.t 24))⟩,
   ⟨(some 8), none, (.alloc [(.bool false), (.int .i64 0), (.int .u16 0), (.int .u32 0), (.int .u32 0), (.slice none 0 0 none), (.int .u16 0), (.slice none 0 0 none), (.slice none 0 0 none)])⟩,
   ⟨none, none, (.store 9 (.t 8) (.t 27))⟩,
   ⟨(some 9), none, (.mv (.t 28))⟩])
 (.seq
 (.seq
 (.reg [⟨(some 29), none, (.mv (.t 9))⟩,
   ⟨(some 30), none, (.bin .neq .num (.t 29) (.c (.int .i64 0)))⟩,
   ⟨(some 31), none, (.mv (.t 30))⟩,
   ⟨(some 32), (some (31, false)), (.mv (.t 7))⟩,
   ⟨(some 33), (some (31, false)), (.bin .eql .ptr (.t 32) (.c (.ptr none)))⟩,
   ⟨(some 34), none, (.pick (.t 31) (.c (.bool true)) (.t 33))⟩,
   ⟨(some 35), none, (.mv (.t 34))⟩,
   ⟨(some 36), (some (35, false)), (.mv (.t 7))⟩,
   ⟨(some 37), (some (35, false)), (.loadN 9 (.t 8))⟩,
   ⟨(some 38), (some (35, false)), (.call 42 [(.t 36), (.t 37)])⟩,
   ⟨(some 39), (some (35, false)), (.bin .lss .num (.t 38) (.c (.int .i64 0)))⟩,
   ⟨(some 40), none, (.pick (.t 35) (.c (.bool true)) (.t 39))⟩])
 (.cond (.t 40)
 (.seq
 (.reg [⟨(some 6), none, (.mv (.c (.bool false)))⟩]) .ret) .skip))
 (.seq
 (.reg [⟨(some 41), none, (.mv (.t 7))⟩,
   ⟨(some 42), none, (.loadN 9 (.t 8))⟩,
   ⟨(some 43), none, (.call 42 [(.t 41), (.t 42)])⟩,
   ⟨(some 10), none, (.mv (.t 43))⟩])
 (.seq
 (.dreg [⟨(some 45), none, (.mv (.t 7))⟩,
   ⟨(some 46), none, (.mv (.t 10))⟩,
   ⟨(some 47), none, (.loadN 9 (.t 8))⟩,
   ⟨(some 48), none, (.mv (.t 2))⟩,
   ⟨(some 49), none, (.len (.t 48))⟩,
   ⟨(some 50), none, (.mv (.t 0))⟩,
   ⟨(some 51), none, (.nilCheck (.t 50))⟩,
   ⟨(some 52), none, (.fieldAddr 7 1 (.t 51))⟩,
   ⟨(some 53), none, (.load1 (.t 52))⟩,
   ⟨(some 54), none, (.call 43 [(.t 45), (.t 46), (.t 47), (.t 49), (.t 53)])⟩,
   ⟨(some 44), none, (.mv (.t 54))⟩,
   ⟨(some 55), none, (.extract 0 (.t 44))⟩,
   ⟨(some 56), none, (.extract 1 (.t 44))⟩,
   ⟨(some 11), none, (.mv (.t 55))⟩,
   ⟨(some 12), none, (.mv (.t 56))⟩] [])
 (.seq
 (.seq
 (.reg [⟨(some 57), none, (.mv (.t 12))⟩,
   ⟨(some 58), none, (.un .not (.t 57))⟩])
 (.cond (.t 58)
 (.seq
 (.reg [⟨(some 59), none, (.mv (.t 0))⟩,
   ⟨(some 60), none, (.nilCheck (.t 59))⟩,
   ⟨(some 61), none, (.fieldAddr 8 4 (.t 60))⟩,
   ⟨(some 62), none, (.fieldAddr 1 1 (.t 61))⟩,
   ⟨(some 63), none, (.load1 (.t 62))⟩,
   ⟨(some 64), none, (.bin .add .num (.t 63) (.c (.int .i64 1)))⟩,
   ⟨(some 65), none, (.nilCheck (.t 59))⟩,
   ⟨(some 66), none, (.fieldAddr 8 4 (.t 65))⟩,
   ⟨(some 67), none, (.fieldAddr 1 1 (.t 66))⟩,
   ⟨none, none, (.store 1 (.t 67) (.t 64))⟩])
 (.seq
 (.reg [⟨(some 6), none, (.mv (.c (.bool true)))⟩]) .ret)) .skip))
 (.seq
 (.seq
 (.reg [⟨(some 68), none, (.mv (.t 0))⟩,
   ⟨(some 69), none, (.nilCheck (.t 68))⟩,
   ⟨(some 70), none, (.fieldAddr 1 6 (.t 69))⟩,
   ⟨(some 71), none, (.loadN 6 (.t 70))⟩,
   ⟨(some 72), none, (.mv (.c (.int .i64 0)))⟩])
 (.block 0
 (.loop af24_l0)))
 (.seq
 (.reg [⟨(some 6), none, (.mv (.c (.bool true)))⟩]) .ret)))))))))⟩
theorem caf24 : cFunc Tryz.prog Tryz.f24 = some af24 := by kernel_rfl
def af25_l0 : AC :=
 (.seq
 (.reg [⟨(some 99), none, (.bin .lss .num (.t 98) (.t 97))⟩])
 (.seq
 (.cond (.t 99) .skip (.exit 8))
 (.seq
 (.block 9
 (.seq
 (.reg [⟨(some 100), none, (.ixSlice 1 (.t 96) (.t 98))⟩,
   ⟨(some 101), none, (.load1 (.t 100))⟩,
   ⟨(some 12), none, (.mv (.t 101))⟩])
 (.reg [⟨(some 102), none, (.mv (.t 0))⟩,
   ⟨(some 103), none, (.mv (.t 0))⟩,
   ⟨(some 104), none, (.nilCheck (.t 103))⟩,
   ⟨(some 105), none, (.fieldAddr 13 1 (.t 104))⟩,
   ⟨(some 106), none, (.load1 (.t 105))⟩,
   ⟨(some 107), none, (.mv (.t 9))⟩,
   ⟨(some 108), none, (.mv (.t 12))⟩,
   ⟨(some 109), none, (.build [(.int .i64 0), (.bool false), (.slice none 0 0 none)] [(0, (1, (.t 107))), (2, (1, (.t 108)))])⟩,
   ⟨(some 110), none, (.buildSlice 3 [(.int .i64 0), (.bool false), (.slice none 0 0 none)] 1 [(0, (3, (.t 109)))])⟩,
   ⟨(some 111), none, (.append 3 40 (.t 106) (.t 110))⟩,
   ⟨(some 112), none, (.nilCheck (.t 102))⟩,
   ⟨(some 113), none, (.fieldAddr 13 1 (.t 112))⟩,
   ⟨none, none, (.store 1 (.t 113) (.t 111))⟩])))
 (.reg [⟨(some 114), none, (.bin .add .num (.t 98) (.c (.int .i64 1)))⟩,
   ⟨(some 98), none, (.mv (.t 114))⟩]))))
def af25_l1 : AC :=
 (.seq
 (.reg [⟨(some 87), none, (.bin .lss .num (.t 86) (.c (.int .i64 6)))⟩])
 (.seq
 (.cond (.t 87) .skip (.exit 6))
 (.seq
 (.block 7
 (.seq
 (.reg [⟨(some 88), none, (.mv (.t 86))⟩,
   ⟨(some 89), none, (.ixAgg1 6 (.t 85) (.t 86))⟩,
   ⟨(some 9), none, (.mv (.t 88))⟩,
   ⟨(some 10), none, (.mv (.t 89))⟩])
 (.seq
 (.seq
 (.reg [⟨(some 90), none, (.mv (.t 10))⟩,
   ⟨(some 91), none, (.bin .eql .ptr (.t 90) (.c (.ptr none)))⟩])
 (.cond (.t 91) (.exit 7) .skip))
 (.seq
 (.reg [⟨(some 92), none, (.mv (.t 10))⟩,
   ⟨(some 93), none, (.nilCheck (.t 92))⟩,
   ⟨(some 94), none, (.fieldAddr 1 1 (.t 93))⟩,
   ⟨(some 95), none, (.load1 (.t 94))⟩,
   ⟨(some 96), none, (.call 50 [(.t 95)])⟩,
   ⟨(some 97), none, (.len (.t 96))⟩,
   ⟨(some 98), none, (.mv (.c (.int .i64 0)))⟩])
 (.block 8
 (.loop af25_l0))))))
 (.reg [⟨(some 115), none, (.bin .add .num (.t 86) (.c (.int .i64 1)))⟩,
   ⟨(some 86), none, (.mv (.t 115))⟩]))))
def af25_l2 : AC :=
 (.seq
 (.reg [⟨(some 63), none, (.bin .lss .num (.t 62) (.c (.int .i64 6)))⟩])
 (.seq
 (.cond (.t 63) .skip (.exit 4))
 (.seq
 (.block 5
 (.seq
 (.reg [⟨(some 64), none, (.mv (.t 62))⟩,
   ⟨(some 65), none, (.ixAgg1 6 (.t 61) (.t 62))⟩,
   ⟨(some 7), none, (.mv (.t 64))⟩,
   ⟨(some 8), none, (.mv (.t 65))⟩])
 (.seq
 (.reg [⟨(some 66), none, (.mv (.t 8))⟩,
   ⟨(some 67), none, (.bin .neq .ptr (.t 66) (.c (.ptr none)))⟩,
   ⟨(some 68), none, (.mv (.t 67))⟩,
   ⟨(some 69), (some (68, true)), (.mv (.t 8))⟩,
   ⟨(some 70), (some (68, true)), (.nilCheck (.t 69))⟩,
   ⟨(some 71), (some (68, true)), (.fieldAddr 2 1 (.t 70))⟩,
   ⟨(some 72), (some (68, true)), (.load1 (.t 71))⟩,
   ⟨(some 73), (some (68, true)), (.bin .neq .ptr (.t 72) (.c (.ptr none)))⟩,
   ⟨(some 74), none, (.pick (.t 68) (.t 73) (.c (.bool false)))⟩])
 (.cond (.t 74)
 (.reg [⟨(some 75), none, (.mv (.t 0))⟩,
   ⟨(some 76), none, (.mv (.t 7))⟩,
   ⟨(some 77), none, (.mv (.t 7))⟩,
   ⟨(some 78), none, (.ixArr 6 3 (.t 6) (.t 77))⟩,
   ⟨(some 79), none, (.loadN 3 (.t 78))⟩,
   ⟨(some 80), none, (.call 49 [(.t 75), (.t 76), (.t 79)])⟩]) .skip))))
 (.reg [⟨(some 81), none, (.bin .add .num (.t 62) (.c (.int .i64 1)))⟩,
   ⟨(some 62), none, (.mv (.t 81))⟩]))))
def af25_l3 : AC :=
 (.seq
 (.reg [⟨(some 47), none, (.bin .lss .num (.t 46) (.c (.int .i64 6)))⟩])
 (.seq
 (.cond (.t 47) .skip (.exit 2))
 (.seq
 (.block 3
 (.seq
 (.reg [⟨(some 48), none, (.mv (.t 46))⟩,
   ⟨(some 49), none, (.ixAgg1 6 (.t 45) (.t 46))⟩,
   ⟨(some 4), none, (.mv (.t 48))⟩,
   ⟨(some 5), none, (.mv (.t 49))⟩])
 (.seq
 (.reg [⟨(some 50), none, (.mv (.t 5))⟩,
   ⟨(some 51), none, (.bin .neq .ptr (.t 50) (.c (.ptr none)))⟩])
 (.cond (.t 51)
 (.reg [⟨(some 52), none, (.mv (.t 0))⟩,
   ⟨(some 53), none, (.mv (.t 4))⟩,
   ⟨(some 54), none, (.call 47 [(.t 52), (.t 53)])⟩]) .skip))))
 (.reg [⟨(some 55), none, (.bin .add .num (.t 46) (.c (.int .i64 1)))⟩,
   ⟨(some 46), none, (.mv (.t 55))⟩]))))
def af25_l4 : AC :=
 (.seq
 (.reg [⟨(some 18), none, (.bin .lss .num (.t 17) (.c (.int .i64 6)))⟩])
 (.seq
 (.cond (.t 18) .skip (.exit 0))
 (.seq
 (.block 1
 (.seq
 (.reg [⟨(some 19), none, (.ixAgg1 6 (.t 16) (.t 17))⟩,
   ⟨(some 3), none, (.mv (.t 19))⟩])
 (.seq
 (.reg [⟨(some 20), none, (.mv (.t 3))⟩,
   ⟨(some 21), none, (.bin .neq .ptr (.t 20) (.c (.ptr none)))⟩])
 (.cond (.t 21)
 (.seq
 (.dreg [⟨(some 22), none, (.mv (.t 3))⟩,
   ⟨(some 23), none, (.nilCheck (.t 22))⟩,
   ⟨(some 24), none, (.fieldAddr 0 1 (.t 23))⟩,
   ⟨(some 25), none, (.load1 (.t 24))⟩,
   ⟨(some 26), none, (.mv (.t 0))⟩,
   ⟨(some 27), none, (.nilCheck (.t 26))⟩,
   ⟨(some 28), none, (.fieldAddr 7 1 (.t 27))⟩,
   ⟨(some 29), none, (.load1 (.t 28))⟩,
   ⟨(some 30), none, (.call 45 [(.t 25), (.t 29)])⟩] [])
 (.dreg [⟨(some 31), none, (.mv (.t 3))⟩,
   ⟨(some 32), none, (.nilCheck (.t 31))⟩,
   ⟨(some 33), none, (.fieldAddr 1 1 (.t 32))⟩,
   ⟨(some 34), none, (.load1 (.t 33))⟩,
   ⟨(some 35), none, (.mv (.t 3))⟩,
   ⟨(some 36), none, (.nilCheck (.t 35))⟩,
   ⟨(some 37), none, (.fieldAddr 0 1 (.t 36))⟩,
   ⟨(some 38), none, (.load1 (.t 37))⟩,
   ⟨(some 39), none, (.call 30 [(.t 38)])⟩,
   ⟨(some 40), none, (.call 46 [(.t 34), (.t 39)])⟩] [(3, 9)])) .skip))))
 (.reg [⟨(some 41), none, (.bin .add .num (.t 17) (.c (.int .i64 1)))⟩,
   ⟨(some 17), none, (.mv (.t 41))⟩]))))
/-- (*limelight/sfu.House).settle -/
def af25 : AFunc := ⟨116, [],
 (.seq
 (.seq
 (.reg [⟨(some 13), none, (.mv (.t 0))⟩,
   ⟨(some 14), none, (.nilCheck (.t 13))⟩,
   ⟨(some 15), none, (.fieldAddr 1 6 (.t 14))⟩,
   ⟨(some 16), none, (.loadN 6 (.t 15))⟩,
   ⟨(some 17), none, (.mv (.c (.int .i64 0)))⟩])
 (.block 0
 (.loop af25_l4)))
 (.seq
 (.seq
 (.reg [⟨(some 42), none, (.mv (.t 0))⟩,
   ⟨(some 43), none, (.nilCheck (.t 42))⟩,
   ⟨(some 44), none, (.fieldAddr 1 6 (.t 43))⟩,
   ⟨(some 45), none, (.loadN 6 (.t 44))⟩,
   ⟨(some 46), none, (.mv (.c (.int .i64 0)))⟩])
 (.block 2
 (.loop af25_l3)))
 (.seq
 (.reg [⟨(some 56), none, (.mv (.t 0))⟩,
   ⟨(some 57), none, (.call 48 [(.t 56)])⟩,
   ⟨(some 6), none, (.alloc [(.bool false), (.bool false), (.bool false), (.bool false), (.bool false), (.bool false), (.bool false), (.bool false), (.bool false), (.bool false), (.bool false), (.bool false), (.bool false), (.bool false), (.bool false), (.bool false), (.bool false), (.bool false)])⟩,
   ⟨none, none, (.store 18 (.t 6) (.t 57))⟩])
 (.seq
 (.seq
 (.reg [⟨(some 58), none, (.mv (.t 0))⟩,
   ⟨(some 59), none, (.nilCheck (.t 58))⟩,
   ⟨(some 60), none, (.fieldAddr 1 6 (.t 59))⟩,
   ⟨(some 61), none, (.loadN 6 (.t 60))⟩,
   ⟨(some 62), none, (.mv (.c (.int .i64 0)))⟩])
 (.block 4
 (.loop af25_l2)))
 (.seq
 (.reg [⟨(some 82), none, (.mv (.t 0))⟩,
   ⟨(some 83), none, (.nilCheck (.t 82))⟩,
   ⟨(some 84), none, (.fieldAddr 1 6 (.t 83))⟩,
   ⟨(some 85), none, (.loadN 6 (.t 84))⟩,
   ⟨(some 86), none, (.mv (.c (.int .i64 0)))⟩])
 (.block 6
 (.loop af25_l1)))))))⟩
theorem caf25 : cFunc Tryz.prog Tryz.f25 = some af25 := by kernel_rfl
/-- (*limelight/sfu.House).told -/
def af26 : AFunc := ⟨13, [(.tmp 2)],
 (.seq
 (.reg [⟨(some 2), none, (.mv (.c (.slice none 0 0 none)))⟩])
 (.seq
 (.reg [⟨(some 4), none, (.mv (.t 0))⟩,
   ⟨(some 5), none, (.nilCheck (.t 4))⟩,
   ⟨(some 6), none, (.fieldAddr 13 1 (.t 5))⟩,
   ⟨(some 7), none, (.load1 (.t 6))⟩,
   ⟨(some 8), none, (.call 51 [(.t 7)])⟩,
   ⟨(some 3), none, (.mv (.t 8))⟩])
 (.seq
 (.reg [⟨(some 9), none, (.mv (.t 0))⟩,
   ⟨(some 10), none, (.nilCheck (.t 9))⟩,
   ⟨(some 11), none, (.fieldAddr 13 1 (.t 10))⟩,
   ⟨none, none, (.store 1 (.t 11) (.c (.slice none 0 0 none)))⟩])
 (.seq
 (.reg [⟨(some 12), none, (.mv (.t 3))⟩,
   ⟨(some 2), none, (.mv (.t 12))⟩]) .ret))))⟩
theorem caf26 : cFunc Tryz.prog Tryz.f26 = some af26 := by kernel_rfl
def af27_l0 : AC :=
 (.seq
 (.reg [⟨(some 31), none, (.bin .lss .num (.t 30) (.t 29))⟩])
 (.seq
 (.cond (.t 31) .skip (.exit 2))
 (.seq
 (.block 3
 (.seq
 (.reg [⟨(some 32), none, (.ixSlice 10 (.t 28) (.t 30))⟩,
   ⟨(some 33), none, (.loadN 10 (.t 32))⟩,
   ⟨(some 9), none, (.alloc [(.int .i64 0), (.int .u32 0), (.int .u32 0), (.slice none 0 0 none), (.slice none 0 0 none), (.slice none 0 0 none), (.int .u64 0), (.int .i64 0), (.int .i64 0), (.slice none 0 0 none)])⟩,
   ⟨none, none, (.store 10 (.t 9) (.t 33))⟩])
 (.seq
 (.reg [⟨(some 35), none, (.loadN 10 (.t 9))⟩,
   ⟨(some 36), none, (.call 53 [(.t 35)])⟩,
   ⟨(some 34), none, (.mv (.t 36))⟩,
   ⟨(some 37), none, (.extract 0 (.t 34))⟩,
   ⟨(some 38), none, (.extract 1 (.t 34))⟩,
   ⟨(some 39), none, (.extract 2 (.t 34))⟩,
   ⟨(some 10), none, (.mv (.t 37))⟩,
   ⟨(some 11), none, (.mv (.t 38))⟩,
   ⟨(some 12), none, (.mv (.t 39))⟩])
 (.seq
 (.reg [⟨(some 40), none, (.mv (.t 4))⟩,
   ⟨(some 41), none, (.mv (.t 12))⟩,
   ⟨(some 42), none, (.bin .or .num (.c (.int .i64 128)) (.t 41))⟩,
   ⟨(some 43), none, (.conv (.int .u8) (.t 42))⟩,
   ⟨(some 44), none, (.mv (.t 11))⟩,
   ⟨(some 45), none, (.conv (.int .u8) (.t 44))⟩,
   ⟨(some 46), none, (.buildSlice 1 [(.int .u8 0)] 2 [(0, (1, (.t 43))), (1, (1, (.t 45)))])⟩,
   ⟨(some 47), none, (.append 1 1 (.t 40) (.t 46))⟩,
   ⟨(some 4), none, (.mv (.t 47))⟩])
 (.seq
 (.reg [⟨(some 48), none, (.mv (.t 4))⟩,
   ⟨(some 49), none, (.mv (.t 10))⟩,
   ⟨(some 50), none, (.len (.t 49))⟩,
   ⟨(some 51), none, (.bin .quo .num (.t 50) (.c (.int .i64 4)))⟩,
   ⟨(some 52), none, (.conv (.int .u64) (.t 51))⟩,
   ⟨(some 53), none, (.call 54 [(.t 48), (.t 52), (.c (.int .i64 2))])⟩,
   ⟨(some 54), none, (.mv (.t 10))⟩,
   ⟨(some 55), none, (.append 1 1 (.t 53) (.t 54))⟩,
   ⟨(some 4), none, (.mv (.t 55))⟩])
 (.seq
 (.reg [⟨(some 56), none, (.mv (.t 4))⟩,
   ⟨(some 57), none, (.len (.t 56))⟩,
   ⟨(some 58), none, (.bin .gtr .num (.t 57) (.c (.int .i64 1500)))⟩])
 (.cond (.t 58)
 (.seq
 (.reg [⟨(some 2), none, (.mv (.c (.slice none 0 0 none)))⟩,
   ⟨(some 3), none, (.mv (.c (.int .i64 3)))⟩]) .ret) .skip)))))))
 (.reg [⟨(some 59), none, (.bin .add .num (.t 30) (.c (.int .i64 1)))⟩,
   ⟨(some 30), none, (.mv (.t 59))⟩]))))
def af27_l1 : AC :=
 (.seq
 (.reg [⟨(some 19), none, (.bin .lss .num (.t 18) (.t 17))⟩])
 (.seq
 (.cond (.t 19) .skip (.exit 0))
 (.seq
 (.block 1
 (.seq
 (.reg [⟨(some 20), none, (.ixSlice 10 (.t 16) (.t 18))⟩,
   ⟨(some 21), none, (.loadN 10 (.t 20))⟩,
   ⟨(some 6), none, (.alloc [(.int .i64 0), (.int .u32 0), (.int .u32 0), (.slice none 0 0 none), (.slice none 0 0 none), (.slice none 0 0 none), (.int .u64 0), (.int .i64 0), (.int .i64 0), (.slice none 0 0 none)])⟩,
   ⟨none, none, (.store 10 (.t 6) (.t 21))⟩])
 (.seq
 (.reg [⟨(some 22), none, (.loadN 10 (.t 6))⟩,
   ⟨(some 23), none, (.call 52 [(.t 22)])⟩,
   ⟨(some 7), none, (.mv (.t 23))⟩])
 (.seq
 (.reg [⟨(some 24), none, (.mv (.t 7))⟩,
   ⟨(some 25), none, (.bin .neq .num (.t 24) (.c (.int .i64 0)))⟩])
 (.cond (.t 25)
 (.seq
 (.reg [⟨(some 26), none, (.mv (.t 7))⟩,
   ⟨(some 2), none, (.mv (.c (.slice none 0 0 none)))⟩,
   ⟨(some 3), none, (.mv (.t 26))⟩]) .ret) .skip)))))
 (.reg [⟨(some 27), none, (.bin .add .num (.t 18) (.c (.int .i64 1)))⟩,
   ⟨(some 18), none, (.mv (.t 27))⟩]))))
/-- limelight/rtcp.Bytes -/
def af27 : AFunc := ⟨62, [(.tmp 2), (.tmp 3)],
 (.seq
 (.reg [⟨(some 2), none, (.mv (.c (.slice none 0 0 none)))⟩,
   ⟨(some 3), none, (.mv (.c (.int .i64 0)))⟩])
 (.seq
 (.seq
 (.reg [⟨(some 13), none, (.mv (.t 0))⟩,
   ⟨(some 14), none, (.len (.t 13))⟩,
   ⟨(some 15), none, (.bin .eql .num (.t 14) (.c (.int .i64 0)))⟩])
 (.cond (.t 15)
 (.seq
 (.reg [⟨(some 2), none, (.mv (.c (.slice none 0 0 none)))⟩,
   ⟨(some 3), none, (.mv (.c (.int .i64 1)))⟩]) .ret) .skip))
 (.seq
 (.reg [⟨(some 4), none, (.mv (.c (.slice none 0 0 none)))⟩])
 (.seq
 (.seq
 (.reg [⟨(some 16), none, (.mv (.t 0))⟩,
   ⟨(some 17), none, (.len (.t 16))⟩,
   ⟨(some 18), none, (.mv (.c (.int .i64 0)))⟩])
 (.block 0
 (.loop af27_l1)))
 (.seq
 (.seq
 (.reg [⟨(some 28), none, (.mv (.t 0))⟩,
   ⟨(some 29), none, (.len (.t 28))⟩,
   ⟨(some 30), none, (.mv (.c (.int .i64 0)))⟩])
 (.block 2
 (.loop af27_l0)))
 (.seq
 (.reg [⟨(some 60), none, (.mv (.t 4))⟩,
   ⟨(some 61), none, (.call 55 [(.t 60)])⟩,
   ⟨(some 2), none, (.mv (.t 61))⟩,
   ⟨(some 3), none, (.mv (.c (.int .i64 0)))⟩]) .ret))))))⟩
theorem caf27 : cFunc Tryz.prog Tryz.f27 = some af27 := by kernel_rfl
/-- limelight/rtcp.one -/
def af28 : AFunc := ⟨76, [(.cellN 2 10), (.tmp 3), (.tmp 4)],
 (.seq
 (.reg [⟨(some 2), none, (.alloc [(.int .i64 0), (.int .u32 0), (.int .u32 0), (.slice none 0 0 none), (.slice none 0 0 none), (.slice none 0 0 none), (.int .u64 0), (.int .i64 0), (.int .i64 0), (.slice none 0 0 none)])⟩,
   ⟨(some 3), none, (.mv (.c (.int .i64 0)))⟩,
   ⟨(some 4), none, (.mv (.c (.int .i64 0)))⟩])
 (.seq
 (.seq
 (.reg [⟨(some 10), none, (.mv (.t 0))⟩,
   ⟨(some 11), none, (.len (.t 10))⟩,
   ⟨(some 12), none, (.bin .lss .num (.t 11) (.c (.int .i64 4)))⟩])
 (.cond (.t 12)
 (.seq
 (.reg [⟨(some 13), none, (.build [(.int .i64 0), (.int .u32 0), (.int .u32 0), (.slice none 0 0 none), (.slice none 0 0 none), (.slice none 0 0 none), (.int .u64 0), (.int .i64 0), (.int .i64 0), (.slice none 0 0 none)] [])⟩,
   ⟨none, none, (.store 10 (.t 2) (.t 13))⟩,
   ⟨(some 3), none, (.mv (.c (.int .i64 0)))⟩,
   ⟨(some 4), none, (.mv (.c (.int .i64 13)))⟩]) .ret) .skip))
 (.seq
 (.reg [⟨(some 15), none, (.mv (.t 0))⟩,
   ⟨(some 16), none, (.call 56 [(.t 15), (.c (.int .i64 2)), (.c (.int .i64 2))])⟩,
   ⟨(some 14), none, (.mv (.t 16))⟩,
   ⟨(some 17), none, (.extract 0 (.t 14))⟩,
   ⟨(some 18), none, (.extract 1 (.t 14))⟩,
   ⟨(some 5), none, (.mv (.t 17))⟩,
   ⟨(some 6), none, (.mv (.t 18))⟩])
 (.seq
 (.reg [⟨(some 19), none, (.mv (.t 5))⟩,
   ⟨(some 20), none, (.conv (.int .i64) (.t 19))⟩,
   ⟨(some 21), none, (.bin .mul .num (.c (.int .i64 4)) (.t 20))⟩,
   ⟨(some 22), none, (.bin .add .num (.c (.int .i64 4)) (.t 21))⟩,
   ⟨(some 7), none, (.mv (.t 22))⟩])
 (.seq
 (.block 0
 (.seq
 (.reg [⟨(some 24), none, (.mv (.t 7))⟩,
   ⟨(some 25), none, (.mv (.t 0))⟩,
   ⟨(some 26), none, (.len (.t 25))⟩,
   ⟨(some 27), none, (.bin .gtr .num (.t 24) (.t 26))⟩,
   ⟨(some 23), none, (.mv (.t 27))⟩])
 (.cond (.t 23)
 (.seq
 (.reg [⟨(some 28), none, (.build [(.int .i64 0), (.int .u32 0), (.int .u32 0), (.slice none 0 0 none), (.slice none 0 0 none), (.slice none 0 0 none), (.int .u64 0), (.int .i64 0), (.int .i64 0), (.slice none 0 0 none)] [])⟩,
   ⟨none, none, (.store 10 (.t 2) (.t 28))⟩,
   ⟨(some 3), none, (.mv (.c (.int .i64 0)))⟩,
   ⟨(some 4), none, (.mv (.c (.int .i64 13)))⟩]) .ret)
 (.seq
 (.reg [⟨(some 30), none, (.mv (.t 0))⟩,
   ⟨(some 31), none, (.ixSlice 1 (.t 30) (.c (.int .i64 0)))⟩,
   ⟨(some 32), none, (.load1 (.t 31))⟩,
   ⟨(some 33), none, (.bin .and .num (.t 32) (.c (.int .u8 192)))⟩,
   ⟨(some 34), none, (.bin .neq .num (.t 33) (.c (.int .u8 128)))⟩,
   ⟨(some 35), none, (.mv (.t 34))⟩,
   ⟨(some 36), (some (35, false)), (.mv (.t 0))⟩,
   ⟨(some 37), (some (35, false)), (.ixSlice 1 (.t 36) (.c (.int .i64 0)))⟩,
   ⟨(some 38), (some (35, false)), (.load1 (.t 37))⟩,
   ⟨(some 39), (some (35, false)), (.bin .and .num (.t 38) (.c (.int .u8 32)))⟩,
   ⟨(some 40), (some (35, false)), (.bin .neq .num (.t 39) (.c (.int .u8 0)))⟩,
   ⟨(some 41), none, (.pick (.t 35) (.c (.bool true)) (.t 40))⟩,
   ⟨(some 42), none, (.mv (.t 41))⟩,
   ⟨(some 43), (some (42, false)), (.mv (.t 0))⟩,
   ⟨(some 44), (some (42, false)), (.ixSlice 1 (.t 43) (.c (.int .i64 1)))⟩,
   ⟨(some 45), (some (42, false)), (.load1 (.t 44))⟩,
   ⟨(some 46), (some (42, false)), (.bin .lss .num (.t 45) (.c (.int .u8 192)))⟩,
   ⟨(some 47), none, (.pick (.t 42) (.c (.bool true)) (.t 46))⟩,
   ⟨(some 48), none, (.mv (.t 47))⟩,
   ⟨(some 49), (some (48, false)), (.mv (.t 0))⟩,
   ⟨(some 50), (some (48, false)), (.ixSlice 1 (.t 49) (.c (.int .i64 1)))⟩,
   ⟨(some 51), (some (48, false)), (.load1 (.t 50))⟩,
   ⟨(some 52), (some (48, false)), (.bin .gtr .num (.t 51) (.c (.int .u8 223)))⟩,
   ⟨(some 53), none, (.pick (.t 48) (.c (.bool true)) (.t 52))⟩,
   ⟨(some 29), none, (.mv (.t 53))⟩])
 (.cond (.t 29)
 (.seq
 (.reg [⟨(some 54), none, (.build [(.int .i64 0), (.int .u32 0), (.int .u32 0), (.slice none 0 0 none), (.slice none 0 0 none), (.slice none 0 0 none), (.int .u64 0), (.int .i64 0), (.int .i64 0), (.slice none 0 0 none)] [])⟩,
   ⟨none, none, (.store 10 (.t 2) (.t 54))⟩,
   ⟨(some 3), none, (.mv (.c (.int .i64 0)))⟩,
   ⟨(some 4), none, (.mv (.c (.int .i64 12)))⟩]) .ret) .skip)))))
 (.seq
 (.dreg [⟨(some 56), none, (.mv (.t 0))⟩,
   ⟨(some 57), none, (.ixSlice 1 (.t 56) (.c (.int .i64 1)))⟩,
   ⟨(some 58), none, (.load1 (.t 57))⟩,
   ⟨(some 59), none, (.conv (.int .i64) (.t 58))⟩,
   ⟨(some 60), none, (.mv (.t 0))⟩,
   ⟨(some 61), none, (.ixSlice 1 (.t 60) (.c (.int .i64 0)))⟩,
   ⟨(some 62), none, (.load1 (.t 61))⟩,
   ⟨(some 63), none, (.bin .and .num (.t 62) (.c (.int .u8 31)))⟩,
   ⟨(some 64), none, (.conv (.int .i64) (.t 63))⟩,
   ⟨(some 65), none, (.mv (.t 0))⟩,
   ⟨(some 66), none, (.mv (.t 7))⟩,
   ⟨(some 67), none, (.cut 1 (.t 65) (some (.c (.int .i64 4))) (some (.t 66)) none)⟩,
   ⟨(some 68), none, (.call 57 [(.t 59), (.t 64), (.t 67)])⟩,
   ⟨(some 55), none, (.mv (.t 68))⟩,
   ⟨(some 69), none, (.extract 0 (.t 55))⟩,
   ⟨(some 70), none, (.extract 1 (.t 55))⟩,
   ⟨(some 8), none, (.alloc [(.int .i64 0), (.int .u32 0), (.int .u32 0), (.slice none 0 0 none), (.slice none 0 0 none), (.slice none 0 0 none), (.int .u64 0), (.int .i64 0), (.int .i64 0), (.slice none 0 0 none)])⟩,
   ⟨none, none, (.store 10 (.t 8) (.t 69))⟩,
   ⟨(some 9), none, (.mv (.t 70))⟩] [(16, 16), (2, 17), (6, 17)])
 (.seq
 (.seq
 (.reg [⟨(some 71), none, (.mv (.t 9))⟩,
   ⟨(some 72), none, (.un .not (.t 71))⟩])
 (.cond (.t 72)
 (.seq
 (.reg [⟨(some 73), none, (.build [(.int .i64 0), (.int .u32 0), (.int .u32 0), (.slice none 0 0 none), (.slice none 0 0 none), (.slice none 0 0 none), (.int .u64 0), (.int .i64 0), (.int .i64 0), (.slice none 0 0 none)] [])⟩,
   ⟨none, none, (.store 10 (.t 2) (.t 73))⟩,
   ⟨(some 3), none, (.mv (.c (.int .i64 0)))⟩,
   ⟨(some 4), none, (.mv (.c (.int .i64 12)))⟩]) .ret) .skip))
 (.seq
 (.reg [⟨(some 74), none, (.loadN 10 (.t 8))⟩,
   ⟨(some 75), none, (.mv (.t 7))⟩,
   ⟨none, none, (.store 10 (.t 2) (.t 74))⟩,
   ⟨(some 3), none, (.mv (.t 75))⟩,
   ⟨(some 4), none, (.mv (.c (.int .i64 0)))⟩]) .ret))))))))⟩
theorem caf28 : cFunc Tryz.prog Tryz.f28 = some af28 := by kernel_rfl
/-- slices.Clip[[]limelight/api.Report,limelight/api.Report] -/
def af29 : AFunc := ⟨9, [(.tmp 2)],
 (.seq
 (.reg [⟨(some 2), none, (.mv (.c (.slice none 0 0 none)))⟩])
 (.seq
 (.reg [⟨(some 3), none, (.mv (.t 0))⟩,
   ⟨(some 4), none, (.mv (.t 0))⟩,
   ⟨(some 5), none, (.len (.t 4))⟩,
   ⟨(some 6), none, (.mv (.t 0))⟩,
   ⟨(some 7), none, (.len (.t 6))⟩,
   ⟨(some 8), none, (.cut 10 (.t 3) none (some (.t 5)) (some (.t 7)))⟩,
   ⟨(some 2), none, (.mv (.t 8))⟩]) .ret))⟩
theorem caf29 : cFunc Tryz.prog Tryz.f29 = some af29 := by kernel_rfl
/-- (*limelight/limit.Limit).Rate -/
def af30 : AFunc := ⟨35, [(.tmp 2)],
 (.seq
 (.reg [⟨(some 2), none, (.mv (.c (.int .i64 0)))⟩])
 (.seq
 (.reg [⟨(some 6), none, (.mv (.t 0))⟩,
   ⟨(some 7), none, (.nilCheck (.t 6))⟩,
   ⟨(some 8), none, (.fieldAddr 0 1 (.t 7))⟩,
   ⟨(some 9), none, (.load1 (.t 8))⟩,
   ⟨(some 3), none, (.mv (.t 9))⟩])
 (.seq
 (.seq
 (.reg [⟨(some 10), none, (.mv (.t 0))⟩,
   ⟨(some 11), none, (.nilCheck (.t 10))⟩,
   ⟨(some 12), none, (.fieldAddr 2 1 (.t 11))⟩,
   ⟨(some 13), none, (.load1 (.t 12))⟩])
 (.cond (.t 13)
 (.reg [⟨(some 14), none, (.mv (.t 3))⟩,
   ⟨(some 15), none, (.mv (.t 0))⟩,
   ⟨(some 16), none, (.nilCheck (.t 15))⟩,
   ⟨(some 17), none, (.fieldAddr 1 1 (.t 16))⟩,
   ⟨(some 18), none, (.load1 (.t 17))⟩,
   ⟨(some 19), none, (.call 11 [(.t 18)])⟩,
   ⟨(some 20), none, (.mn [(.t 14), (.t 19)])⟩,
   ⟨(some 3), none, (.mv (.t 20))⟩]) .skip))
 (.seq
 (.seq
 (.reg [⟨(some 22), none, (.mv (.t 0))⟩,
   ⟨(some 23), none, (.nilCheck (.t 22))⟩,
   ⟨(some 24), none, (.fieldAddr 3 1 (.t 23))⟩,
   ⟨(some 25), none, (.load1 (.t 24))⟩,
   ⟨(some 26), none, (.call 58 [(.t 25)])⟩,
   ⟨(some 21), none, (.mv (.t 26))⟩,
   ⟨(some 27), none, (.extract 0 (.t 21))⟩,
   ⟨(some 28), none, (.extract 1 (.t 21))⟩,
   ⟨(some 4), none, (.mv (.t 27))⟩,
   ⟨(some 5), none, (.mv (.t 28))⟩])
 (.seq
 (.reg [⟨(some 29), none, (.mv (.t 5))⟩])
 (.cond (.t 29)
 (.reg [⟨(some 30), none, (.mv (.t 3))⟩,
   ⟨(some 31), none, (.mv (.t 4))⟩,
   ⟨(some 32), none, (.call 11 [(.t 31)])⟩,
   ⟨(some 33), none, (.mn [(.t 30), (.t 32)])⟩,
   ⟨(some 3), none, (.mv (.t 33))⟩]) .skip)))
 (.seq
 (.reg [⟨(some 34), none, (.mv (.t 3))⟩,
   ⟨(some 2), none, (.mv (.t 34))⟩]) .ret)))))⟩
theorem caf30 : cFunc Tryz.prog Tryz.f30 = some af30 := by kernel_rfl
/-- (*limelight/pace.Queue).Tick -/
def af31 : AFunc := ⟨10, [],
 (.reg [⟨(some 4), none, (.mv (.t 0))⟩,
   ⟨(some 5), none, (.nilCheck (.t 4))⟩,
   ⟨(some 6), none, (.fieldAddr 1 1 (.t 5))⟩,
   ⟨(some 7), none, (.load1 (.t 6))⟩,
   ⟨(some 8), none, (.mv (.t 1))⟩,
   ⟨(some 9), none, (.call 59 [(.t 7), (.t 8)])⟩])⟩
theorem caf31 : cFunc Tryz.prog Tryz.f31 = some af31 := by kernel_rfl
def af32_l0 : AC :=
 (.seq
 (.reg [⟨(some 31), none, (.bin .lss .num (.t 30) (.t 29))⟩])
 (.seq
 (.cond (.t 31) .skip (.exit 2))
 (.seq
 (.block 3
 (.seq
 (.reg [⟨(some 32), none, (.mv (.t 30))⟩,
   ⟨(some 10), none, (.mv (.t 32))⟩])
 (.seq
 (.reg [⟨(some 33), none, (.mv (.t 9))⟩,
   ⟨(some 34), none, (.mv (.t 10))⟩,
   ⟨(some 35), none, (.call 63 [(.t 33), (.t 34)])⟩,
   ⟨(some 36), none, (.un .not (.t 35))⟩])
 (.cond (.t 36)
 (.reg [⟨(some 37), none, (.mv (.t 7))⟩,
   ⟨(some 38), none, (.mv (.t 0))⟩,
   ⟨(some 39), none, (.mv (.t 1))⟩,
   ⟨(some 40), none, (.mv (.t 10))⟩,
   ⟨(some 41), none, (.mv (.t 8))⟩,
   ⟨(some 42), none, (.call 64 [(.t 38), (.t 39), (.t 40), (.t 41), (.c (.bool true)), (.c (.int .i64 100))])⟩,
   ⟨(some 43), none, (.append 3 40 (.t 37) (.t 42))⟩,
   ⟨(some 7), none, (.mv (.t 43))⟩]) .skip))))
 (.reg [⟨(some 44), none, (.bin .add .num (.t 30) (.c (.int .i64 1)))⟩,
   ⟨(some 30), none, (.mv (.t 44))⟩]))))
def af32_l1 : AC :=
 (.seq
 (.reg [⟨(some 17), none, (.bin .lss .num (.t 16) (.t 15))⟩])
 (.seq
 (.cond (.t 17) .skip (.exit 0))
 (.seq
 (.block 1
 (.seq
 (.reg [⟨(some 18), none, (.mv (.t 0))⟩,
   ⟨(some 19), none, (.call 60 [(.t 18)])⟩,
   ⟨(some 20), none, (.bin .quo .num (.t 19) (.c (.int .i64 40000)))⟩,
   ⟨(some 21), none, (.conv (.int .u16) (.t 20))⟩,
   ⟨(some 22), none, (.mv (.t 0))⟩,
   ⟨(some 23), none, (.mv (.t 1))⟩,
   ⟨(some 24), none, (.call 36 [(.t 22), (.t 23)])⟩,
   ⟨(some 8), none, (.mv (.t 21))⟩,
   ⟨(some 9), none, (.mv (.t 24))⟩])
 (.seq
 (.seq
 (.reg [⟨(some 25), none, (.mv (.t 0))⟩,
   ⟨(some 26), none, (.call 61 [(.t 25)])⟩,
   ⟨(some 27), none, (.mv (.t 1))⟩,
   ⟨(some 28), none, (.call 62 [(.t 26), (.t 27)])⟩,
   ⟨(some 29), none, (.len (.t 28))⟩,
   ⟨(some 30), none, (.mv (.c (.int .i64 0)))⟩])
 (.block 2
 (.loop af32_l0)))
 (.reg [⟨(some 45), none, (.mv (.t 7))⟩,
   ⟨(some 46), none, (.mv (.t 0))⟩,
   ⟨(some 47), none, (.call 12 [(.t 46), (.c (.int .i64 40000))])⟩,
   ⟨(some 48), none, (.append 3 40 (.t 45) (.t 47))⟩,
   ⟨(some 7), none, (.mv (.t 48))⟩]))))
 (.reg [⟨(some 49), none, (.bin .add .num (.t 16) (.c (.int .i64 1)))⟩,
   ⟨(some 16), none, (.mv (.t 49))⟩]))))
/-- limelight/calm.Play -/
def af32 : AFunc := ⟨52, [(.tmp 6)],
 (.seq
 (.reg [⟨(some 6), none, (.mv (.c (.slice none 0 0 none)))⟩])
 (.seq
 (.seq
 (.reg [⟨(some 11), none, (.mv (.t 0))⟩,
   ⟨(some 12), none, (.bin .eql .ptr (.t 11) (.c (.ptr none)))⟩])
 (.cond (.t 12)
 (.seq
 (.reg [⟨(some 6), none, (.mv (.c (.slice none 0 0 none)))⟩]) .ret) .skip))
 (.seq
 (.reg [⟨(some 7), none, (.mv (.c (.slice none 0 0 none)))⟩])
 (.seq
 (.seq
 (.reg [⟨(some 13), none, (.mv (.t 2))⟩,
   ⟨(some 14), none, (.mn [(.t 13), (.c (.int .i64 50))])⟩,
   ⟨(some 15), none, (.mx [(.c (.int .i64 0)), (.t 14)])⟩,
   ⟨(some 16), none, (.mv (.c (.int .i64 0)))⟩])
 (.block 0
 (.loop af32_l1)))
 (.seq
 (.reg [⟨(some 50), none, (.mv (.t 7))⟩,
   ⟨(some 51), none, (.call 51 [(.t 50)])⟩,
   ⟨(some 6), none, (.mv (.t 51))⟩]) .ret)))))⟩
theorem caf32 : cFunc Tryz.prog Tryz.f32 = some af32 := by kernel_rfl
def af33_l0 : AC :=
 (.seq
 (.seq
 (.reg [⟨(some 11), none, (.mv (.t 5))⟩,
   ⟨(some 12), none, (.mv (.t 0))⟩,
   ⟨(some 13), none, (.len (.t 12))⟩,
   ⟨(some 14), none, (.bin .lss .num (.t 11) (.t 13))⟩])
 (.cond (.t 14) .skip (.exit 0)))
 (.seq
 (.block 1
 (.seq
 (.dreg [⟨(some 17), none, (.mv (.t 0))⟩,
   ⟨(some 18), none, (.mv (.t 5))⟩,
   ⟨(some 19), none, (.ixSlice 1 (.t 17) (.t 18))⟩,
   ⟨(some 20), none, (.load1 (.t 19))⟩,
   ⟨(some 21), none, (.mv (.t 1))⟩,
   ⟨(some 22), none, (.mv (.t 5))⟩,
   ⟨(some 23), none, (.ixSlice 1 (.t 21) (.t 22))⟩,
   ⟨(some 24), none, (.load1 (.t 23))⟩,
   ⟨(some 25), none, (.bin .neq .num (.t 20) (.t 24))⟩] [])
 (.cond (.t 25)
 (.seq
 (.reg [⟨(some 4), none, (.mv (.c (.bool false)))⟩]) .ret) .skip)))
 (.reg [⟨(some 15), none, (.mv (.t 5))⟩,
   ⟨(some 16), none, (.bin .add .num (.t 15) (.c (.int .i64 1)))⟩,
   ⟨(some 5), none, (.mv (.t 16))⟩])))
/-- limelight/limelightbook.Same[int] -/
def af33 : AFunc := ⟨26, [(.tmp 4)],
 (.seq
 (.reg [⟨(some 4), none, (.mv (.c (.bool false)))⟩])
 (.seq
 (.seq
 (.reg [⟨(some 6), none, (.mv (.t 0))⟩,
   ⟨(some 7), none, (.len (.t 6))⟩,
   ⟨(some 8), none, (.mv (.t 1))⟩,
   ⟨(some 9), none, (.len (.t 8))⟩,
   ⟨(some 10), none, (.bin .neq .num (.t 7) (.t 9))⟩])
 (.cond (.t 10)
 (.seq
 (.reg [⟨(some 4), none, (.mv (.c (.bool false)))⟩]) .ret) .skip))
 (.seq
 (.seq
 (.reg [⟨(some 5), none, (.mv (.c (.int .i64 0)))⟩])
 (.block 0
 (.loop af33_l0)))
 (.seq
 (.reg [⟨(some 4), none, (.mv (.c (.bool true)))⟩]) .ret))))⟩
theorem caf33 : cFunc Tryz.prog Tryz.f33 = some af33 := by kernel_rfl
/-- (*limelight/sfu.House).Given -/
def af34 : AFunc := ⟨13, [(.tmp 4)],
 (.seq
 (.reg [⟨(some 4), none, (.mv (.c (.slice none 0 0 none)))⟩])
 (.seq
 (.seq
 (.reg [⟨(some 6), none, (.mv (.t 0))⟩,
   ⟨(some 7), none, (.mv (.t 1))⟩,
   ⟨(some 8), none, (.call 21 [(.t 6), (.t 7)])⟩,
   ⟨(some 5), none, (.mv (.t 8))⟩])
 (.seq
 (.reg [⟨(some 9), none, (.mv (.t 5))⟩,
   ⟨(some 10), none, (.bin .neq .ptr (.t 9) (.c (.ptr none)))⟩])
 (.cond (.t 10)
 (.seq
 (.reg [⟨(some 11), none, (.mv (.t 5))⟩,
   ⟨(some 12), none, (.call 65 [(.t 11)])⟩,
   ⟨(some 4), none, (.mv (.t 12))⟩]) .ret) .skip)))
 (.seq
 (.reg [⟨(some 4), none, (.mv (.c (.slice none 0 0 none)))⟩]) .ret)))⟩
theorem caf34 : cFunc Tryz.prog Tryz.f34 = some af34 := by kernel_rfl
def af35_l0 : AC :=
 (.seq
 (.reg [⟨(some 15), none, (.bin .lss .num (.t 14) (.t 13))⟩])
 (.seq
 (.cond (.t 15) .skip (.exit 0))
 (.seq
 (.block 1
 (.seq
 (.reg [⟨(some 16), none, (.ixSlice 3 (.t 12) (.t 14))⟩,
   ⟨(some 17), none, (.loadN 3 (.t 16))⟩,
   ⟨(some 9), none, (.alloc [(.int .i64 0), (.bool false), (.slice none 0 0 none)])⟩,
   ⟨none, none, (.store 3 (.t 9) (.t 17))⟩])
 (.seq
 (.seq
 (.reg [⟨(some 18), none, (.fieldAddr 1 1 (.t 9))⟩,
   ⟨(some 19), none, (.load1 (.t 18))⟩,
   ⟨(some 20), none, (.mv (.t 19))⟩,
   ⟨(some 21), (some (20, false)), (.fieldAddr 0 1 (.t 9))⟩,
   ⟨(some 22), (some (20, false)), (.load1 (.t 21))⟩,
   ⟨(some 23), (some (20, false)), (.mv (.t 1))⟩,
   ⟨(some 24), (some (20, false)), (.bin .neq .num (.t 22) (.t 23))⟩,
   ⟨(some 25), none, (.pick (.t 20) (.c (.bool true)) (.t 24))⟩,
   ⟨(some 26), none, (.mv (.t 25))⟩,
   ⟨(some 27), (some (26, false)), (.fieldAddr 2 1 (.t 9))⟩,
   ⟨(some 28), (some (26, false)), (.load1 (.t 27))⟩,
   ⟨(some 29), (some (26, false)), (.call 22 [(.t 28)])⟩,
   ⟨(some 30), none, (.pick (.t 26) (.c (.bool true)) (.t 29))⟩])
 (.cond (.t 30) (.exit 1) .skip))
 (.seq
 (.reg [⟨(some 32), none, (.fieldAddr 2 1 (.t 9))⟩,
   ⟨(some 33), none, (.load1 (.t 32))⟩,
   ⟨(some 34), none, (.call 41 [(.t 33)])⟩,
   ⟨(some 31), none, (.mv (.t 34))⟩,
   ⟨(some 35), none, (.extract 0 (.t 31))⟩,
   ⟨(some 36), none, (.extract 1 (.t 31))⟩,
   ⟨(some 10), none, (.alloc [(.bool false), (.int .i64 0), (.int .u16 0), (.int .u32 0), (.int .u32 0), (.slice none 0 0 none), (.int .u16 0), (.slice none 0 0 none), (.slice none 0 0 none)])⟩,
   ⟨none, none, (.store 9 (.t 10) (.t 35))⟩,
   ⟨(some 11), none, (.mv (.t 36))⟩])
 (.seq
 (.reg [⟨(some 37), none, (.mv (.t 11))⟩,
   ⟨(some 38), none, (.bin .eql .num (.t 37) (.c (.int .i64 0)))⟩,
   ⟨(some 39), none, (.mv (.t 38))⟩,
   ⟨(some 40), (some (39, true)), (.fieldAddr 4 1 (.t 10))⟩,
   ⟨(some 41), (some (39, true)), (.load1 (.t 40))⟩,
   ⟨(some 42), (some (39, true)), (.mv (.t 2))⟩,
   ⟨(some 43), (some (39, true)), (.bin .eql .num (.t 41) (.t 42))⟩,
   ⟨(some 44), none, (.pick (.t 39) (.t 43) (.c (.bool false)))⟩])
 (.cond (.t 44)
 (.reg [⟨(some 45), none, (.mv (.t 7))⟩,
   ⟨(some 46), none, (.loadN 9 (.t 10))⟩,
   ⟨(some 47), none, (.buildSlice 9 [(.bool false), (.int .i64 0), (.int .u16 0), (.int .u32 0), (.int .u32 0), (.slice none 0 0 none), (.int .u16 0), (.slice none 0 0 none), (.slice none 0 0 none)] 1 [(0, (9, (.t 46)))])⟩,
   ⟨(some 48), none, (.append 9 112 (.t 45) (.t 47))⟩,
   ⟨(some 7), none, (.mv (.t 48))⟩]) .skip))))))
 (.reg [⟨(some 49), none, (.bin .add .num (.t 14) (.c (.int .i64 1)))⟩,
   ⟨(some 14), none, (.mv (.t 49))⟩]))))
/-- limelight/check.Packets -/
def af35 : AFunc := ⟨52, [(.tmp 6)],
 (.seq
 (.reg [⟨(some 6), none, (.mv (.c (.slice none 0 0 none)))⟩])
 (.seq
 (.reg [⟨(some 7), none, (.mv (.c (.slice none 0 0 none)))⟩])
 (.seq
 (.seq
 (.reg [⟨(some 12), none, (.mv (.t 0))⟩,
   ⟨(some 13), none, (.len (.t 12))⟩,
   ⟨(some 14), none, (.mv (.c (.int .i64 0)))⟩])
 (.block 0
 (.loop af35_l0)))
 (.seq
 (.reg [⟨(some 50), none, (.mv (.t 7))⟩,
   ⟨(some 51), none, (.call 66 [(.t 50)])⟩,
   ⟨(some 6), none, (.mv (.t 51))⟩]) .ret))))⟩
theorem caf35 : cFunc Tryz.prog Tryz.f35 = some af35 := by kernel_rfl
def af36_l0 : AC :=
 (.seq
 (.reg [⟨(some 26), none, (.bin .lss .num (.t 25) (.t 24))⟩])
 (.seq
 (.cond (.t 26) .skip (.exit 0))
 (.seq
 (.block 1
 (.seq
 (.reg [⟨(some 27), none, (.mv (.t 25))⟩,
   ⟨(some 7), none, (.mv (.t 27))⟩])
 (.seq
 (.reg [⟨(some 28), none, (.mv (.t 6))⟩,
   ⟨(some 29), none, (.nilCheck (.t 28))⟩,
   ⟨(some 30), none, (.fieldAddr 2 1 (.t 29))⟩,
   ⟨(some 31), none, (.load1 (.t 30))⟩,
   ⟨(some 32), none, (.mv (.t 7))⟩,
   ⟨(some 33), none, (.call 68 [(.t 31), (.t 32)])⟩])
 (.cond (.t 33)
 (.reg [⟨(some 34), none, (.mv (.t 5))⟩,
   ⟨(some 35), none, (.mv (.t 7))⟩,
   ⟨(some 36), none, (.buildSlice 1 [(.int .i64 0)] 1 [(0, (1, (.t 35)))])⟩,
   ⟨(some 37), none, (.append 1 8 (.t 34) (.t 36))⟩,
   ⟨(some 5), none, (.mv (.t 37))⟩]) .skip))))
 (.reg [⟨(some 38), none, (.bin .add .num (.t 25) (.c (.int .i64 1)))⟩,
   ⟨(some 25), none, (.mv (.t 38))⟩]))))
/-- (*limelight/sfu.House).Resting -/
def af36 : AFunc := ⟨41, [(.tmp 4)],
 (.seq
 (.reg [⟨(some 4), none, (.mv (.c (.slice none 0 0 none)))⟩])
 (.seq
 (.reg [⟨(some 5), none, (.mv (.c (.slice none 0 0 none)))⟩])
 (.seq
 (.seq
 (.reg [⟨(some 8), none, (.mv (.t 0))⟩,
   ⟨(some 9), none, (.mv (.t 1))⟩,
   ⟨(some 10), none, (.call 21 [(.t 8), (.t 9)])⟩,
   ⟨(some 6), none, (.mv (.t 10))⟩])
 (.seq
 (.reg [⟨(some 11), none, (.mv (.t 6))⟩,
   ⟨(some 12), none, (.bin .neq .ptr (.t 11) (.c (.ptr none)))⟩,
   ⟨(some 13), none, (.mv (.t 12))⟩,
   ⟨(some 14), (some (13, true)), (.mv (.t 6))⟩,
   ⟨(some 15), (some (13, true)), (.nilCheck (.t 14))⟩,
   ⟨(some 16), (some (13, true)), (.fieldAddr 2 1 (.t 15))⟩,
   ⟨(some 17), (some (13, true)), (.load1 (.t 16))⟩,
   ⟨(some 18), (some (13, true)), (.bin .neq .ptr (.t 17) (.c (.ptr none)))⟩,
   ⟨(some 19), none, (.pick (.t 13) (.t 18) (.c (.bool false)))⟩])
 (.cond (.t 19)
 (.seq
 (.reg [⟨(some 20), none, (.mv (.t 6))⟩,
   ⟨(some 21), none, (.nilCheck (.t 20))⟩,
   ⟨(some 22), none, (.fieldAddr 2 1 (.t 21))⟩,
   ⟨(some 23), none, (.load1 (.t 22))⟩,
   ⟨(some 24), none, (.call 67 [(.t 23)])⟩,
   ⟨(some 25), none, (.mv (.c (.int .i64 0)))⟩])
 (.block 0
 (.loop af36_l0))) .skip)))
 (.seq
 (.reg [⟨(some 39), none, (.mv (.t 5))⟩,
   ⟨(some 40), none, (.call 69 [(.t 39)])⟩,
   ⟨(some 4), none, (.mv (.t 40))⟩]) .ret))))⟩
theorem caf36 : cFunc Tryz.prog Tryz.f36 = some af36 := by kernel_rfl
/-- limelight/room.New -/
def af37 : AFunc := ⟨3, [(.tmp 0)],
 (.seq
 (.reg [⟨(some 0), none, (.mv (.c (.ptr none)))⟩])
 (.seq
 (.reg [⟨(some 1), none, (.build [(.bool false), (.int .i64 0), (.slice none 0 0 none), (.slice none 0 0 none), (.bool false), (.int .i64 0), (.slice none 0 0 none), (.slice none 0 0 none), (.bool false), (.int .i64 0), (.slice none 0 0 none), (.slice none 0 0 none), (.bool false), (.int .i64 0), (.slice none 0 0 none), (.slice none 0 0 none), (.bool false), (.int .i64 0), (.slice none 0 0 none), (.slice none 0 0 none), (.bool false), (.int .i64 0), (.slice none 0 0 none), (.slice none 0 0 none)] [])⟩,
   ⟨(some 2), none, (.box (.t 1))⟩,
   ⟨(some 0), none, (.mv (.t 2))⟩]) .ret))⟩
theorem caf37 : cFunc Tryz.prog Tryz.f37 = some af37 := by kernel_rfl
/-- limelight/calm.asks -/
def af38 : AFunc := ⟨35, [(.tmp 6)],
 (.seq
 (.reg [⟨(some 4), none, (.box (.t 1))⟩,
   ⟨(some 5), none, (.box (.t 2))⟩,
   ⟨(some 6), none, (.mv (.c (.bool false)))⟩])
 (.seq
 (.reg [⟨(some 10), none, (.loadN 8 (.t 5))⟩,
   ⟨(some 11), none, (.call 70 [(.t 10)])⟩,
   ⟨(some 9), none, (.mv (.t 11))⟩,
   ⟨(some 12), none, (.extract 0 (.t 9))⟩,
   ⟨(some 13), none, (.extract 1 (.t 9))⟩,
   ⟨(some 7), none, (.mv (.t 12))⟩,
   ⟨(some 8), none, (.mv (.t 13))⟩])
 (.seq
 (.seq
 (.reg [⟨(some 14), none, (.mv (.t 0))⟩,
   ⟨(some 15), none, (.bin .eql .ptr (.t 14) (.c (.ptr none)))⟩,
   ⟨(some 16), none, (.mv (.t 15))⟩,
   ⟨(some 17), (some (16, false)), (.mv (.t 8))⟩,
   ⟨(some 18), (some (16, false)), (.bin .neq .num (.t 17) (.c (.int .i64 0)))⟩,
   ⟨(some 19), none, (.pick (.t 16) (.c (.bool true)) (.t 18))⟩,
   ⟨(some 20), none, (.mv (.t 19))⟩,
   ⟨(some 21), (some (20, false)), (.load1 (.t 4))⟩,
   ⟨(some 22), (some (20, false)), (.bin .lss .num (.t 21) (.c (.int .i64 0)))⟩,
   ⟨(some 23), none, (.pick (.t 20) (.c (.bool true)) (.t 22))⟩,
   ⟨(some 24), none, (.mv (.t 23))⟩,
   ⟨(some 25), (some (24, false)), (.load1 (.t 4))⟩,
   ⟨(some 26), (some (24, false)), (.bin .geq .num (.t 25) (.c (.int .i64 6)))⟩,
   ⟨(some 27), none, (.pick (.t 24) (.c (.bool true)) (.t 26))⟩])
 (.cond (.t 27)
 (.seq
 (.reg [⟨(some 6), none, (.mv (.c (.bool false)))⟩]) .ret) .skip))
 (.seq
 (.reg [⟨(some 28), none, (.mv (.t 0))⟩,
   ⟨(some 29), none, (.load1 (.t 4))⟩,
   ⟨(some 30), none, (.mv (.t 7))⟩,
   ⟨(some 31), none, (.call 72 [(.t 28), (.t 29), (.t 30)])⟩,
   ⟨(some 32), none, (.mkFunc 73 [(.t 4)])⟩,
   ⟨(some 33), none, (.call 71 [(.t 31), (.t 32)])⟩,
   ⟨(some 34), none, (.un .not (.t 33))⟩,
   ⟨(some 6), none, (.mv (.t 34))⟩]) .ret))))⟩
theorem caf38 : cFunc Tryz.prog Tryz.f38 = some af38 := by kernel_rfl
/-- limelight/rate.may -/
def af39 : AFunc := ⟨9, [(.tmp 2)],
 (.seq
 (.reg [⟨(some 2), none, (.mv (.c (.bool false)))⟩])
 (.seq
 (.reg [⟨(some 3), none, (.mv (.t 0))⟩,
   ⟨(some 4), none, (.bin .geq .num (.t 3) (.c (.int .i64 1)))⟩,
   ⟨(some 5), none, (.mv (.t 4))⟩,
   ⟨(some 6), (some (5, true)), (.mv (.t 0))⟩,
   ⟨(some 7), (some (5, true)), (.bin .leq .num (.t 6) (.c (.int .i64 24)))⟩,
   ⟨(some 8), none, (.pick (.t 5) (.t 7) (.c (.bool false)))⟩,
   ⟨(some 2), none, (.mv (.t 8))⟩]) .ret))⟩
theorem caf39 : cFunc Tryz.prog Tryz.f39 = some af39 := by kernel_rfl
def af40_l0 : AC :=
 (.seq
 (.reg [⟨(some 69), none, (.bin .lss .num (.t 68) (.t 67))⟩])
 (.seq
 (.cond (.t 69) .skip (.exit 3))
 (.seq
 (.block 4
 (.seq
 (.reg [⟨(some 70), none, (.ixSlice 1 (.t 66) (.t 68))⟩,
   ⟨(some 71), none, (.load1 (.t 70))⟩,
   ⟨(some 10), none, (.mv (.t 71))⟩])
 (.seq
 (.dreg [⟨(some 72), none, (.mv (.t 10))⟩,
   ⟨(some 73), none, (.nilCheck (.t 72))⟩,
   ⟨(some 74), none, (.fieldAddr 5 1 (.t 73))⟩,
   ⟨(some 75), none, (.load1 (.t 74))⟩,
   ⟨(some 76), none, (.bin .geq .num (.t 75) (.c (.int .i64 0)))⟩,
   ⟨(some 77), none, (.mv (.t 76))⟩,
   ⟨(some 78), (some (77, true)), (.fieldAddr 0 1 (.t 5))⟩,
   ⟨(some 79), (some (77, true)), (.load1 (.t 78))⟩,
   ⟨(some 80), (some (77, true)), (.bin .eql .num (.t 79) (.c (.int .i64 3)))⟩,
   ⟨(some 81), (some (77, true)), (.mv (.t 80))⟩,
   ⟨(some 82), (some (81, true)), (.mv (.t 10))⟩,
   ⟨(some 83), (some (81, true)), (.nilCheck (.t 82))⟩,
   ⟨(some 84), (some (81, true)), (.fieldAddr 1 1 (.t 83))⟩,
   ⟨(some 85), (some (81, true)), (.load1 (.t 84))⟩,
   ⟨(some 86), (some (81, true)), (.fieldAddr 2 1 (.t 5))⟩,
   ⟨(some 87), (some (81, true)), (.load1 (.t 86))⟩,
   ⟨(some 88), (some (81, true)), (.bin .eql .num (.t 85) (.t 87))⟩,
   ⟨(some 89), (some (77, true)), (.pick (.t 81) (.t 88) (.c (.bool false)))⟩,
   ⟨(some 90), (some (77, true)), (.mv (.t 89))⟩,
   ⟨(some 91), (some (90, false)), (.fieldAddr 4 1 (.t 5))⟩,
   ⟨(some 92), (some (90, false)), (.load1 (.t 91))⟩,
   ⟨(some 93), (some (90, false)), (.mv (.t 10))⟩,
   ⟨(some 94), (some (90, false)), (.nilCheck (.t 93))⟩,
   ⟨(some 95), (some (90, false)), (.fieldAddr 1 1 (.t 94))⟩,
   ⟨(some 96), (some (90, false)), (.load1 (.t 95))⟩,
   ⟨(some 97), (some (90, false)), (.call 79 [(.t 92), (.t 96)])⟩,
   ⟨(some 98), (some (77, true)), (.pick (.t 90) (.c (.bool true)) (.t 97))⟩,
   ⟨(some 99), none, (.pick (.t 77) (.t 98) (.c (.bool false)))⟩] [])
 (.cond (.t 99)
 (.dreg [⟨(some 100), none, (.mv (.t 0))⟩,
   ⟨(some 101), none, (.mv (.t 10))⟩,
   ⟨(some 102), none, (.nilCheck (.t 101))⟩,
   ⟨(some 103), none, (.fieldAddr 0 1 (.t 102))⟩,
   ⟨(some 104), none, (.load1 (.t 103))⟩,
   ⟨(some 105), none, (.mv (.t 10))⟩,
   ⟨(some 106), none, (.nilCheck (.t 105))⟩,
   ⟨(some 107), none, (.fieldAddr 5 1 (.t 106))⟩,
   ⟨(some 108), none, (.load1 (.t 107))⟩,
   ⟨(some 109), none, (.call 80 [(.t 100), (.t 104), (.t 108)])⟩] []) .skip))))
 (.reg [⟨(some 110), none, (.bin .add .num (.t 68) (.c (.int .i64 1)))⟩,
   ⟨(some 68), none, (.mv (.t 110))⟩]))))
def af40_l1 : AC :=
 (.seq
 (.reg [⟨(some 34), none, (.bin .lss .num (.t 33) (.t 32))⟩])
 (.seq
 (.cond (.t 34) .skip (.exit 1))
 (.seq
 (.block 2
 (.seq
 (.reg [⟨(some 35), none, (.ixSlice 3 (.t 31) (.t 33))⟩,
   ⟨(some 36), none, (.loadN 3 (.t 35))⟩,
   ⟨(some 8), none, (.alloc [(.int .u32 0), (.int .u64 0), (.int .i64 0)])⟩,
   ⟨none, none, (.store 3 (.t 8) (.t 36))⟩])
 (.seq
 (.reg [⟨(some 37), none, (.fieldAddr 1 1 (.t 5))⟩,
   ⟨(some 38), none, (.load1 (.t 37))⟩,
   ⟨(some 39), none, (.fieldAddr 0 1 (.t 8))⟩,
   ⟨none, none, (.store 1 (.t 39) (.t 38))⟩])
 (.dreg [⟨(some 40), none, (.mv (.t 6))⟩,
   ⟨(some 41), none, (.nilCheck (.t 40))⟩,
   ⟨(some 42), none, (.fieldAddr 0 1 (.t 41))⟩,
   ⟨(some 43), none, (.load1 (.t 42))⟩,
   ⟨(some 44), none, (.loadN 3 (.t 8))⟩,
   ⟨(some 45), none, (.mv (.t 0))⟩,
   ⟨(some 46), none, (.nilCheck (.t 45))⟩,
   ⟨(some 47), none, (.fieldAddr 7 1 (.t 46))⟩,
   ⟨(some 48), none, (.load1 (.t 47))⟩,
   ⟨(some 49), none, (.call 76 [(.t 43), (.t 44), (.t 48)])⟩] []))))
 (.reg [⟨(some 50), none, (.bin .add .num (.t 33) (.c (.int .i64 1)))⟩,
   ⟨(some 33), none, (.mv (.t 50))⟩]))))
/-- (*limelight/sfu.House).one -/
def af40 : AFunc := ⟨111, [],
 (.seq
 (.reg [⟨(some 5), none, (.box (.t 2))⟩])
 (.seq
 (.reg [⟨(some 11), none, (.mv (.t 0))⟩,
   ⟨(some 12), none, (.mv (.t 1))⟩,
   ⟨(some 13), none, (.nilCheck (.t 11))⟩,
   ⟨(some 14), none, (.fieldAddr 1 6 (.t 13))⟩,
   ⟨(some 15), none, (.ixArr 6 1 (.t 14) (.t 12))⟩,
   ⟨(some 16), none, (.load1 (.t 15))⟩,
   ⟨(some 6), none, (.mv (.t 16))⟩])
 (.seq
 (.reg [⟨(some 17), none, (.fieldAddr 0 1 (.t 5))⟩,
   ⟨(some 18), none, (.load1 (.t 17))⟩])
 (.block 0
 (.seq
 (.reg [⟨(some 20), none, (.bin .eql .num (.t 18) (.c (.int .i64 5)))⟩,
   ⟨(some 19), none, (.mv (.t 20))⟩])
 (.cond (.t 19)
 (.dreg [⟨(some 21), none, (.mv (.t 6))⟩,
   ⟨(some 22), none, (.nilCheck (.t 21))⟩,
   ⟨(some 23), none, (.fieldAddr 0 1 (.t 22))⟩,
   ⟨(some 24), none, (.load1 (.t 23))⟩,
   ⟨(some 25), none, (.fieldAddr 6 1 (.t 5))⟩,
   ⟨(some 26), none, (.load1 (.t 25))⟩,
   ⟨(some 27), none, (.call 75 [(.t 24), (.t 26)])⟩] [])
 (.seq
 (.reg [⟨(some 29), none, (.bin .eql .num (.t 18) (.c (.int .i64 1)))⟩,
   ⟨(some 28), none, (.mv (.t 29))⟩])
 (.cond (.t 28)
 (.seq
 (.seq
 (.reg [⟨(some 30), none, (.fieldAddr 3 1 (.t 5))⟩,
   ⟨(some 31), none, (.load1 (.t 30))⟩,
   ⟨(some 32), none, (.len (.t 31))⟩,
   ⟨(some 33), none, (.mv (.c (.int .i64 0)))⟩])
 (.block 1
 (.loop af40_l1)))
 (.reg [⟨(some 51), none, (.mv (.t 0))⟩,
   ⟨(some 52), none, (.mv (.t 1))⟩,
   ⟨(some 53), none, (.mv (.t 6))⟩,
   ⟨(some 54), none, (.nilCheck (.t 53))⟩,
   ⟨(some 55), none, (.fieldAddr 0 1 (.t 54))⟩,
   ⟨(some 56), none, (.load1 (.t 55))⟩,
   ⟨(some 57), none, (.call 78 [(.t 56)])⟩,
   ⟨(some 58), none, (.build [(.int .i64 0), (.int .u32 0), (.int .u32 0), (.slice none 0 0 none), (.slice none 0 0 none), (.slice none 0 0 none), (.int .u64 0), (.int .i64 0), (.int .i64 0), (.slice none 0 0 none)] [(0, (1, (.c (.int .i64 2)))), (1, (1, (.c (.int .u32 1)))), (3, (1, (.t 57)))])⟩,
   ⟨(some 59), none, (.call 77 [(.t 51), (.t 52), (.t 58)])⟩]))
 (.seq
 (.seq
 (.reg [⟨(some 61), none, (.bin .eql .num (.t 18) (.c (.int .i64 3)))⟩,
   ⟨(some 60), none, (.mv (.t 61))⟩])
 (.cond (.t 60) .skip
 (.reg [⟨(some 62), none, (.bin .eql .num (.t 18) (.c (.int .i64 4)))⟩,
   ⟨(some 60), none, (.mv (.t 62))⟩])))
 (.cond (.t 60)
 (.seq
 (.reg [⟨(some 63), none, (.mv (.t 6))⟩,
   ⟨(some 64), none, (.nilCheck (.t 63))⟩,
   ⟨(some 65), none, (.fieldAddr 4 1 (.t 64))⟩,
   ⟨(some 66), none, (.load1 (.t 65))⟩,
   ⟨(some 67), none, (.len (.t 66))⟩,
   ⟨(some 68), none, (.mv (.c (.int .i64 0)))⟩])
 (.block 3
 (.loop af40_l0))) .skip))))))))))⟩
theorem caf40 : cFunc Tryz.prog Tryz.f40 = some af40 := by kernel_rfl
def af41_l0 : AC :=
 (.seq
 (.reg [⟨(some 52), none, (.bin .lss .num (.t 51) (.t 50))⟩])
 (.seq
 (.cond (.t 52) .skip (.exit 1))
 (.seq
 (.block 2
 (.dreg [⟨(some 53), none, (.fieldAddr 5 1 (.t 7))⟩,
   ⟨(some 54), none, (.load1 (.t 53))⟩,
   ⟨(some 55), none, (.mv (.t 4))⟩,
   ⟨(some 56), none, (.call 81 [(.t 55), (.c (.int .i64 4))])⟩,
   ⟨(some 57), none, (.conv (.int .u32) (.t 56))⟩,
   ⟨(some 58), none, (.buildSlice 1 [(.int .u32 0)] 1 [(0, (1, (.t 57)))])⟩,
   ⟨(some 59), none, (.append 1 4 (.t 54) (.t 58))⟩,
   ⟨(some 60), none, (.fieldAddr 5 1 (.t 7))⟩,
   ⟨none, none, (.store 1 (.t 60) (.t 59))⟩] [(1, 4), (1, 6)]))
 (.reg [⟨(some 61), none, (.bin .add .num (.t 51) (.c (.int .u64 1)))⟩,
   ⟨(some 51), none, (.mv (.t 61))⟩]))))
/-- limelight/rtp.Read -/
def af41 : AFunc := ⟨127, [(.cellN 2 9), (.tmp 3)],
 (.seq
 (.reg [⟨(some 2), none, (.alloc [(.bool false), (.int .i64 0), (.int .u16 0), (.int .u32 0), (.int .u32 0), (.slice none 0 0 none), (.int .u16 0), (.slice none 0 0 none), (.slice none 0 0 none)])⟩,
   ⟨(some 3), none, (.mv (.c (.int .i64 0)))⟩])
 (.seq
 (.block 0
 (.seq
 (.reg [⟨(some 11), none, (.mv (.t 0))⟩,
   ⟨(some 12), none, (.len (.t 11))⟩,
   ⟨(some 13), none, (.bin .gtr .num (.t 12) (.c (.int .i64 1500)))⟩,
   ⟨(some 10), none, (.mv (.t 13))⟩])
 (.cond (.t 10)
 (.seq
 (.reg [⟨(some 14), none, (.build [(.bool false), (.int .i64 0), (.int .u16 0), (.int .u32 0), (.int .u32 0), (.slice none 0 0 none), (.int .u16 0), (.slice none 0 0 none), (.slice none 0 0 none)] [])⟩,
   ⟨none, none, (.store 9 (.t 2) (.t 14))⟩,
   ⟨(some 3), none, (.mv (.c (.int .i64 3)))⟩]) .ret)
 (.seq
 (.reg [⟨(some 16), none, (.mv (.t 0))⟩,
   ⟨(some 17), none, (.len (.t 16))⟩,
   ⟨(some 18), none, (.bin .eql .num (.t 17) (.c (.int .i64 0)))⟩,
   ⟨(some 15), none, (.mv (.t 18))⟩])
 (.cond (.t 15)
 (.seq
 (.reg [⟨(some 19), none, (.build [(.bool false), (.int .i64 0), (.int .u16 0), (.int .u32 0), (.int .u32 0), (.slice none 0 0 none), (.int .u16 0), (.slice none 0 0 none), (.slice none 0 0 none)] [])⟩,
   ⟨none, none, (.store 9 (.t 2) (.t 19))⟩,
   ⟨(some 3), none, (.mv (.c (.int .i64 13)))⟩]) .ret)
 (.seq
 (.reg [⟨(some 21), none, (.mv (.t 0))⟩,
   ⟨(some 22), none, (.ixSlice 1 (.t 21) (.c (.int .i64 0)))⟩,
   ⟨(some 23), none, (.load1 (.t 22))⟩,
   ⟨(some 24), none, (.bin .and .num (.t 23) (.c (.int .u8 192)))⟩,
   ⟨(some 25), none, (.bin .neq .num (.t 24) (.c (.int .u8 128)))⟩,
   ⟨(some 20), none, (.mv (.t 25))⟩])
 (.cond (.t 20)
 (.seq
 (.reg [⟨(some 26), none, (.build [(.bool false), (.int .i64 0), (.int .u16 0), (.int .u32 0), (.int .u32 0), (.slice none 0 0 none), (.int .u16 0), (.slice none 0 0 none), (.slice none 0 0 none)] [])⟩,
   ⟨none, none, (.store 9 (.t 2) (.t 26))⟩,
   ⟨(some 3), none, (.mv (.c (.int .i64 12)))⟩]) .ret) .skip)))))))
 (.seq
 (.reg [⟨(some 27), none, (.mv (.t 0))⟩,
   ⟨(some 28), none, (.build [(.slice none 0 0 none), (.int .i64 0), (.bool false)] [(0, (1, (.t 27)))])⟩,
   ⟨(some 29), none, (.box (.t 28))⟩,
   ⟨(some 4), none, (.mv (.t 29))⟩])
 (.seq
 (.reg [⟨(some 30), none, (.mv (.t 4))⟩,
   ⟨(some 31), none, (.call 81 [(.t 30), (.c (.int .i64 1))])⟩,
   ⟨(some 32), none, (.mv (.t 4))⟩,
   ⟨(some 33), none, (.call 81 [(.t 32), (.c (.int .i64 1))])⟩,
   ⟨(some 5), none, (.mv (.t 31))⟩,
   ⟨(some 6), none, (.mv (.t 33))⟩])
 (.seq
 (.reg [⟨(some 34), none, (.mv (.t 6))⟩,
   ⟨(some 35), none, (.bin .geq .num (.t 34) (.c (.int .u64 128)))⟩,
   ⟨(some 36), none, (.mv (.t 6))⟩,
   ⟨(some 37), none, (.bin .rem .num (.t 36) (.c (.int .u64 128)))⟩,
   ⟨(some 38), none, (.conv (.int .i64) (.t 37))⟩,
   ⟨(some 39), none, (.mv (.t 4))⟩,
   ⟨(some 40), none, (.call 81 [(.t 39), (.c (.int .i64 2))])⟩,
   ⟨(some 41), none, (.conv (.int .u16) (.t 40))⟩,
   ⟨(some 42), none, (.mv (.t 4))⟩,
   ⟨(some 43), none, (.call 81 [(.t 42), (.c (.int .i64 4))])⟩,
   ⟨(some 44), none, (.conv (.int .u32) (.t 43))⟩,
   ⟨(some 45), none, (.mv (.t 4))⟩,
   ⟨(some 46), none, (.call 81 [(.t 45), (.c (.int .i64 4))])⟩,
   ⟨(some 47), none, (.conv (.int .u32) (.t 46))⟩,
   ⟨(some 48), none, (.build [(.bool false), (.int .i64 0), (.int .u16 0), (.int .u32 0), (.int .u32 0), (.slice none 0 0 none), (.int .u16 0), (.slice none 0 0 none), (.slice none 0 0 none)] [(0, (1, (.t 35))), (1, (1, (.t 38))), (2, (1, (.t 41))), (3, (1, (.t 44))), (4, (1, (.t 47)))])⟩,
   ⟨(some 7), none, (.alloc [(.bool false), (.int .i64 0), (.int .u16 0), (.int .u32 0), (.int .u32 0), (.slice none 0 0 none), (.int .u16 0), (.slice none 0 0 none), (.slice none 0 0 none)])⟩,
   ⟨none, none, (.store 9 (.t 7) (.t 48))⟩])
 (.seq
 (.seq
 (.reg [⟨(some 49), none, (.mv (.t 5))⟩,
   ⟨(some 50), none, (.bin .and .num (.t 49) (.c (.int .u64 15)))⟩,
   ⟨(some 51), none, (.mv (.c (.int .u64 0)))⟩])
 (.block 1
 (.loop af41_l0)))
 (.seq
 (.seq
 (.reg [⟨(some 62), none, (.mv (.t 5))⟩,
   ⟨(some 63), none, (.bin .and .num (.t 62) (.c (.int .u64 16)))⟩,
   ⟨(some 64), none, (.bin .neq .num (.t 63) (.c (.int .u64 0)))⟩])
 (.cond (.t 64)
 (.seq
 (.reg [⟨(some 65), none, (.mv (.t 4))⟩,
   ⟨(some 66), none, (.call 81 [(.t 65), (.c (.int .i64 2))])⟩,
   ⟨(some 67), none, (.conv (.int .u16) (.t 66))⟩,
   ⟨(some 68), none, (.fieldAddr 6 1 (.t 7))⟩,
   ⟨none, none, (.store 1 (.t 68) (.t 67))⟩])
 (.reg [⟨(some 69), none, (.mv (.t 4))⟩,
   ⟨(some 70), none, (.mv (.t 4))⟩,
   ⟨(some 71), none, (.call 81 [(.t 70), (.c (.int .i64 2))])⟩,
   ⟨(some 72), none, (.conv (.int .i64) (.t 71))⟩,
   ⟨(some 73), none, (.bin .mul .num (.c (.int .i64 4)) (.t 72))⟩,
   ⟨(some 74), none, (.call 82 [(.t 69), (.t 73)])⟩,
   ⟨(some 75), none, (.fieldAddr 7 1 (.t 7))⟩,
   ⟨none, none, (.store 1 (.t 75) (.t 74))⟩])) .skip))
 (.seq
 (.seq
 (.reg [⟨(some 76), none, (.mv (.t 4))⟩,
   ⟨(some 77), none, (.nilCheck (.t 76))⟩,
   ⟨(some 78), none, (.fieldAddr 2 1 (.t 77))⟩,
   ⟨(some 79), none, (.load1 (.t 78))⟩])
 (.cond (.t 79)
 (.seq
 (.reg [⟨(some 80), none, (.build [(.bool false), (.int .i64 0), (.int .u16 0), (.int .u32 0), (.int .u32 0), (.slice none 0 0 none), (.int .u16 0), (.slice none 0 0 none), (.slice none 0 0 none)] [])⟩,
   ⟨none, none, (.store 9 (.t 2) (.t 80))⟩,
   ⟨(some 3), none, (.mv (.c (.int .i64 13)))⟩]) .ret) .skip))
 (.seq
 (.reg [⟨(some 81), none, (.mv (.t 0))⟩,
   ⟨(some 82), none, (.len (.t 81))⟩,
   ⟨(some 8), none, (.mv (.t 82))⟩])
 (.seq
 (.seq
 (.reg [⟨(some 83), none, (.mv (.t 5))⟩,
   ⟨(some 84), none, (.bin .and .num (.t 83) (.c (.int .u64 32)))⟩,
   ⟨(some 85), none, (.bin .neq .num (.t 84) (.c (.int .u64 0)))⟩])
 (.cond (.t 85)
 (.seq
 (.reg [⟨(some 86), none, (.mv (.t 0))⟩,
   ⟨(some 87), none, (.mv (.t 8))⟩,
   ⟨(some 88), none, (.bin .sub .num (.t 87) (.c (.int .i64 1)))⟩,
   ⟨(some 89), none, (.ixSlice 1 (.t 86) (.t 88))⟩,
   ⟨(some 90), none, (.load1 (.t 89))⟩,
   ⟨(some 91), none, (.conv (.int .i64) (.t 90))⟩,
   ⟨(some 9), none, (.mv (.t 91))⟩])
 (.seq
 (.seq
 (.reg [⟨(some 92), none, (.mv (.t 9))⟩,
   ⟨(some 93), none, (.bin .eql .num (.t 92) (.c (.int .i64 0)))⟩,
   ⟨(some 94), none, (.mv (.t 93))⟩,
   ⟨(some 95), (some (94, false)), (.mv (.t 9))⟩,
   ⟨(some 96), (some (94, false)), (.mv (.t 8))⟩,
   ⟨(some 97), (some (94, false)), (.mv (.t 4))⟩,
   ⟨(some 98), (some (94, false)), (.nilCheck (.t 97))⟩,
   ⟨(some 99), (some (94, false)), (.fieldAddr 1 1 (.t 98))⟩,
   ⟨(some 100), (some (94, false)), (.load1 (.t 99))⟩,
   ⟨(some 101), (some (94, false)), (.bin .sub .num (.t 96) (.t 100))⟩,
   ⟨(some 102), (some (94, false)), (.bin .gtr .num (.t 95) (.t 101))⟩,
   ⟨(some 103), none, (.pick (.t 94) (.c (.bool true)) (.t 102))⟩])
 (.cond (.t 103)
 (.seq
 (.reg [⟨(some 104), none, (.build [(.bool false), (.int .i64 0), (.int .u16 0), (.int .u32 0), (.int .u32 0), (.slice none 0 0 none), (.int .u16 0), (.slice none 0 0 none), (.slice none 0 0 none)] [])⟩,
   ⟨none, none, (.store 9 (.t 2) (.t 104))⟩,
   ⟨(some 3), none, (.mv (.c (.int .i64 13)))⟩]) .ret) .skip))
 (.reg [⟨(some 105), none, (.mv (.t 8))⟩,
   ⟨(some 106), none, (.mv (.t 9))⟩,
   ⟨(some 107), none, (.bin .sub .num (.t 105) (.t 106))⟩,
   ⟨(some 8), none, (.mv (.t 107))⟩]))) .skip))
 (.seq
 (.seq
 (.reg [⟨(some 108), none, (.mv (.t 5))⟩,
   ⟨(some 109), none, (.bin .and .num (.t 108) (.c (.int .u64 16)))⟩,
   ⟨(some 110), none, (.bin .neq .num (.t 109) (.c (.int .u64 0)))⟩,
   ⟨(some 111), none, (.mv (.t 110))⟩,
   ⟨(some 112), (some (111, true)), (.fieldAddr 6 1 (.t 7))⟩,
   ⟨(some 113), (some (111, true)), (.load1 (.t 112))⟩,
   ⟨(some 114), (some (111, true)), (.bin .eql .num (.t 113) (.c (.int .u16 0)))⟩,
   ⟨(some 115), none, (.pick (.t 111) (.t 114) (.c (.bool false)))⟩])
 (.cond (.t 115)
 (.seq
 (.reg [⟨(some 116), none, (.build [(.bool false), (.int .i64 0), (.int .u16 0), (.int .u32 0), (.int .u32 0), (.slice none 0 0 none), (.int .u16 0), (.slice none 0 0 none), (.slice none 0 0 none)] [])⟩,
   ⟨none, none, (.store 9 (.t 2) (.t 116))⟩,
   ⟨(some 3), none, (.mv (.c (.int .i64 12)))⟩]) .ret) .skip))
 (.seq
 (.reg [⟨(some 117), none, (.mv (.t 4))⟩,
   ⟨(some 118), none, (.mv (.t 8))⟩,
   ⟨(some 119), none, (.mv (.t 4))⟩,
   ⟨(some 120), none, (.nilCheck (.t 119))⟩,
   ⟨(some 121), none, (.fieldAddr 1 1 (.t 120))⟩,
   ⟨(some 122), none, (.load1 (.t 121))⟩,
   ⟨(some 123), none, (.bin .sub .num (.t 118) (.t 122))⟩,
   ⟨(some 124), none, (.call 82 [(.t 117), (.t 123)])⟩,
   ⟨(some 125), none, (.fieldAddr 8 1 (.t 7))⟩,
   ⟨none, none, (.store 1 (.t 125) (.t 124))⟩])
 (.seq
 (.reg [⟨(some 126), none, (.loadN 9 (.t 7))⟩,
   ⟨none, none, (.store 9 (.t 2) (.t 126))⟩,
   ⟨(some 3), none, (.mv (.c (.int .i64 0)))⟩]) .ret)))))))))))))⟩
theorem caf41 : cFunc Tryz.prog Tryz.f41 = some af41 := by kernel_rfl
/-- (*limelight/layer.Layers).Find -/
def af42 : AFunc := ⟨18, [(.tmp 4)],
 (.seq
 (.reg [⟨(some 3), none, (.box (.t 1))⟩,
   ⟨(some 4), none, (.mv (.c (.int .i64 0)))⟩])
 (.seq
 (.reg [⟨(some 8), none, (.loadN 9 (.t 3))⟩,
   ⟨(some 9), none, (.call 83 [(.t 8)])⟩,
   ⟨(some 7), none, (.mv (.t 9))⟩,
   ⟨(some 10), none, (.extract 0 (.t 7))⟩,
   ⟨(some 11), none, (.extract 1 (.t 7))⟩,
   ⟨(some 5), none, (.alloc [(.str [])])⟩,
   ⟨(some 6), none, (.alloc [(.bool false)])⟩,
   ⟨none, none, (.store 1 (.t 5) (.t 10))⟩,
   ⟨none, none, (.store 1 (.t 6) (.t 11))⟩])
 (.seq
 (.reg [⟨(some 12), none, (.mv (.t 0))⟩,
   ⟨(some 13), none, (.nilCheck (.t 12))⟩,
   ⟨(some 14), none, (.fieldAddr 0 1 (.t 13))⟩,
   ⟨(some 15), none, (.load1 (.t 14))⟩,
   ⟨(some 16), none, (.mkFunc 85 [(.t 6), (.t 3), (.t 5)])⟩,
   ⟨(some 17), none, (.call 84 [(.t 15), (.t 16)])⟩,
   ⟨(some 4), none, (.mv (.t 17))⟩]) .ret)))⟩
theorem caf42 : cFunc Tryz.prog Tryz.f42 = some af42 := by kernel_rfl
/-- (*limelight/layer.Layers).Packet -/
def af43 : AFunc := ⟨57, [(.tmp 10), (.tmp 11)],
 (.seq
 (.reg [⟨(some 7), none, (.box (.t 2))⟩,
   ⟨(some 10), none, (.mv (.c (.int .i64 0)))⟩,
   ⟨(some 11), none, (.mv (.c (.bool false)))⟩])
 (.seq
 (.seq
 (.reg [⟨(some 15), none, (.mv (.t 0))⟩,
   ⟨(some 16), none, (.mv (.t 1))⟩,
   ⟨(some 17), none, (.call 87 [(.t 15), (.t 16)])⟩,
   ⟨(some 18), none, (.un .not (.t 17))⟩])
 (.cond (.t 18)
 (.seq
 (.reg [⟨(some 10), none, (.mv (.c (.int .i64 0)))⟩,
   ⟨(some 11), none, (.mv (.c (.bool false)))⟩]) .ret) .skip))
 (.seq
 (.reg [⟨(some 19), none, (.mv (.t 0))⟩,
   ⟨(some 20), none, (.nilCheck (.t 19))⟩,
   ⟨(some 21), none, (.fieldAddr 0 1 (.t 20))⟩,
   ⟨(some 22), none, (.load1 (.t 21))⟩,
   ⟨(some 23), none, (.mv (.t 1))⟩,
   ⟨(some 24), none, (.ixSlice 10 (.t 22) (.t 23))⟩,
   ⟨(some 12), none, (.mv (.t 24))⟩])
 (.seq
 (.dreg [⟨(some 26), none, (.mv (.t 12))⟩,
   ⟨(some 27), none, (.nilCheck (.t 26))⟩,
   ⟨(some 28), none, (.fieldAddr 3 1 (.t 27))⟩,
   ⟨(some 29), none, (.load1 (.t 28))⟩,
   ⟨(some 30), none, (.fieldAddr 2 1 (.t 7))⟩,
   ⟨(some 31), none, (.load1 (.t 30))⟩,
   ⟨(some 32), none, (.call 88 [(.t 29), (.t 31)])⟩,
   ⟨(some 25), none, (.mv (.t 32))⟩,
   ⟨(some 33), none, (.extract 0 (.t 25))⟩,
   ⟨(some 34), none, (.extract 1 (.t 25))⟩,
   ⟨(some 13), none, (.mv (.t 33))⟩,
   ⟨(some 14), none, (.mv (.t 34))⟩] [])
 (.seq
 (.seq
 (.reg [⟨(some 35), none, (.mv (.t 14))⟩,
   ⟨(some 36), none, (.un .not (.t 35))⟩])
 (.cond (.t 36)
 (.seq
 (.reg [⟨(some 10), none, (.mv (.c (.int .i64 0)))⟩,
   ⟨(some 11), none, (.mv (.c (.bool false)))⟩]) .ret) .skip))
 (.seq
 (.reg [⟨(some 37), none, (.mv (.t 12))⟩,
   ⟨(some 38), none, (.nilCheck (.t 37))⟩,
   ⟨(some 39), none, (.fieldAddr 4 1 (.t 38))⟩,
   ⟨(some 40), none, (.load1 (.t 39))⟩,
   ⟨(some 41), none, (.mv (.t 3))⟩,
   ⟨(some 42), none, (.bin .add .num (.t 41) (.c (.int .i64 28)))⟩,
   ⟨(some 43), none, (.mv (.t 4))⟩,
   ⟨(some 44), none, (.call 89 [(.t 40), (.t 42), (.t 43)])⟩])
 (.seq
 (.reg [⟨(some 45), none, (.mv (.t 12))⟩,
   ⟨(some 46), none, (.mv (.t 12))⟩,
   ⟨(some 47), none, (.mv (.t 12))⟩,
   ⟨(some 48), none, (.mv (.t 4))⟩,
   ⟨(some 49), none, (.call 90 [(.t 48)])⟩,
   ⟨(some 50), none, (.nilCheck (.t 45))⟩,
   ⟨(some 51), none, (.fieldAddr 5 1 (.t 50))⟩,
   ⟨none, none, (.store 1 (.t 51) (.c (.bool true)))⟩,
   ⟨(some 52), none, (.nilCheck (.t 46))⟩,
   ⟨(some 53), none, (.fieldAddr 6 1 (.t 52))⟩,
   ⟨none, none, (.store 1 (.t 53) (.t 49))⟩,
   ⟨(some 54), none, (.nilCheck (.t 47))⟩,
   ⟨(some 55), none, (.fieldAddr 8 1 (.t 54))⟩,
   ⟨none, none, (.store 1 (.t 55) (.c (.bool false)))⟩])
 (.seq
 (.reg [⟨(some 56), none, (.mv (.t 13))⟩,
   ⟨(some 10), none, (.mv (.t 56))⟩,
   ⟨(some 11), none, (.mv (.c (.bool true)))⟩]) .ret))))))))⟩
theorem caf43 : cFunc Tryz.prog Tryz.f43 = some af43 := by kernel_rfl
def af44_l0 : AC :=
 (.seq
 (.reg [⟨(some 29), none, (.bin .lss .num (.t 28) (.t 27))⟩])
 (.seq
 (.cond (.t 29) .skip (.exit 0))
 (.seq
 (.block 1
 (.seq
 (.reg [⟨(some 30), none, (.ixSlice 1 (.t 26) (.t 28))⟩,
   ⟨(some 31), none, (.load1 (.t 30))⟩,
   ⟨(some 13), none, (.mv (.t 31))⟩])
 (.seq
 (.seq
 (.reg [⟨(some 32), none, (.mv (.t 13))⟩,
   ⟨(some 33), none, (.nilCheck (.t 32))⟩,
   ⟨(some 34), none, (.fieldAddr 0 1 (.t 33))⟩,
   ⟨(some 35), none, (.load1 (.t 34))⟩,
   ⟨(some 36), none, (.mv (.t 2))⟩,
   ⟨(some 37), none, (.bin .neq .num (.t 35) (.t 36))⟩])
 (.cond (.t 37) (.exit 1) .skip))
 (.seq
 (.dreg [⟨(some 39), none, (.mv (.t 13))⟩,
   ⟨(some 40), none, (.nilCheck (.t 39))⟩,
   ⟨(some 41), none, (.fieldAddr 2 1 (.t 40))⟩,
   ⟨(some 42), none, (.load1 (.t 41))⟩,
   ⟨(some 43), none, (.mv (.t 3))⟩,
   ⟨(some 44), none, (.mv (.t 4))⟩,
   ⟨(some 45), none, (.mv (.t 0))⟩,
   ⟨(some 46), none, (.mv (.t 2))⟩,
   ⟨(some 47), none, (.nilCheck (.t 45))⟩,
   ⟨(some 48), none, (.fieldAddr 1 6 (.t 47))⟩,
   ⟨(some 49), none, (.ixArr 6 1 (.t 48) (.t 46))⟩,
   ⟨(some 50), none, (.load1 (.t 49))⟩,
   ⟨(some 51), none, (.nilCheck (.t 50))⟩,
   ⟨(some 52), none, (.fieldAddr 2 1 (.t 51))⟩,
   ⟨(some 53), none, (.load1 (.t 52))⟩,
   ⟨(some 54), none, (.loadN 9 (.t 11))⟩,
   ⟨(some 55), none, (.call 92 [(.t 53), (.t 54)])⟩,
   ⟨(some 56), none, (.loadN 9 (.t 11))⟩,
   ⟨(some 57), none, (.call 91 [(.t 42), (.t 43), (.t 44), (.t 55), (.t 56)])⟩,
   ⟨(some 38), none, (.mv (.t 57))⟩,
   ⟨(some 58), none, (.extract 0 (.t 38))⟩,
   ⟨(some 59), none, (.extract 1 (.t 38))⟩,
   ⟨(some 14), none, (.alloc [(.bool false), (.int .i64 0), (.int .u16 0), (.int .u32 0), (.int .u32 0), (.slice none 0 0 none), (.int .u16 0), (.slice none 0 0 none), (.slice none 0 0 none)])⟩,
   ⟨none, none, (.store 9 (.t 14) (.t 58))⟩,
   ⟨(some 15), none, (.mv (.t 59))⟩] [(22, 22), (3, 17), (3, 23), (11, 23), (14, 23), (15, 23), (17, 16), (17, 23)])
 (.seq
 (.seq
 (.reg [⟨(some 60), none, (.mv (.t 15))⟩,
   ⟨(some 61), none, (.un .not (.t 60))⟩])
 (.cond (.t 61) (.exit 1) .skip))
 (.seq
 (.reg [⟨(some 63), none, (.loadN 9 (.t 14))⟩,
   ⟨(some 64), none, (.call 93 [(.t 63)])⟩,
   ⟨(some 62), none, (.mv (.t 64))⟩,
   ⟨(some 65), none, (.extract 0 (.t 62))⟩,
   ⟨(some 66), none, (.extract 1 (.t 62))⟩,
   ⟨(some 16), none, (.mv (.t 65))⟩,
   ⟨(some 17), none, (.mv (.t 66))⟩])
 (.seq
 (.reg [⟨(some 67), none, (.mv (.t 0))⟩,
   ⟨(some 68), none, (.mv (.t 1))⟩,
   ⟨(some 69), none, (.mv (.t 16))⟩,
   ⟨(some 70), none, (.call 94 [(.t 67), (.t 68), (.t 69)])⟩,
   ⟨(some 71), none, (.un .not (.t 70))⟩])
 (.cond (.t 71)
 (.seq
 (.reg [⟨(some 72), none, (.mv (.t 13))⟩,
   ⟨(some 73), none, (.nilCheck (.t 72))⟩,
   ⟨(some 74), none, (.fieldAddr 2 1 (.t 73))⟩,
   ⟨(some 75), none, (.load1 (.t 74))⟩,
   ⟨(some 76), none, (.call 95 [(.t 75)])⟩])
 (.reg [⟨(some 77), none, (.mv (.t 0))⟩,
   ⟨(some 78), none, (.mv (.t 2))⟩,
   ⟨(some 79), none, (.mv (.t 3))⟩,
   ⟨(some 80), none, (.call 80 [(.t 77), (.t 78), (.t 79)])⟩])) .skip))))))))
 (.reg [⟨(some 81), none, (.bin .add .num (.t 28) (.c (.int .i64 1)))⟩,
   ⟨(some 28), none, (.mv (.t 81))⟩]))))
/-- (*limelight/sfu.House).forward -/
def af44 : AFunc := ⟨82, [],
 (.seq
 (.reg [⟨(some 11), none, (.box (.t 5))⟩])
 (.seq
 (.reg [⟨(some 18), none, (.mv (.t 0))⟩,
   ⟨(some 19), none, (.mv (.t 1))⟩,
   ⟨(some 20), none, (.nilCheck (.t 18))⟩,
   ⟨(some 21), none, (.fieldAddr 1 6 (.t 20))⟩,
   ⟨(some 22), none, (.ixArr 6 1 (.t 21) (.t 19))⟩,
   ⟨(some 23), none, (.load1 (.t 22))⟩,
   ⟨(some 24), none, (.nilCheck (.t 23))⟩,
   ⟨(some 25), none, (.fieldAddr 4 1 (.t 24))⟩,
   ⟨(some 26), none, (.load1 (.t 25))⟩,
   ⟨(some 27), none, (.len (.t 26))⟩,
   ⟨(some 28), none, (.mv (.c (.int .i64 0)))⟩])
 (.block 0
 (.loop af44_l0))))⟩
theorem caf44 : cFunc Tryz.prog Tryz.f44 = some af44 := by kernel_rfl
def af45_l0 : AC :=
 (.seq
 (.reg [⟨(some 17), none, (.bin .lss .num (.t 16) (.t 15))⟩])
 (.seq
 (.cond (.t 17) .skip (.exit 0))
 (.seq
 (.block 1
 (.seq
 (.reg [⟨(some 18), none, (.ixSlice 2 (.t 14) (.t 16))⟩,
   ⟨(some 19), none, (.loadN 2 (.t 18))⟩,
   ⟨(some 7), none, (.alloc [(.int .i64 0), (.int .u64 0)])⟩,
   ⟨none, none, (.store 2 (.t 7) (.t 19))⟩])
 (.reg [⟨(some 20), none, (.mv (.t 0))⟩,
   ⟨(some 21), none, (.mv (.t 0))⟩,
   ⟨(some 22), none, (.nilCheck (.t 21))⟩,
   ⟨(some 23), none, (.fieldAddr 3 1 (.t 22))⟩,
   ⟨(some 24), none, (.load1 (.t 23))⟩,
   ⟨(some 25), none, (.mkFunc 98 [(.t 7)])⟩,
   ⟨(some 26), none, (.call 97 [(.t 24), (.t 25)])⟩,
   ⟨(some 27), none, (.nilCheck (.t 20))⟩,
   ⟨(some 28), none, (.fieldAddr 3 1 (.t 27))⟩,
   ⟨none, none, (.store 1 (.t 28) (.t 26))⟩])))
 (.reg [⟨(some 29), none, (.bin .add .num (.t 16) (.c (.int .i64 1)))⟩,
   ⟨(some 16), none, (.mv (.t 29))⟩]))))
/-- (*limelight/limit.Limit).Tick -/
def af45 : AFunc := ⟨32, [(.tmp 4)],
 (.seq
 (.reg [⟨(some 4), none, (.mv (.c (.int .i64 0)))⟩])
 (.seq
 (.reg [⟨(some 8), none, (.mv (.t 0))⟩,
   ⟨(some 9), none, (.nilCheck (.t 8))⟩,
   ⟨(some 10), none, (.fieldAddr 4 1 (.t 9))⟩,
   ⟨(some 11), none, (.load1 (.t 10))⟩,
   ⟨(some 12), none, (.mv (.t 1))⟩,
   ⟨(some 13), none, (.call 96 [(.t 11), (.t 12)])⟩,
   ⟨(some 5), none, (.mv (.t 13))⟩])
 (.seq
 (.seq
 (.reg [⟨(some 14), none, (.mv (.t 5))⟩,
   ⟨(some 15), none, (.len (.t 14))⟩,
   ⟨(some 16), none, (.mv (.c (.int .i64 0)))⟩])
 (.block 0
 (.loop af45_l0)))
 (.seq
 (.reg [⟨(some 30), none, (.mv (.t 5))⟩,
   ⟨(some 31), none, (.len (.t 30))⟩,
   ⟨(some 4), none, (.mv (.t 31))⟩]) .ret))))⟩
theorem caf45 : cFunc Tryz.prog Tryz.f45 = some af45 := by kernel_rfl
/-- (*limelight/pace.Queue).Rate -/
def af46 : AFunc := ⟨10, [],
 (.reg [⟨(some 4), none, (.mv (.t 0))⟩,
   ⟨(some 5), none, (.nilCheck (.t 4))⟩,
   ⟨(some 6), none, (.fieldAddr 1 1 (.t 5))⟩,
   ⟨(some 7), none, (.load1 (.t 6))⟩,
   ⟨(some 8), none, (.mv (.t 1))⟩,
   ⟨(some 9), none, (.call 99 [(.t 7), (.t 8)])⟩])⟩
theorem caf46 : cFunc Tryz.prog Tryz.f46 = some af46 := by kernel_rfl
def af47_l0 : AC :=
 (.seq
 (.reg [⟨(some 33), none, (.bin .lss .num (.t 32) (.t 31))⟩])
 (.seq
 (.cond (.t 33) .skip (.exit 0))
 (.seq
 (.block 1
 (.seq
 (.reg [⟨(some 34), none, (.mv (.t 32))⟩,
   ⟨(some 35), none, (.ixSlice 1 (.t 30) (.t 32))⟩,
   ⟨(some 36), none, (.load1 (.t 35))⟩,
   ⟨(some 6), none, (.mv (.t 34))⟩,
   ⟨(some 7), none, (.mv (.t 36))⟩])
 (.seq
 (.reg [⟨(some 37), none, (.mv (.t 4))⟩,
   ⟨(some 38), none, (.nilCheck (.t 37))⟩,
   ⟨(some 39), none, (.fieldAddr 4 1 (.t 38))⟩,
   ⟨(some 40), none, (.load1 (.t 39))⟩,
   ⟨(some 41), none, (.mv (.t 6))⟩,
   ⟨(some 42), none, (.ixSlice 1 (.t 40) (.t 41))⟩,
   ⟨(some 43), none, (.load1 (.t 42))⟩,
   ⟨(some 8), none, (.mv (.t 43))⟩])
 (.seq
 (.reg [⟨(some 44), none, (.mv (.t 8))⟩,
   ⟨(some 45), none, (.mv (.t 7))⟩,
   ⟨(some 46), none, (.nilCheck (.t 44))⟩,
   ⟨(some 47), none, (.fieldAddr 5 1 (.t 46))⟩,
   ⟨none, none, (.store 1 (.t 47) (.t 45))⟩])
 (.seq
 (.seq
 (.reg [⟨(some 48), none, (.mv (.t 8))⟩,
   ⟨(some 49), none, (.nilCheck (.t 48))⟩,
   ⟨(some 50), none, (.fieldAddr 2 1 (.t 49))⟩,
   ⟨(some 51), none, (.load1 (.t 50))⟩,
   ⟨(some 52), none, (.mv (.t 7))⟩,
   ⟨(some 53), none, (.call 103 [(.t 51), (.t 52)])⟩])
 (.cond (.t 53)
 (.reg [⟨(some 54), none, (.mv (.t 0))⟩,
   ⟨(some 55), none, (.mv (.t 8))⟩,
   ⟨(some 56), none, (.nilCheck (.t 55))⟩,
   ⟨(some 57), none, (.fieldAddr 0 1 (.t 56))⟩,
   ⟨(some 58), none, (.load1 (.t 57))⟩,
   ⟨(some 59), none, (.mv (.t 7))⟩,
   ⟨(some 60), none, (.call 80 [(.t 54), (.t 58), (.t 59)])⟩]) .skip))
 (.seq
 (.reg [⟨(some 61), none, (.mv (.t 7))⟩,
   ⟨(some 62), none, (.bin .geq .num (.t 61) (.c (.int .i64 0)))⟩])
 (.cond (.t 62)
 (.dreg [⟨(some 63), none, (.mv (.t 0))⟩,
   ⟨(some 64), none, (.mv (.t 8))⟩,
   ⟨(some 65), none, (.nilCheck (.t 64))⟩,
   ⟨(some 66), none, (.fieldAddr 0 1 (.t 65))⟩,
   ⟨(some 67), none, (.load1 (.t 66))⟩,
   ⟨(some 68), none, (.nilCheck (.t 63))⟩,
   ⟨(some 69), none, (.fieldAddr 1 6 (.t 68))⟩,
   ⟨(some 70), none, (.ixArr 6 1 (.t 69) (.t 67))⟩,
   ⟨(some 71), none, (.load1 (.t 70))⟩,
   ⟨(some 72), none, (.nilCheck (.t 71))⟩,
   ⟨(some 73), none, (.fieldAddr 3 1 (.t 72))⟩,
   ⟨(some 74), none, (.load1 (.t 73))⟩,
   ⟨(some 75), none, (.mv (.t 7))⟩,
   ⟨(some 76), none, (.mv (.t 0))⟩,
   ⟨(some 77), none, (.nilCheck (.t 76))⟩,
   ⟨(some 78), none, (.fieldAddr 7 1 (.t 77))⟩,
   ⟨(some 79), none, (.load1 (.t 78))⟩,
   ⟨(some 80), none, (.call 104 [(.t 74), (.t 75), (.t 79)])⟩] []) .skip)))))))
 (.reg [⟨(some 81), none, (.bin .add .num (.t 32) (.c (.int .i64 1)))⟩,
   ⟨(some 32), none, (.mv (.t 81))⟩]))))
/-- (*limelight/sfu.House).give -/
def af47 : AFunc := ⟨82, [],
 (.seq
 (.reg [⟨(some 9), none, (.mv (.t 0))⟩,
   ⟨(some 10), none, (.mv (.t 1))⟩,
   ⟨(some 11), none, (.nilCheck (.t 9))⟩,
   ⟨(some 12), none, (.fieldAddr 1 6 (.t 11))⟩,
   ⟨(some 13), none, (.ixArr 6 1 (.t 12) (.t 10))⟩,
   ⟨(some 14), none, (.load1 (.t 13))⟩,
   ⟨(some 4), none, (.mv (.t 14))⟩])
 (.seq
 (.reg [⟨(some 15), none, (.mv (.t 4))⟩,
   ⟨(some 16), none, (.call 65 [(.t 15)])⟩,
   ⟨(some 5), none, (.mv (.t 16))⟩])
 (.seq
 (.seq
 (.reg [⟨(some 17), none, (.mv (.t 4))⟩,
   ⟨(some 18), none, (.nilCheck (.t 17))⟩,
   ⟨(some 19), none, (.fieldAddr 5 1 (.t 18))⟩,
   ⟨(some 20), none, (.load1 (.t 19))⟩])
 (.cond (.t 20)
 (.reg [⟨(some 5), none, (.mv (.c (.slice none 0 0 none)))⟩]) .skip))
 (.seq
 (.reg [⟨(some 21), none, (.mv (.t 4))⟩,
   ⟨(some 22), none, (.nilCheck (.t 21))⟩,
   ⟨(some 23), none, (.fieldAddr 5 1 (.t 22))⟩,
   ⟨none, none, (.store 1 (.t 23) (.c (.bool false)))⟩])
 (.seq
 (.reg [⟨(some 24), none, (.mv (.t 0))⟩,
   ⟨(some 25), none, (.mv (.t 1))⟩,
   ⟨(some 26), none, (.call 101 [(.t 24), (.t 25), (.c (.bool false))])⟩,
   ⟨(some 27), none, (.mv (.t 4))⟩,
   ⟨(some 28), none, (.call 102 [(.t 27)])⟩,
   ⟨(some 29), none, (.mv (.t 5))⟩,
   ⟨(some 30), none, (.call 100 [(.t 26), (.t 28), (.t 29)])⟩,
   ⟨(some 31), none, (.len (.t 30))⟩,
   ⟨(some 32), none, (.mv (.c (.int .i64 0)))⟩])
 (.block 0
 (.loop af47_l0)))))))⟩
theorem caf47 : cFunc Tryz.prog Tryz.f47 = some af47 := by kernel_rfl
def af48_l0 : AC :=
 (.seq
 (.reg [⟨(some 28), none, (.bin .lss .num (.t 27) (.t 26))⟩])
 (.seq
 (.cond (.t 28) .skip (.exit 2))
 (.seq
 (.block 3
 (.seq
 (.reg [⟨(some 29), none, (.mv (.t 27))⟩,
   ⟨(some 30), none, (.ixSlice 1 (.t 25) (.t 27))⟩,
   ⟨(some 31), none, (.load1 (.t 30))⟩,
   ⟨(some 6), none, (.mv (.t 29))⟩,
   ⟨(some 7), none, (.mv (.t 31))⟩])
 (.seq
 (.reg [⟨(some 32), none, (.mv (.t 7))⟩,
   ⟨(some 33), none, (.bin .geq .num (.t 32) (.c (.int .i64 0)))⟩])
 (.cond (.t 33)
 (.reg [⟨(some 34), none, (.mv (.t 5))⟩,
   ⟨(some 35), none, (.nilCheck (.t 34))⟩,
   ⟨(some 36), none, (.fieldAddr 4 1 (.t 35))⟩,
   ⟨(some 37), none, (.load1 (.t 36))⟩,
   ⟨(some 38), none, (.mv (.t 6))⟩,
   ⟨(some 39), none, (.ixSlice 1 (.t 37) (.t 38))⟩,
   ⟨(some 40), none, (.load1 (.t 39))⟩,
   ⟨(some 41), none, (.nilCheck (.t 40))⟩,
   ⟨(some 42), none, (.fieldAddr 0 1 (.t 41))⟩,
   ⟨(some 43), none, (.load1 (.t 42))⟩,
   ⟨(some 44), none, (.mv (.t 7))⟩,
   ⟨(some 45), none, (.ixArr 6 3 (.t 3) (.t 43))⟩,
   ⟨(some 46), none, (.ixArr 3 1 (.t 45) (.t 44))⟩,
   ⟨none, none, (.store 1 (.t 46) (.c (.bool true)))⟩]) .skip))))
 (.reg [⟨(some 47), none, (.bin .add .num (.t 27) (.c (.int .i64 1)))⟩,
   ⟨(some 27), none, (.mv (.t 47))⟩]))))
def af48_l1 : AC :=
 (.seq
 (.reg [⟨(some 13), none, (.bin .lss .num (.t 12) (.c (.int .i64 6)))⟩])
 (.seq
 (.cond (.t 13) .skip (.exit 0))
 (.seq
 (.block 1
 (.seq
 (.reg [⟨(some 14), none, (.mv (.t 12))⟩,
   ⟨(some 15), none, (.ixAgg1 6 (.t 11) (.t 12))⟩,
   ⟨(some 4), none, (.mv (.t 14))⟩,
   ⟨(some 5), none, (.mv (.t 15))⟩])
 (.seq
 (.seq
 (.reg [⟨(some 16), none, (.mv (.t 5))⟩,
   ⟨(some 17), none, (.bin .eql .ptr (.t 16) (.c (.ptr none)))⟩])
 (.cond (.t 17) (.exit 1) .skip))
 (.seq
 (.reg [⟨(some 18), none, (.mv (.t 0))⟩,
   ⟨(some 19), none, (.mv (.t 4))⟩,
   ⟨(some 20), none, (.call 101 [(.t 18), (.t 19), (.c (.bool true))])⟩,
   ⟨(some 21), none, (.mv (.t 5))⟩,
   ⟨(some 22), none, (.call 102 [(.t 21)])⟩,
   ⟨(some 23), none, (.mv (.t 5))⟩,
   ⟨(some 24), none, (.call 65 [(.t 23)])⟩,
   ⟨(some 25), none, (.call 100 [(.t 20), (.t 22), (.t 24)])⟩,
   ⟨(some 26), none, (.len (.t 25))⟩,
   ⟨(some 27), none, (.mv (.c (.int .i64 0)))⟩])
 (.block 2
 (.loop af48_l0))))))
 (.reg [⟨(some 48), none, (.bin .add .num (.t 12) (.c (.int .i64 1)))⟩,
   ⟨(some 12), none, (.mv (.t 48))⟩]))))
/-- (*limelight/sfu.House).wanted -/
def af48 : AFunc := ⟨50, [(.cellN 2 18)],
 (.seq
 (.reg [⟨(some 2), none, (.alloc [(.bool false), (.bool false), (.bool false), (.bool false), (.bool false), (.bool false), (.bool false), (.bool false), (.bool false), (.bool false), (.bool false), (.bool false), (.bool false), (.bool false), (.bool false), (.bool false), (.bool false), (.bool false)])⟩])
 (.seq
 (.reg [⟨(some 3), none, (.alloc [(.bool false), (.bool false), (.bool false), (.bool false), (.bool false), (.bool false), (.bool false), (.bool false), (.bool false), (.bool false), (.bool false), (.bool false), (.bool false), (.bool false), (.bool false), (.bool false), (.bool false), (.bool false)])⟩])
 (.seq
 (.seq
 (.reg [⟨(some 8), none, (.mv (.t 0))⟩,
   ⟨(some 9), none, (.nilCheck (.t 8))⟩,
   ⟨(some 10), none, (.fieldAddr 1 6 (.t 9))⟩,
   ⟨(some 11), none, (.loadN 6 (.t 10))⟩,
   ⟨(some 12), none, (.mv (.c (.int .i64 0)))⟩])
 (.block 0
 (.loop af48_l1)))
 (.seq
 (.reg [⟨(some 49), none, (.loadN 18 (.t 3))⟩,
   ⟨none, none, (.store 18 (.t 2) (.t 49))⟩]) .ret))))⟩
theorem caf48 : cFunc Tryz.prog Tryz.f48 = some af48 := by kernel_rfl
def af49_l0 : AC :=
 (.seq
 (.reg [⟨(some 66), none, (.bin .lss .num (.t 65) (.t 64))⟩])
 (.seq
 (.cond (.t 66) .skip (.exit 2))
 (.seq
 (.block 3
 (.seq
 (.reg [⟨(some 67), none, (.ixSlice 1 (.t 63) (.t 65))⟩,
   ⟨(some 68), none, (.load1 (.t 67))⟩,
   ⟨(some 9), none, (.mv (.t 68))⟩])
 (.seq
 (.reg [⟨(some 69), none, (.mv (.t 6))⟩,
   ⟨(some 70), none, (.nilCheck (.t 69))⟩,
   ⟨(some 71), none, (.fieldAddr 3 1 (.t 70))⟩,
   ⟨(some 72), none, (.load1 (.t 71))⟩,
   ⟨(some 73), none, (.mv (.t 9))⟩,
   ⟨(some 74), none, (.call 109 [(.t 72), (.t 73)])⟩])
 (.seq
 (.dreg [⟨(some 75), none, (.mv (.t 6))⟩,
   ⟨(some 76), none, (.nilCheck (.t 75))⟩,
   ⟨(some 77), none, (.fieldAddr 2 1 (.t 76))⟩,
   ⟨(some 78), none, (.load1 (.t 77))⟩,
   ⟨(some 79), none, (.mv (.t 9))⟩,
   ⟨(some 80), none, (.mv (.t 0))⟩,
   ⟨(some 81), none, (.nilCheck (.t 80))⟩,
   ⟨(some 82), none, (.fieldAddr 7 1 (.t 81))⟩,
   ⟨(some 83), none, (.load1 (.t 82))⟩,
   ⟨(some 84), none, (.call 106 [(.t 78), (.t 79), (.c (.bool true)), (.t 83)])⟩] [])
 (.reg [⟨(some 85), none, (.mv (.t 0))⟩,
   ⟨(some 86), none, (.mv (.t 1))⟩,
   ⟨(some 87), none, (.mv (.t 9))⟩,
   ⟨(some 88), none, (.build [(.int .i64 0), (.int .i64 0), (.slice none 0 0 none), (.int .i64 0), (.int .i64 0), (.int .i64 0), (.int .i64 0), (.int .i64 0)] [(0, (1, (.c (.int .i64 8)))), (6, (1, (.t 87)))])⟩,
   ⟨(some 89), none, (.call 107 [(.t 85), (.t 86), (.t 88)])⟩])))))
 (.reg [⟨(some 90), none, (.bin .add .num (.t 65) (.c (.int .i64 1)))⟩,
   ⟨(some 65), none, (.mv (.t 90))⟩]))))
def af49_l1 : AC :=
 (.seq
 (.reg [⟨(some 22), none, (.bin .lss .num (.t 21) (.t 20))⟩])
 (.seq
 (.cond (.t 22) .skip (.exit 0))
 (.seq
 (.block 1
 (.seq
 (.reg [⟨(some 23), none, (.mv (.t 21))⟩,
   ⟨(some 7), none, (.mv (.t 23))⟩])
 (.seq
 (.dreg [⟨(some 24), none, (.mv (.t 7))⟩,
   ⟨(some 25), none, (.ixArr 3 1 (.t 5) (.t 24))⟩,
   ⟨(some 26), none, (.load1 (.t 25))⟩,
   ⟨(some 27), none, (.mv (.t 26))⟩,
   ⟨(some 28), (some (27, true)), (.mv (.t 6))⟩,
   ⟨(some 29), (some (27, true)), (.nilCheck (.t 28))⟩,
   ⟨(some 30), (some (27, true)), (.fieldAddr 3 1 (.t 29))⟩,
   ⟨(some 31), (some (27, true)), (.load1 (.t 30))⟩,
   ⟨(some 32), (some (27, true)), (.mv (.t 7))⟩,
   ⟨(some 33), (some (27, true)), (.mv (.t 0))⟩,
   ⟨(some 34), (some (27, true)), (.nilCheck (.t 33))⟩,
   ⟨(some 35), (some (27, true)), (.fieldAddr 7 1 (.t 34))⟩,
   ⟨(some 36), (some (27, true)), (.load1 (.t 35))⟩,
   ⟨(some 37), (some (27, true)), (.call 105 [(.t 31), (.t 32), (.t 36)])⟩,
   ⟨(some 38), none, (.pick (.t 27) (.t 37) (.c (.bool false)))⟩] [])
 (.cond (.t 38)
 (.seq
 (.dreg [⟨(some 39), none, (.mv (.t 6))⟩,
   ⟨(some 40), none, (.nilCheck (.t 39))⟩,
   ⟨(some 41), none, (.fieldAddr 2 1 (.t 40))⟩,
   ⟨(some 42), none, (.load1 (.t 41))⟩,
   ⟨(some 43), none, (.mv (.t 7))⟩,
   ⟨(some 44), none, (.mv (.t 0))⟩,
   ⟨(some 45), none, (.nilCheck (.t 44))⟩,
   ⟨(some 46), none, (.fieldAddr 7 1 (.t 45))⟩,
   ⟨(some 47), none, (.load1 (.t 46))⟩,
   ⟨(some 48), none, (.call 106 [(.t 42), (.t 43), (.c (.bool false)), (.t 47)])⟩] [])
 (.reg [⟨(some 49), none, (.mv (.t 0))⟩,
   ⟨(some 50), none, (.mv (.t 1))⟩,
   ⟨(some 51), none, (.mv (.t 7))⟩,
   ⟨(some 52), none, (.build [(.int .i64 0), (.int .i64 0), (.slice none 0 0 none), (.int .i64 0), (.int .i64 0), (.int .i64 0), (.int .i64 0), (.int .i64 0)] [(0, (1, (.c (.int .i64 9)))), (6, (1, (.t 51)))])⟩,
   ⟨(some 53), none, (.call 107 [(.t 49), (.t 50), (.t 52)])⟩])) .skip))))
 (.reg [⟨(some 54), none, (.bin .add .num (.t 21) (.c (.int .i64 1)))⟩,
   ⟨(some 21), none, (.mv (.t 54))⟩]))))
/-- (*limelight/sfu.House).rest -/
def af49 : AFunc := ⟨91, [],
 (.seq
 (.reg [⟨(some 5), none, (.box (.t 2))⟩])
 (.seq
 (.reg [⟨(some 10), none, (.mv (.t 0))⟩,
   ⟨(some 11), none, (.mv (.t 1))⟩,
   ⟨(some 12), none, (.nilCheck (.t 10))⟩,
   ⟨(some 13), none, (.fieldAddr 1 6 (.t 12))⟩,
   ⟨(some 14), none, (.ixArr 6 1 (.t 13) (.t 11))⟩,
   ⟨(some 15), none, (.load1 (.t 14))⟩,
   ⟨(some 6), none, (.mv (.t 15))⟩])
 (.seq
 (.seq
 (.reg [⟨(some 16), none, (.mv (.t 6))⟩,
   ⟨(some 17), none, (.nilCheck (.t 16))⟩,
   ⟨(some 18), none, (.fieldAddr 2 1 (.t 17))⟩,
   ⟨(some 19), none, (.load1 (.t 18))⟩,
   ⟨(some 20), none, (.call 67 [(.t 19)])⟩,
   ⟨(some 21), none, (.mv (.c (.int .i64 0)))⟩])
 (.block 0
 (.loop af49_l1)))
 (.seq
 (.dreg [⟨(some 55), none, (.mv (.t 6))⟩,
   ⟨(some 56), none, (.nilCheck (.t 55))⟩,
   ⟨(some 57), none, (.fieldAddr 3 1 (.t 56))⟩,
   ⟨(some 58), none, (.load1 (.t 57))⟩,
   ⟨(some 59), none, (.mv (.t 0))⟩,
   ⟨(some 60), none, (.nilCheck (.t 59))⟩,
   ⟨(some 61), none, (.fieldAddr 7 1 (.t 60))⟩,
   ⟨(some 62), none, (.load1 (.t 61))⟩,
   ⟨(some 63), none, (.call 108 [(.t 58), (.t 62)])⟩,
   ⟨(some 64), none, (.len (.t 63))⟩,
   ⟨(some 65), none, (.mv (.c (.int .i64 0)))⟩] [])
 (.block 2
 (.loop af49_l0))))))⟩
theorem caf49 : cFunc Tryz.prog Tryz.f49 = some af49 := by kernel_rfl
def af50_l0 : AC :=
 (.seq
 (.seq
 (.dreg [⟨(some 4), none, (.mv (.t 0))⟩,
   ⟨(some 5), none, (.nilCheck (.t 4))⟩,
   ⟨(some 6), none, (.fieldAddr 0 1 (.t 5))⟩,
   ⟨(some 7), none, (.load1 (.t 6))⟩,
   ⟨(some 8), none, (.len (.t 7))⟩,
   ⟨(some 9), none, (.bin .gtr .num (.t 8) (.c (.int .i64 0)))⟩,
   ⟨(some 10), none, (.mv (.t 9))⟩,
   ⟨(some 11), (some (10, true)), (.mv (.t 0))⟩,
   ⟨(some 12), (some (10, true)), (.nilCheck (.t 11))⟩,
   ⟨(some 13), (some (10, true)), (.fieldAddr 1 1 (.t 12))⟩,
   ⟨(some 14), (some (10, true)), (.load1 (.t 13))⟩,
   ⟨(some 15), (some (10, true)), (.mv (.t 0))⟩,
   ⟨(some 16), (some (10, true)), (.nilCheck (.t 15))⟩,
   ⟨(some 17), (some (10, true)), (.fieldAddr 0 1 (.t 16))⟩,
   ⟨(some 18), (some (10, true)), (.load1 (.t 17))⟩,
   ⟨(some 19), (some (10, true)), (.ixSlice 1 (.t 18) (.c (.int .i64 0)))⟩,
   ⟨(some 20), (some (10, true)), (.load1 (.t 19))⟩,
   ⟨(some 21), (some (10, true)), (.call 111 [(.t 20)])⟩,
   ⟨(some 22), (some (10, true)), (.call 110 [(.t 14), (.t 21)])⟩,
   ⟨(some 23), none, (.pick (.t 10) (.t 22) (.c (.bool false)))⟩] [(10, 18)])
 (.cond (.t 23) .skip (.exit 0)))
 (.block 1
 (.seq
 (.reg [⟨(some 24), none, (.mv (.t 3))⟩,
   ⟨(some 25), none, (.mv (.t 0))⟩,
   ⟨(some 26), none, (.nilCheck (.t 25))⟩,
   ⟨(some 27), none, (.fieldAddr 0 1 (.t 26))⟩,
   ⟨(some 28), none, (.load1 (.t 27))⟩,
   ⟨(some 29), none, (.ixSlice 1 (.t 28) (.c (.int .i64 0)))⟩,
   ⟨(some 30), none, (.load1 (.t 29))⟩,
   ⟨(some 31), none, (.buildSlice 1 [(.slice none 0 0 none)] 1 [(0, (1, (.t 30)))])⟩,
   ⟨(some 32), none, (.append 1 24 (.t 24) (.t 31))⟩,
   ⟨(some 3), none, (.mv (.t 32))⟩])
 (.reg [⟨(some 33), none, (.mv (.t 0))⟩,
   ⟨(some 34), none, (.mv (.t 0))⟩,
   ⟨(some 35), none, (.nilCheck (.t 34))⟩,
   ⟨(some 36), none, (.fieldAddr 0 1 (.t 35))⟩,
   ⟨(some 37), none, (.load1 (.t 36))⟩,
   ⟨(some 38), none, (.cut 1 (.t 37) (some (.c (.int .i64 1))) none none)⟩,
   ⟨(some 39), none, (.nilCheck (.t 33))⟩,
   ⟨(some 40), none, (.fieldAddr 0 1 (.t 39))⟩,
   ⟨none, none, (.store 1 (.t 40) (.t 38))⟩]))))
/-- (*limelight/pace.Queue).Go -/
def af50 : AFunc := ⟨43, [(.tmp 2)],
 (.seq
 (.reg [⟨(some 2), none, (.mv (.c (.slice none 0 0 none)))⟩])
 (.seq
 (.reg [⟨(some 3), none, (.mv (.c (.slice none 0 0 none)))⟩])
 (.seq
 (.block 0
 (.loop af50_l0))
 (.seq
 (.reg [⟨(some 41), none, (.mv (.t 3))⟩,
   ⟨(some 42), none, (.call 112 [(.t 41)])⟩,
   ⟨(some 2), none, (.mv (.t 42))⟩]) .ret))))⟩
theorem caf50 : cFunc Tryz.prog Tryz.f50 = some af50 := by kernel_rfl
/-- slices.Clip[[]limelight/api.Sent,limelight/api.Sent] -/
def af51 : AFunc := ⟨9, [(.tmp 2)],
 (.seq
 (.reg [⟨(some 2), none, (.mv (.c (.slice none 0 0 none)))⟩])
 (.seq
 (.reg [⟨(some 3), none, (.mv (.t 0))⟩,
   ⟨(some 4), none, (.mv (.t 0))⟩,
   ⟨(some 5), none, (.len (.t 4))⟩,
   ⟨(some 6), none, (.mv (.t 0))⟩,
   ⟨(some 7), none, (.len (.t 6))⟩,
   ⟨(some 8), none, (.cut 3 (.t 3) none (some (.t 5)) (some (.t 7)))⟩,
   ⟨(some 2), none, (.mv (.t 8))⟩]) .ret))⟩
theorem caf51 : cFunc Tryz.prog Tryz.f51 = some af51 := by kernel_rfl
/-- limelight/rtcp.Right -/
def af52 : AFunc := ⟨20, [(.tmp 2)],
 (.seq
 (.reg [⟨(some 1), none, (.box (.t 0))⟩,
   ⟨(some 2), none, (.mv (.c (.int .i64 0)))⟩])
 (.seq
 (.block 0
 (.seq
 (.reg [⟨(some 4), none, (.fieldAddr 0 1 (.t 1))⟩,
   ⟨(some 5), none, (.load1 (.t 4))⟩,
   ⟨(some 6), none, (.bin .lss .num (.t 5) (.c (.int .i64 1)))⟩,
   ⟨(some 7), none, (.mv (.t 6))⟩,
   ⟨(some 8), (some (7, false)), (.fieldAddr 0 1 (.t 1))⟩,
   ⟨(some 9), (some (7, false)), (.load1 (.t 8))⟩,
   ⟨(some 10), (some (7, false)), (.bin .gtr .num (.t 9) (.c (.int .i64 6)))⟩,
   ⟨(some 11), none, (.pick (.t 7) (.c (.bool true)) (.t 10))⟩,
   ⟨(some 3), none, (.mv (.t 11))⟩])
 (.cond (.t 3)
 (.seq
 (.reg [⟨(some 2), none, (.mv (.c (.int .i64 12)))⟩]) .ret)
 (.seq
 (.reg [⟨(some 13), none, (.loadN 10 (.t 1))⟩,
   ⟨(some 14), none, (.call 113 [(.t 13)])⟩,
   ⟨(some 15), none, (.un .not (.t 14))⟩,
   ⟨(some 12), none, (.mv (.t 15))⟩])
 (.cond (.t 12)
 (.seq
 (.reg [⟨(some 2), none, (.mv (.c (.int .i64 1)))⟩]) .ret)
 (.seq
 (.reg [⟨(some 17), none, (.loadN 10 (.t 1))⟩,
   ⟨(some 18), none, (.call 114 [(.t 17)])⟩,
   ⟨(some 19), none, (.un .not (.t 18))⟩,
   ⟨(some 16), none, (.mv (.t 19))⟩])
 (.cond (.t 16)
 (.seq
 (.reg [⟨(some 2), none, (.mv (.c (.int .i64 12)))⟩]) .ret) .skip)))))))
 (.seq
 (.reg [⟨(some 2), none, (.mv (.c (.int .i64 0)))⟩]) .ret)))⟩
theorem caf52 : cFunc Tryz.prog Tryz.f52 = some af52 := by kernel_rfl
def af53_l0 : AC :=
 (.seq
 (.reg [⟨(some 104), none, (.bin .lss .num (.t 103) (.t 102))⟩])
 (.seq
 (.cond (.t 104) .skip (.exit 5))
 (.seq
 (.block 6
 (.seq
 (.reg [⟨(some 105), none, (.ixSlice 1 (.t 101) (.t 103))⟩,
   ⟨(some 106), none, (.load1 (.t 105))⟩,
   ⟨(some 10), none, (.mv (.t 106))⟩])
 (.reg [⟨(some 107), none, (.mv (.t 2))⟩,
   ⟨(some 108), none, (.mv (.t 10))⟩,
   ⟨(some 109), none, (.conv (.int .u64) (.t 108))⟩,
   ⟨(some 110), none, (.call 54 [(.t 107), (.t 109), (.c (.int .i64 4))])⟩,
   ⟨(some 2), none, (.mv (.t 110))⟩])))
 (.reg [⟨(some 111), none, (.bin .add .num (.t 103) (.c (.int .i64 1)))⟩,
   ⟨(some 103), none, (.mv (.t 111))⟩]))))
def af53_l1 : AC :=
 (.seq
 (.reg [⟨(some 68), none, (.bin .lss .num (.t 67) (.t 66))⟩])
 (.seq
 (.cond (.t 68) .skip (.exit 3))
 (.seq
 (.block 4
 (.seq
 (.reg [⟨(some 69), none, (.mv (.t 67))⟩,
   ⟨(some 70), none, (.ixSlice 1 (.t 65) (.t 67))⟩,
   ⟨(some 71), none, (.load1 (.t 70))⟩,
   ⟨(some 7), none, (.mv (.t 69))⟩,
   ⟨(some 8), none, (.mv (.t 71))⟩])
 (.dreg [⟨(some 72), none, (.mv (.t 2))⟩,
   ⟨(some 73), none, (.mv (.t 8))⟩,
   ⟨(some 74), none, (.conv (.int .u64) (.t 73))⟩,
   ⟨(some 75), none, (.call 54 [(.t 72), (.t 74), (.c (.int .i64 4))])⟩,
   ⟨(some 76), none, (.fieldAddr 5 1 (.t 1))⟩,
   ⟨(some 77), none, (.load1 (.t 76))⟩,
   ⟨(some 78), none, (.mv (.t 7))⟩,
   ⟨(some 79), none, (.ixSlice 1 (.t 77) (.t 78))⟩,
   ⟨(some 80), none, (.load1 (.t 79))⟩,
   ⟨(some 81), none, (.conv (.int .u64) (.t 80))⟩,
   ⟨(some 82), none, (.call 54 [(.t 75), (.t 81), (.c (.int .i64 1))])⟩,
   ⟨(some 83), none, (.call 54 [(.t 82), (.c (.int .u64 0)), (.c (.int .i64 3))])⟩,
   ⟨(some 2), none, (.mv (.t 83))⟩] [(5, 3), (8, 3)])))
 (.reg [⟨(some 84), none, (.bin .add .num (.t 67) (.c (.int .i64 1)))⟩,
   ⟨(some 67), none, (.mv (.t 84))⟩]))))
def af53_l2 : AC :=
 (.seq
 (.reg [⟨(some 34), none, (.bin .lss .num (.t 33) (.t 32))⟩])
 (.seq
 (.cond (.t 34) .skip (.exit 1))
 (.seq
 (.block 2
 (.seq
 (.reg [⟨(some 35), none, (.ixSlice 3 (.t 31) (.t 33))⟩,
   ⟨(some 36), none, (.loadN 3 (.t 35))⟩,
   ⟨(some 6), none, (.alloc [(.int .u32 0), (.int .u64 0), (.int .i64 0)])⟩,
   ⟨none, none, (.store 3 (.t 6) (.t 36))⟩])
 (.dreg [⟨(some 37), none, (.mv (.t 2))⟩,
   ⟨(some 38), none, (.fieldAddr 0 1 (.t 6))⟩,
   ⟨(some 39), none, (.load1 (.t 38))⟩,
   ⟨(some 40), none, (.conv (.int .u64) (.t 39))⟩,
   ⟨(some 41), none, (.call 54 [(.t 37), (.t 40), (.c (.int .i64 4))])⟩,
   ⟨(some 42), none, (.fieldAddr 1 1 (.t 6))⟩,
   ⟨(some 43), none, (.load1 (.t 42))⟩,
   ⟨(some 44), none, (.fieldAddr 2 1 (.t 6))⟩,
   ⟨(some 45), none, (.load1 (.t 44))⟩,
   ⟨(some 46), none, (.conv (.int .u64) (.t 45))⟩,
   ⟨(some 47), none, (.call 115 [(.t 43), (.c (.int .i64 17)), (.c (.int .i64 9)), (.t 46)])⟩,
   ⟨(some 48), none, (.call 54 [(.t 41), (.t 47), (.c (.int .i64 4))])⟩,
   ⟨(some 2), none, (.mv (.t 48))⟩] [(6, 4), (8, 4)])))
 (.reg [⟨(some 49), none, (.bin .add .num (.t 33) (.c (.int .i64 1)))⟩,
   ⟨(some 33), none, (.mv (.t 49))⟩]))))
/-- limelight/rtcp.body -/
def af53 : AFunc := ⟨120, [(.tmp 2), (.tmp 3), (.tmp 4)],
 (.seq
 (.reg [⟨(some 1), none, (.box (.t 0))⟩,
   ⟨(some 2), none, (.mv (.c (.slice none 0 0 none)))⟩,
   ⟨(some 3), none, (.mv (.c (.int .i64 0)))⟩,
   ⟨(some 4), none, (.mv (.c (.int .i64 0)))⟩])
 (.seq
 (.reg [⟨(some 11), none, (.fieldAddr 1 1 (.t 1))⟩,
   ⟨(some 12), none, (.load1 (.t 11))⟩,
   ⟨(some 13), none, (.conv (.int .u64) (.t 12))⟩,
   ⟨(some 14), none, (.call 54 [(.c (.slice none 0 0 none)), (.t 13), (.c (.int .i64 4))])⟩,
   ⟨(some 2), none, (.mv (.t 14))⟩])
 (.seq
 (.seq
 (.reg [⟨(some 15), none, (.fieldAddr 0 1 (.t 1))⟩,
   ⟨(some 16), none, (.load1 (.t 15))⟩,
   ⟨(some 17), none, (.bin .neq .num (.t 16) (.c (.int .i64 3)))⟩,
   ⟨(some 18), none, (.mv (.t 17))⟩,
   ⟨(some 19), (some (18, true)), (.fieldAddr 0 1 (.t 1))⟩,
   ⟨(some 20), (some (18, true)), (.load1 (.t 19))⟩,
   ⟨(some 21), (some (18, true)), (.bin .neq .num (.t 20) (.c (.int .i64 6)))⟩,
   ⟨(some 22), none, (.pick (.t 18) (.t 21) (.c (.bool false)))⟩])
 (.cond (.t 22)
 (.reg [⟨(some 23), none, (.mv (.t 2))⟩,
   ⟨(some 24), none, (.call 54 [(.t 23), (.c (.int .u64 0)), (.c (.int .i64 4))])⟩,
   ⟨(some 2), none, (.mv (.t 24))⟩]) .skip))
 (.seq
 (.seq
 (.reg [⟨(some 25), none, (.fieldAddr 0 1 (.t 1))⟩,
   ⟨(some 26), none, (.load1 (.t 25))⟩])
 (.block 0
 (.seq
 (.seq
 (.reg [⟨(some 28), none, (.bin .eql .num (.t 26) (.c (.int .i64 1)))⟩,
   ⟨(some 27), none, (.mv (.t 28))⟩])
 (.cond (.t 27) .skip
 (.reg [⟨(some 29), none, (.bin .eql .num (.t 26) (.c (.int .i64 2)))⟩,
   ⟨(some 27), none, (.mv (.t 29))⟩])))
 (.cond (.t 27)
 (.seq
 (.seq
 (.reg [⟨(some 30), none, (.fieldAddr 3 1 (.t 1))⟩,
   ⟨(some 31), none, (.load1 (.t 30))⟩,
   ⟨(some 32), none, (.len (.t 31))⟩,
   ⟨(some 33), none, (.mv (.c (.int .i64 0)))⟩])
 (.block 1
 (.loop af53_l2)))
 (.seq
 (.dreg [⟨(some 50), none, (.mv (.t 2))⟩,
   ⟨(some 51), none, (.fieldAddr 0 1 (.t 1))⟩,
   ⟨(some 52), none, (.load1 (.t 51))⟩,
   ⟨(some 53), none, (.bin .add .num (.c (.int .i64 3)) (.t 52))⟩,
   ⟨(some 54), none, (.bin .sub .num (.t 53) (.c (.int .i64 1)))⟩,
   ⟨(some 2), none, (.mv (.t 50))⟩,
   ⟨(some 3), none, (.mv (.c (.int .i64 205)))⟩,
   ⟨(some 4), none, (.mv (.t 54))⟩] []) .ret))
 (.seq
 (.reg [⟨(some 56), none, (.bin .eql .num (.t 26) (.c (.int .i64 3)))⟩,
   ⟨(some 55), none, (.mv (.t 56))⟩])
 (.cond (.t 55)
 (.seq
 (.reg [⟨(some 57), none, (.mv (.t 2))⟩,
   ⟨(some 58), none, (.fieldAddr 2 1 (.t 1))⟩,
   ⟨(some 59), none, (.load1 (.t 58))⟩,
   ⟨(some 60), none, (.conv (.int .u64) (.t 59))⟩,
   ⟨(some 61), none, (.call 54 [(.t 57), (.t 60), (.c (.int .i64 4))])⟩,
   ⟨(some 2), none, (.mv (.t 61))⟩,
   ⟨(some 3), none, (.mv (.c (.int .i64 206)))⟩,
   ⟨(some 4), none, (.mv (.c (.int .i64 1)))⟩]) .ret)
 (.seq
 (.reg [⟨(some 63), none, (.bin .eql .num (.t 26) (.c (.int .i64 4)))⟩,
   ⟨(some 62), none, (.mv (.t 63))⟩])
 (.cond (.t 62)
 (.seq
 (.seq
 (.reg [⟨(some 64), none, (.fieldAddr 4 1 (.t 1))⟩,
   ⟨(some 65), none, (.load1 (.t 64))⟩,
   ⟨(some 66), none, (.len (.t 65))⟩,
   ⟨(some 67), none, (.mv (.c (.int .i64 0)))⟩])
 (.block 3
 (.loop af53_l1)))
 (.seq
 (.reg [⟨(some 85), none, (.mv (.t 2))⟩,
   ⟨(some 2), none, (.mv (.t 85))⟩,
   ⟨(some 3), none, (.mv (.c (.int .i64 206)))⟩,
   ⟨(some 4), none, (.mv (.c (.int .i64 4)))⟩]) .ret))
 (.seq
 (.reg [⟨(some 87), none, (.bin .eql .num (.t 26) (.c (.int .i64 5)))⟩,
   ⟨(some 86), none, (.mv (.t 87))⟩])
 (.cond (.t 86)
 (.seq
 (.dreg [⟨(some 88), none, (.mv (.t 2))⟩,
   ⟨(some 89), none, (.appendS 1 (.t 88) (.c (.str [82, 69, 77, 66])))⟩,
   ⟨(some 90), none, (.fieldAddr 4 1 (.t 1))⟩,
   ⟨(some 91), none, (.load1 (.t 90))⟩,
   ⟨(some 92), none, (.len (.t 91))⟩,
   ⟨(some 93), none, (.conv (.int .u64) (.t 92))⟩,
   ⟨(some 94), none, (.call 54 [(.t 89), (.t 93), (.c (.int .i64 1))])⟩,
   ⟨(some 2), none, (.mv (.t 94))⟩] [(3, 1)])
 (.seq
 (.reg [⟨(some 95), none, (.mv (.t 2))⟩,
   ⟨(some 96), none, (.fieldAddr 6 1 (.t 1))⟩,
   ⟨(some 97), none, (.load1 (.t 96))⟩,
   ⟨(some 98), none, (.call 115 [(.t 97), (.c (.int .i64 18)), (.c (.int .i64 0)), (.c (.int .u64 0))])⟩,
   ⟨(some 99), none, (.call 54 [(.t 95), (.t 98), (.c (.int .i64 3))])⟩,
   ⟨(some 2), none, (.mv (.t 99))⟩])
 (.seq
 (.seq
 (.reg [⟨(some 100), none, (.fieldAddr 4 1 (.t 1))⟩,
   ⟨(some 101), none, (.load1 (.t 100))⟩,
   ⟨(some 102), none, (.len (.t 101))⟩,
   ⟨(some 103), none, (.mv (.c (.int .i64 0)))⟩])
 (.block 5
 (.loop af53_l0)))
 (.seq
 (.reg [⟨(some 112), none, (.mv (.t 2))⟩,
   ⟨(some 2), none, (.mv (.t 112))⟩,
   ⟨(some 3), none, (.mv (.c (.int .i64 206)))⟩,
   ⟨(some 4), none, (.mv (.c (.int .i64 15)))⟩]) .ret)))) .skip))))))))))
 (.seq
 (.dreg [⟨(some 113), none, (.fieldAddr 9 1 (.t 1))⟩,
   ⟨(some 114), none, (.load1 (.t 113))⟩,
   ⟨(some 115), none, (.call 116 [(.t 114)])⟩,
   ⟨(some 116), none, (.fieldAddr 7 1 (.t 1))⟩,
   ⟨(some 117), none, (.load1 (.t 116))⟩,
   ⟨(some 118), none, (.fieldAddr 8 1 (.t 1))⟩,
   ⟨(some 119), none, (.load1 (.t 118))⟩,
   ⟨(some 2), none, (.mv (.t 115))⟩,
   ⟨(some 3), none, (.mv (.t 117))⟩,
   ⟨(some 4), none, (.mv (.t 119))⟩] [(4, 2), (6, 2)]) .ret)))))⟩
theorem caf53 : cFunc Tryz.prog Tryz.f53 = some af53 := by kernel_rfl
def af54_l0 : AC :=
 (.seq
 (.seq
 (.reg [⟨(some 20), none, (.mv (.t 8))⟩,
   ⟨(some 21), none, (.bin .geq .num (.t 20) (.c (.int .i64 0)))⟩])
 (.cond (.t 21) .skip (.exit 0)))
 (.seq
 (.block 1
 (.reg [⟨(some 24), none, (.mv (.t 7))⟩,
   ⟨(some 25), none, (.mv (.t 1))⟩,
   ⟨(some 26), none, (.mv (.t 8))⟩,
   ⟨(some 27), none, (.bin .mul .num (.t 26) (.c (.int .i64 8)))⟩,
   ⟨(some 28), none, (.bin .shr .num (.t 25) (.t 27))⟩,
   ⟨(some 29), none, (.conv (.int .u8) (.t 28))⟩,
   ⟨(some 30), none, (.buildSlice 1 [(.int .u8 0)] 1 [(0, (1, (.t 29)))])⟩,
   ⟨(some 31), none, (.append 1 1 (.t 24) (.t 30))⟩,
   ⟨(some 7), none, (.mv (.t 31))⟩]))
 (.reg [⟨(some 22), none, (.mv (.t 8))⟩,
   ⟨(some 23), none, (.bin .sub .num (.t 22) (.c (.int .i64 1)))⟩,
   ⟨(some 8), none, (.mv (.t 23))⟩])))
/-- limelight/octet.Put -/
def af54 : AFunc := ⟨34, [(.tmp 6)],
 (.seq
 (.reg [⟨(some 6), none, (.mv (.c (.slice none 0 0 none)))⟩])
 (.seq
 (.reg [⟨(some 9), none, (.mv (.t 0))⟩,
   ⟨(some 10), none, (.call 116 [(.t 9)])⟩,
   ⟨(some 7), none, (.mv (.t 10))⟩])
 (.seq
 (.seq
 (.reg [⟨(some 11), none, (.mv (.t 2))⟩,
   ⟨(some 12), none, (.bin .lss .num (.t 11) (.c (.int .i64 1)))⟩,
   ⟨(some 13), none, (.mv (.t 12))⟩,
   ⟨(some 14), (some (13, false)), (.mv (.t 2))⟩,
   ⟨(some 15), (some (13, false)), (.bin .gtr .num (.t 14) (.c (.int .i64 8)))⟩,
   ⟨(some 16), none, (.pick (.t 13) (.c (.bool true)) (.t 15))⟩])
 (.cond (.t 16)
 (.seq
 (.reg [⟨(some 17), none, (.mv (.t 7))⟩,
   ⟨(some 6), none, (.mv (.t 17))⟩]) .ret) .skip))
 (.seq
 (.seq
 (.reg [⟨(some 18), none, (.mv (.t 2))⟩,
   ⟨(some 19), none, (.bin .sub .num (.t 18) (.c (.int .i64 1)))⟩,
   ⟨(some 8), none, (.mv (.t 19))⟩])
 (.block 0
 (.loop af54_l0)))
 (.seq
 (.reg [⟨(some 32), none, (.mv (.t 7))⟩,
   ⟨(some 33), none, (.call 55 [(.t 32)])⟩,
   ⟨(some 6), none, (.mv (.t 33))⟩]) .ret)))))⟩
theorem caf54 : cFunc Tryz.prog Tryz.f54 = some af54 := by kernel_rfl
/-- slices.Clip[[]byte,byte] -/
def af55 : AFunc := ⟨9, [(.tmp 2)],
 (.seq
 (.reg [⟨(some 2), none, (.mv (.c (.slice none 0 0 none)))⟩])
 (.seq
 (.reg [⟨(some 3), none, (.mv (.t 0))⟩,
   ⟨(some 4), none, (.mv (.t 0))⟩,
   ⟨(some 5), none, (.len (.t 4))⟩,
   ⟨(some 6), none, (.mv (.t 0))⟩,
   ⟨(some 7), none, (.len (.t 6))⟩,
   ⟨(some 8), none, (.cut 1 (.t 3) none (some (.t 5)) (some (.t 7)))⟩,
   ⟨(some 2), none, (.mv (.t 8))⟩]) .ret))⟩
theorem caf55 : cFunc Tryz.prog Tryz.f55 = some af55 := by kernel_rfl
def af56_l0 : AC :=
 (.seq
 (.reg [⟨(some 33), none, (.bin .lss .num (.t 32) (.t 31))⟩])
 (.seq
 (.cond (.t 33) .skip (.exit 0))
 (.seq
 (.block 1
 (.seq
 (.reg [⟨(some 34), none, (.ixSlice 1 (.t 30) (.t 32))⟩,
   ⟨(some 35), none, (.load1 (.t 34))⟩,
   ⟨(some 12), none, (.mv (.t 35))⟩])
 (.reg [⟨(some 36), none, (.mv (.t 10))⟩,
   ⟨(some 37), none, (.bin .shl .num (.t 36) (.c (.int .u64 8)))⟩,
   ⟨(some 38), none, (.mv (.t 12))⟩,
   ⟨(some 39), none, (.conv (.int .u64) (.t 38))⟩,
   ⟨(some 40), none, (.bin .or .num (.t 37) (.t 39))⟩,
   ⟨(some 10), none, (.mv (.t 40))⟩])))
 (.reg [⟨(some 41), none, (.bin .add .num (.t 32) (.c (.int .i64 1)))⟩,
   ⟨(some 32), none, (.mv (.t 41))⟩]))))
/-- limelight/octet.Get -/
def af56 : AFunc := ⟨43, [(.tmp 6), (.tmp 7)],
 (.seq
 (.reg [⟨(some 6), none, (.mv (.c (.int .u64 0)))⟩,
   ⟨(some 7), none, (.mv (.c (.bool false)))⟩])
 (.seq
 (.reg [⟨(some 14), none, (.mv (.t 0))⟩,
   ⟨(some 15), none, (.mv (.t 1))⟩,
   ⟨(some 16), none, (.mv (.t 2))⟩,
   ⟨(some 17), none, (.call 117 [(.t 14), (.t 15), (.t 16)])⟩,
   ⟨(some 13), none, (.mv (.t 17))⟩,
   ⟨(some 18), none, (.extract 0 (.t 13))⟩,
   ⟨(some 19), none, (.extract 1 (.t 13))⟩,
   ⟨(some 8), none, (.mv (.t 18))⟩,
   ⟨(some 9), none, (.mv (.t 19))⟩])
 (.seq
 (.seq
 (.reg [⟨(some 20), none, (.mv (.t 9))⟩,
   ⟨(some 21), none, (.un .not (.t 20))⟩,
   ⟨(some 22), none, (.mv (.t 21))⟩,
   ⟨(some 23), (some (22, false)), (.mv (.t 2))⟩,
   ⟨(some 24), (some (22, false)), (.bin .lss .num (.t 23) (.c (.int .i64 1)))⟩,
   ⟨(some 25), none, (.pick (.t 22) (.c (.bool true)) (.t 24))⟩,
   ⟨(some 26), none, (.mv (.t 25))⟩,
   ⟨(some 27), (some (26, false)), (.mv (.t 2))⟩,
   ⟨(some 28), (some (26, false)), (.bin .gtr .num (.t 27) (.c (.int .i64 8)))⟩,
   ⟨(some 29), none, (.pick (.t 26) (.c (.bool true)) (.t 28))⟩])
 (.cond (.t 29)
 (.seq
 (.reg [⟨(some 6), none, (.mv (.c (.int .u64 0)))⟩,
   ⟨(some 7), none, (.mv (.c (.bool false)))⟩]) .ret) .skip))
 (.seq
 (.reg [⟨(some 10), none, (.mv (.c (.int .u64 0)))⟩])
 (.seq
 (.seq
 (.reg [⟨(some 30), none, (.mv (.t 8))⟩,
   ⟨(some 31), none, (.len (.t 30))⟩,
   ⟨(some 32), none, (.mv (.c (.int .i64 0)))⟩])
 (.block 0
 (.loop af56_l0)))
 (.seq
 (.reg [⟨(some 42), none, (.mv (.t 10))⟩,
   ⟨(some 6), none, (.mv (.t 42))⟩,
   ⟨(some 7), none, (.mv (.c (.bool true)))⟩]) .ret))))))⟩
theorem caf56 : cFunc Tryz.prog Tryz.f56 = some af56 := by kernel_rfl
def af57_l0 : AC :=
 (.seq
 (.seq
 (.reg [⟨(some 72), none, (.mv (.t 9))⟩,
   ⟨(some 73), none, (.call 121 [(.t 72)])⟩])
 (.cond (.t 73) .skip (.exit 3)))
 (.block 4
 (.seq
 (.dreg [⟨(some 74), none, (.fieldAddr 4 1 (.t 8))⟩,
   ⟨(some 75), none, (.load1 (.t 74))⟩,
   ⟨(some 76), none, (.mv (.t 9))⟩,
   ⟨(some 77), none, (.call 119 [(.t 76), (.c (.int .i64 4))])⟩,
   ⟨(some 78), none, (.conv (.int .u32) (.t 77))⟩,
   ⟨(some 79), none, (.buildSlice 1 [(.int .u32 0)] 1 [(0, (1, (.t 78)))])⟩,
   ⟨(some 80), none, (.append 1 4 (.t 75) (.t 79))⟩,
   ⟨(some 81), none, (.fieldAddr 4 1 (.t 8))⟩,
   ⟨none, none, (.store 1 (.t 81) (.t 80))⟩] [(1, 4), (1, 6)])
 (.seq
 (.dreg [⟨(some 82), none, (.fieldAddr 5 1 (.t 8))⟩,
   ⟨(some 83), none, (.load1 (.t 82))⟩,
   ⟨(some 84), none, (.mv (.t 9))⟩,
   ⟨(some 85), none, (.call 119 [(.t 84), (.c (.int .i64 1))])⟩,
   ⟨(some 86), none, (.conv (.int .i64) (.t 85))⟩,
   ⟨(some 87), none, (.buildSlice 1 [(.int .i64 0)] 1 [(0, (1, (.t 86)))])⟩,
   ⟨(some 88), none, (.append 1 8 (.t 83) (.t 87))⟩,
   ⟨(some 89), none, (.fieldAddr 5 1 (.t 8))⟩,
   ⟨none, none, (.store 1 (.t 89) (.t 88))⟩] [(1, 4), (1, 6)])
 (.reg [⟨(some 90), none, (.mv (.t 9))⟩,
   ⟨(some 91), none, (.call 120 [(.t 90), (.c (.int .i64 3))])⟩])))))
def af57_l1 : AC :=
 (.seq
 (.seq
 (.reg [⟨(some 42), none, (.mv (.t 9))⟩,
   ⟨(some 43), none, (.call 121 [(.t 42)])⟩])
 (.cond (.t 43) .skip (.exit 1)))
 (.block 2
 (.dreg [⟨(some 44), none, (.fieldAddr 3 1 (.t 8))⟩,
   ⟨(some 45), none, (.load1 (.t 44))⟩,
   ⟨(some 46), none, (.mv (.t 9))⟩,
   ⟨(some 47), none, (.call 122 [(.t 46)])⟩,
   ⟨(some 48), none, (.buildSlice 3 [(.int .u32 0), (.int .u64 0), (.int .i64 0)] 1 [(0, (3, (.t 47)))])⟩,
   ⟨(some 49), none, (.append 3 24 (.t 45) (.t 48))⟩,
   ⟨(some 50), none, (.fieldAddr 3 1 (.t 8))⟩,
   ⟨none, none, (.store 1 (.t 50) (.t 49))⟩] [(1, 4), (1, 5)])))
/-- limelight/rtcp.parse -/
def af57 : AFunc := ⟨130, [(.cellN 6 10), (.tmp 7)],
 (.seq
 (.reg [⟨(some 6), none, (.alloc [(.int .i64 0), (.int .u32 0), (.int .u32 0), (.slice none 0 0 none), (.slice none 0 0 none), (.slice none 0 0 none), (.int .u64 0), (.int .i64 0), (.int .i64 0), (.slice none 0 0 none)])⟩,
   ⟨(some 7), none, (.mv (.c (.bool false)))⟩])
 (.seq
 (.reg [⟨(some 10), none, (.mv (.t 0))⟩,
   ⟨(some 11), none, (.mv (.t 1))⟩,
   ⟨(some 12), none, (.call 118 [(.t 10), (.t 11)])⟩,
   ⟨(some 13), none, (.build [(.int .i64 0), (.int .u32 0), (.int .u32 0), (.slice none 0 0 none), (.slice none 0 0 none), (.slice none 0 0 none), (.int .u64 0), (.int .i64 0), (.int .i64 0), (.slice none 0 0 none)] [(0, (1, (.t 12)))])⟩,
   ⟨(some 8), none, (.alloc [(.int .i64 0), (.int .u32 0), (.int .u32 0), (.slice none 0 0 none), (.slice none 0 0 none), (.slice none 0 0 none), (.int .u64 0), (.int .i64 0), (.int .i64 0), (.slice none 0 0 none)])⟩,
   ⟨none, none, (.store 10 (.t 8) (.t 13))⟩])
 (.seq
 (.seq
 (.reg [⟨(some 14), none, (.fieldAddr 0 1 (.t 8))⟩,
   ⟨(some 15), none, (.load1 (.t 14))⟩,
   ⟨(some 16), none, (.bin .eql .num (.t 15) (.c (.int .i64 6)))⟩])
 (.cond (.t 16)
 (.seq
 (.reg [⟨(some 17), none, (.mv (.t 0))⟩,
   ⟨(some 18), none, (.mv (.t 1))⟩,
   ⟨(some 19), none, (.mv (.t 2))⟩,
   ⟨(some 20), none, (.call 116 [(.t 19)])⟩,
   ⟨(some 21), none, (.fieldAddr 7 1 (.t 8))⟩,
   ⟨none, none, (.store 1 (.t 21) (.t 17))⟩,
   ⟨(some 22), none, (.fieldAddr 8 1 (.t 8))⟩,
   ⟨none, none, (.store 1 (.t 22) (.t 18))⟩,
   ⟨(some 23), none, (.fieldAddr 9 1 (.t 8))⟩,
   ⟨none, none, (.store 1 (.t 23) (.t 20))⟩])
 (.seq
 (.reg [⟨(some 24), none, (.loadN 10 (.t 8))⟩,
   ⟨none, none, (.store 10 (.t 6) (.t 24))⟩,
   ⟨(some 7), none, (.mv (.c (.bool true)))⟩]) .ret)) .skip))
 (.seq
 (.reg [⟨(some 25), none, (.mv (.t 2))⟩,
   ⟨(some 26), none, (.build [(.slice none 0 0 none), (.int .i64 0), (.bool false)] [(0, (1, (.t 25)))])⟩,
   ⟨(some 27), none, (.box (.t 26))⟩,
   ⟨(some 9), none, (.mv (.t 27))⟩])
 (.seq
 (.reg [⟨(some 28), none, (.mv (.t 9))⟩,
   ⟨(some 29), none, (.call 119 [(.t 28), (.c (.int .i64 4))])⟩,
   ⟨(some 30), none, (.conv (.int .u32) (.t 29))⟩,
   ⟨(some 31), none, (.fieldAddr 1 1 (.t 8))⟩,
   ⟨none, none, (.store 1 (.t 31) (.t 30))⟩])
 (.seq
 (.seq
 (.reg [⟨(some 32), none, (.fieldAddr 0 1 (.t 8))⟩,
   ⟨(some 33), none, (.load1 (.t 32))⟩,
   ⟨(some 34), none, (.bin .neq .num (.t 33) (.c (.int .i64 3)))⟩])
 (.cond (.t 34)
 (.reg [⟨(some 35), none, (.mv (.t 9))⟩,
   ⟨(some 36), none, (.call 120 [(.t 35), (.c (.int .i64 4))])⟩]) .skip))
 (.seq
 (.seq
 (.reg [⟨(some 37), none, (.fieldAddr 0 1 (.t 8))⟩,
   ⟨(some 38), none, (.load1 (.t 37))⟩])
 (.block 0
 (.seq
 (.seq
 (.reg [⟨(some 40), none, (.bin .eql .num (.t 38) (.c (.int .i64 1)))⟩,
   ⟨(some 39), none, (.mv (.t 40))⟩])
 (.cond (.t 39) .skip
 (.reg [⟨(some 41), none, (.bin .eql .num (.t 38) (.c (.int .i64 2)))⟩,
   ⟨(some 39), none, (.mv (.t 41))⟩])))
 (.cond (.t 39)
 (.seq
 (.block 1
 (.loop af57_l1))
 (.reg [⟨(some 51), none, (.mv (.t 9))⟩,
   ⟨(some 52), none, (.mv (.t 9))⟩,
   ⟨(some 53), none, (.nilCheck (.t 52))⟩,
   ⟨(some 54), none, (.fieldAddr 2 1 (.t 53))⟩,
   ⟨(some 55), none, (.load1 (.t 54))⟩,
   ⟨(some 56), none, (.mv (.t 55))⟩,
   ⟨(some 57), (some (56, false)), (.fieldAddr 3 1 (.t 8))⟩,
   ⟨(some 58), (some (56, false)), (.load1 (.t 57))⟩,
   ⟨(some 59), (some (56, false)), (.len (.t 58))⟩,
   ⟨(some 60), (some (56, false)), (.bin .gtr .num (.t 59) (.c (.int .i64 6)))⟩,
   ⟨(some 61), none, (.pick (.t 56) (.c (.bool true)) (.t 60))⟩,
   ⟨(some 62), none, (.nilCheck (.t 51))⟩,
   ⟨(some 63), none, (.fieldAddr 2 1 (.t 62))⟩,
   ⟨none, none, (.store 1 (.t 63) (.t 61))⟩]))
 (.seq
 (.reg [⟨(some 65), none, (.bin .eql .num (.t 38) (.c (.int .i64 3)))⟩,
   ⟨(some 64), none, (.mv (.t 65))⟩])
 (.cond (.t 64)
 (.reg [⟨(some 66), none, (.mv (.t 9))⟩,
   ⟨(some 67), none, (.call 119 [(.t 66), (.c (.int .i64 4))])⟩,
   ⟨(some 68), none, (.conv (.int .u32) (.t 67))⟩,
   ⟨(some 69), none, (.fieldAddr 2 1 (.t 8))⟩,
   ⟨none, none, (.store 1 (.t 69) (.t 68))⟩])
 (.seq
 (.reg [⟨(some 71), none, (.bin .eql .num (.t 38) (.c (.int .i64 4)))⟩,
   ⟨(some 70), none, (.mv (.t 71))⟩])
 (.cond (.t 70)
 (.seq
 (.block 3
 (.loop af57_l0))
 (.reg [⟨(some 92), none, (.mv (.t 9))⟩,
   ⟨(some 93), none, (.mv (.t 9))⟩,
   ⟨(some 94), none, (.nilCheck (.t 93))⟩,
   ⟨(some 95), none, (.fieldAddr 2 1 (.t 94))⟩,
   ⟨(some 96), none, (.load1 (.t 95))⟩,
   ⟨(some 97), none, (.mv (.t 96))⟩,
   ⟨(some 98), (some (97, false)), (.fieldAddr 4 1 (.t 8))⟩,
   ⟨(some 99), (some (97, false)), (.load1 (.t 98))⟩,
   ⟨(some 100), (some (97, false)), (.len (.t 99))⟩,
   ⟨(some 101), (some (97, false)), (.bin .lss .num (.t 100) (.c (.int .i64 1)))⟩,
   ⟨(some 102), none, (.pick (.t 97) (.c (.bool true)) (.t 101))⟩,
   ⟨(some 103), none, (.mv (.t 102))⟩,
   ⟨(some 104), (some (103, false)), (.fieldAddr 4 1 (.t 8))⟩,
   ⟨(some 105), (some (103, false)), (.load1 (.t 104))⟩,
   ⟨(some 106), (some (103, false)), (.len (.t 105))⟩,
   ⟨(some 107), (some (103, false)), (.bin .gtr .num (.t 106) (.c (.int .i64 16)))⟩,
   ⟨(some 108), none, (.pick (.t 103) (.c (.bool true)) (.t 107))⟩,
   ⟨(some 109), none, (.nilCheck (.t 92))⟩,
   ⟨(some 110), none, (.fieldAddr 2 1 (.t 109))⟩,
   ⟨none, none, (.store 1 (.t 110) (.t 108))⟩]))
 (.seq
 (.reg [⟨(some 112), none, (.bin .eql .num (.t 38) (.c (.int .i64 5)))⟩,
   ⟨(some 111), none, (.mv (.t 112))⟩])
 (.cond (.t 111)
 (.reg [⟨(some 113), none, (.mv (.t 9))⟩,
   ⟨(some 114), none, (.call 123 [(.t 113), (.t 8)])⟩]) .skip))))))))))
 (.seq
 (.dreg [⟨(some 115), none, (.loadN 10 (.t 8))⟩,
   ⟨(some 116), none, (.mv (.t 9))⟩,
   ⟨(some 117), none, (.nilCheck (.t 116))⟩,
   ⟨(some 118), none, (.fieldAddr 2 1 (.t 117))⟩,
   ⟨(some 119), none, (.load1 (.t 118))⟩,
   ⟨(some 120), none, (.un .not (.t 119))⟩,
   ⟨(some 121), none, (.mv (.t 120))⟩,
   ⟨(some 122), (some (121, true)), (.mv (.t 9))⟩,
   ⟨(some 123), (some (121, true)), (.nilCheck (.t 122))⟩,
   ⟨(some 124), (some (121, true)), (.fieldAddr 1 1 (.t 123))⟩,
   ⟨(some 125), (some (121, true)), (.load1 (.t 124))⟩,
   ⟨(some 126), (some (121, true)), (.mv (.t 2))⟩,
   ⟨(some 127), (some (121, true)), (.len (.t 126))⟩,
   ⟨(some 128), (some (121, true)), (.bin .eql .num (.t 125) (.t 127))⟩,
   ⟨(some 129), none, (.pick (.t 121) (.t 128) (.c (.bool false)))⟩,
   ⟨none, none, (.store 10 (.t 6) (.t 115))⟩,
   ⟨(some 7), none, (.mv (.t 129))⟩] [(10, 16)]) .ret))))))))⟩
theorem caf57 : cFunc Tryz.prog Tryz.f57 = some af57 := by kernel_rfl
def af58_l0 : AC :=
 (.seq
 (.reg [⟨(some 10), none, (.bin .lss .num (.t 9) (.t 8))⟩])
 (.seq
 (.cond (.t 10) .skip (.exit 0))
 (.seq
 (.block 1
 (.seq
 (.reg [⟨(some 11), none, (.ixSlice 3 (.t 7) (.t 9))⟩,
   ⟨(some 12), none, (.loadN 3 (.t 11))⟩,
   ⟨(some 6), none, (.alloc [(.int .u32 0), (.int .u64 0), (.int .i64 0)])⟩,
   ⟨none, none, (.store 3 (.t 6) (.t 12))⟩])
 (.reg [⟨(some 13), none, (.mv (.t 4))⟩,
   ⟨(some 14), none, (.fieldAddr 1 1 (.t 6))⟩,
   ⟨(some 15), none, (.load1 (.t 14))⟩,
   ⟨(some 16), none, (.mn [(.t 13), (.t 15)])⟩,
   ⟨(some 4), none, (.mv (.t 16))⟩])))
 (.reg [⟨(some 17), none, (.bin .add .num (.t 9) (.c (.int .i64 1)))⟩,
   ⟨(some 9), none, (.mv (.t 17))⟩]))))
/-- limelight/bound.Rate -/
def af58 : AFunc := ⟨22, [(.tmp 2), (.tmp 3)],
 (.seq
 (.reg [⟨(some 2), none, (.mv (.c (.int .u64 0)))⟩,
   ⟨(some 3), none, (.mv (.c (.bool false)))⟩])
 (.seq
 (.reg [⟨(some 4), none, (.mv (.c (.int .u64 1099511627776)))⟩])
 (.seq
 (.seq
 (.reg [⟨(some 7), none, (.mv (.t 0))⟩,
   ⟨(some 8), none, (.len (.t 7))⟩,
   ⟨(some 9), none, (.mv (.c (.int .i64 0)))⟩])
 (.block 0
 (.loop af58_l0)))
 (.seq
 (.seq
 (.reg [⟨(some 18), none, (.mv (.t 0))⟩,
   ⟨(some 19), none, (.len (.t 18))⟩,
   ⟨(some 20), none, (.bin .eql .num (.t 19) (.c (.int .i64 0)))⟩])
 (.cond (.t 20)
 (.seq
 (.reg [⟨(some 2), none, (.mv (.c (.int .u64 0)))⟩,
   ⟨(some 3), none, (.mv (.c (.bool false)))⟩]) .ret) .skip))
 (.seq
 (.reg [⟨(some 21), none, (.mv (.t 4))⟩,
   ⟨(some 2), none, (.mv (.t 21))⟩,
   ⟨(some 3), none, (.mv (.c (.bool true)))⟩]) .ret)))))⟩
theorem caf58 : cFunc Tryz.prog Tryz.f58 = some af58 := by kernel_rfl
/-- (*limelight/bucket.Bucket).Tick -/
def af59 : AFunc := ⟨24, [],
 (.dreg [⟨(some 4), none, (.mv (.t 0))⟩,
   ⟨(some 5), none, (.mv (.t 0))⟩,
   ⟨(some 6), none, (.nilCheck (.t 5))⟩,
   ⟨(some 7), none, (.fieldAddr 2 1 (.t 6))⟩,
   ⟨(some 8), none, (.load1 (.t 7))⟩,
   ⟨(some 9), none, (.mv (.t 0))⟩,
   ⟨(some 10), none, (.nilCheck (.t 9))⟩,
   ⟨(some 11), none, (.fieldAddr 0 1 (.t 10))⟩,
   ⟨(some 12), none, (.load1 (.t 11))⟩,
   ⟨(some 13), none, (.mv (.t 1))⟩,
   ⟨(some 14), none, (.call 125 [(.t 12), (.t 13)])⟩,
   ⟨(some 15), none, (.call 124 [(.t 8), (.t 14)])⟩,
   ⟨(some 16), none, (.mv (.t 0))⟩,
   ⟨(some 17), none, (.nilCheck (.t 16))⟩,
   ⟨(some 18), none, (.fieldAddr 1 1 (.t 17))⟩,
   ⟨(some 19), none, (.load1 (.t 18))⟩,
   ⟨(some 20), none, (.call 125 [(.t 19), (.c (.int .i64 1000000))])⟩,
   ⟨(some 21), none, (.mn [(.t 15), (.t 20)])⟩,
   ⟨(some 22), none, (.nilCheck (.t 4))⟩,
   ⟨(some 23), none, (.fieldAddr 2 1 (.t 22))⟩,
   ⟨none, none, (.store 1 (.t 23) (.t 21))⟩] [(4, 11), (15, 10), (15, 11)])⟩
theorem caf59 : cFunc Tryz.prog Tryz.f59 = some af59 := by kernel_rfl
/-- (*limelight/sfu.House).Now -/
def af60 : AFunc := ⟨7, [(.tmp 2)],
 (.seq
 (.reg [⟨(some 2), none, (.mv (.c (.int .i64 0)))⟩])
 (.seq
 (.reg [⟨(some 3), none, (.mv (.t 0))⟩,
   ⟨(some 4), none, (.nilCheck (.t 3))⟩,
   ⟨(some 5), none, (.fieldAddr 7 1 (.t 4))⟩,
   ⟨(some 6), none, (.load1 (.t 5))⟩,
   ⟨(some 2), none, (.mv (.t 6))⟩]) .ret))⟩
theorem caf60 : cFunc Tryz.prog Tryz.f60 = some af60 := by kernel_rfl
/-- (*limelight/sfu.House).Room -/
def af61 : AFunc := ⟨7, [(.tmp 2)],
 (.seq
 (.reg [⟨(some 2), none, (.mv (.c (.ptr none)))⟩])
 (.seq
 (.reg [⟨(some 3), none, (.mv (.t 0))⟩,
   ⟨(some 4), none, (.nilCheck (.t 3))⟩,
   ⟨(some 5), none, (.fieldAddr 0 1 (.t 4))⟩,
   ⟨(some 6), none, (.load1 (.t 5))⟩,
   ⟨(some 2), none, (.mv (.t 6))⟩]) .ret))⟩
theorem caf61 : cFunc Tryz.prog Tryz.f61 = some af61 := by kernel_rfl
/-- (*limelight/room.Room).Layers -/
def af62 : AFunc := ⟨17, [(.tmp 4)],
 (.seq
 (.reg [⟨(some 4), none, (.mv (.c (.slice none 0 0 none)))⟩])
 (.seq
 (.seq
 (.reg [⟨(some 5), none, (.mv (.t 1))⟩,
   ⟨(some 6), none, (.call 126 [(.t 5)])⟩,
   ⟨(some 7), none, (.un .not (.t 6))⟩])
 (.cond (.t 7)
 (.seq
 (.reg [⟨(some 4), none, (.mv (.c (.slice none 0 0 none)))⟩]) .ret) .skip))
 (.seq
 (.reg [⟨(some 8), none, (.mv (.t 0))⟩,
   ⟨(some 9), none, (.mv (.t 1))⟩,
   ⟨(some 10), none, (.nilCheck (.t 8))⟩,
   ⟨(some 11), none, (.fieldAddr 0 24 (.t 10))⟩,
   ⟨(some 12), none, (.ixArr 6 4 (.t 11) (.t 9))⟩,
   ⟨(some 13), none, (.fieldAddr 2 1 (.t 12))⟩,
   ⟨(some 14), none, (.load1 (.t 13))⟩,
   ⟨(some 15), none, (.call 128 [(.t 14)])⟩,
   ⟨(some 16), none, (.call 127 [(.t 15)])⟩,
   ⟨(some 4), none, (.mv (.t 16))⟩]) .ret)))⟩
theorem caf62 : cFunc Tryz.prog Tryz.f62 = some af62 := by kernel_rfl
/-- slices.Contains[[]int,int] -/
def af63 : AFunc := ⟨9, [(.tmp 4)],
 (.seq
 (.reg [⟨(some 4), none, (.mv (.c (.bool false)))⟩])
 (.seq
 (.reg [⟨(some 5), none, (.mv (.t 0))⟩,
   ⟨(some 6), none, (.mv (.t 1))⟩,
   ⟨(some 7), none, (.call 129 [(.t 5), (.t 6)])⟩,
   ⟨(some 8), none, (.bin .geq .num (.t 7) (.c (.int .i64 0)))⟩,
   ⟨(some 4), none, (.mv (.t 8))⟩]) .ret))⟩
theorem caf63 : cFunc Tryz.prog Tryz.f63 = some af63 := by kernel_rfl
/-- limelight/calm.Frame -/
def af64 : AFunc := ⟨72, [(.tmp 12)],
 (.seq
 (.reg [⟨(some 12), none, (.mv (.c (.slice none 0 0 none)))⟩])
 (.seq
 (.seq
 (.reg [⟨(some 19), none, (.mv (.t 0))⟩,
   ⟨(some 20), none, (.bin .eql .ptr (.t 19) (.c (.ptr none)))⟩])
 (.cond (.t 20)
 (.seq
 (.reg [⟨(some 12), none, (.mv (.c (.slice none 0 0 none)))⟩]) .ret) .skip))
 (.seq
 (.reg [⟨(some 21), none, (.mv (.t 0))⟩,
   ⟨(some 22), none, (.call 61 [(.t 21)])⟩,
   ⟨(some 23), none, (.mv (.t 1))⟩,
   ⟨(some 24), none, (.call 62 [(.t 22), (.t 23)])⟩,
   ⟨(some 13), none, (.mv (.t 24))⟩])
 (.seq
 (.seq
 (.reg [⟨(some 25), none, (.mv (.t 2))⟩,
   ⟨(some 26), none, (.bin .lss .num (.t 25) (.c (.int .i64 0)))⟩,
   ⟨(some 27), none, (.mv (.t 26))⟩,
   ⟨(some 28), (some (27, false)), (.mv (.t 2))⟩,
   ⟨(some 29), (some (27, false)), (.mv (.t 13))⟩,
   ⟨(some 30), (some (27, false)), (.len (.t 29))⟩,
   ⟨(some 31), (some (27, false)), (.bin .geq .num (.t 28) (.t 30))⟩,
   ⟨(some 32), none, (.pick (.t 27) (.c (.bool true)) (.t 31))⟩])
 (.cond (.t 32)
 (.seq
 (.reg [⟨(some 12), none, (.mv (.c (.slice none 0 0 none)))⟩]) .ret) .skip))
 (.seq
 (.reg [⟨(some 34), none, (.mv (.t 13))⟩,
   ⟨(some 35), none, (.mv (.t 2))⟩,
   ⟨(some 36), none, (.ixSlice 3 (.t 34) (.t 35))⟩,
   ⟨(some 37), none, (.fieldAddr 0 1 (.t 36))⟩,
   ⟨(some 38), none, (.load1 (.t 37))⟩,
   ⟨(some 39), none, (.conv .strBytes (.t 38))⟩,
   ⟨(some 40), none, (.build [(.int .i64 0), (.slice none 0 0 none)] [(0, (1, (.c (.int .i64 1)))), (1, (1, (.t 39)))])⟩,
   ⟨(some 41), none, (.buildSlice 2 [(.int .i64 0), (.slice none 0 0 none)] 1 [(0, (2, (.t 40)))])⟩,
   ⟨(some 42), none, (.call 130 [(.c (.int .u16 48862)), (.t 41)])⟩,
   ⟨(some 33), none, (.mv (.t 42))⟩,
   ⟨(some 43), none, (.extract 0 (.t 33))⟩,
   ⟨(some 44), none, (.extract 1 (.t 33))⟩,
   ⟨(some 14), none, (.mv (.t 43))⟩,
   ⟨(some 15), none, (.mv (.t 44))⟩])
 (.seq
 (.reg [⟨(some 45), none, (.mv (.t 5))⟩,
   ⟨(some 46), none, (.mn [(.t 45), (.c (.int .i64 1000))])⟩,
   ⟨(some 47), none, (.mx [(.c (.int .i64 1)), (.t 46)])⟩,
   ⟨(some 48), none, (.mkSlice 1 1 [(.int .u8 0)] (.t 47) (.t 47))⟩,
   ⟨(some 16), none, (.mv (.t 48))⟩])
 (.seq
 (.seq
 (.reg [⟨(some 49), none, (.mv (.t 4))⟩])
 (.cond (.t 49)
 (.reg [⟨(some 50), none, (.mv (.t 16))⟩,
   ⟨(some 51), none, (.ixSlice 1 (.t 50) (.c (.int .i64 0)))⟩,
   ⟨none, none, (.store 1 (.t 51) (.c (.int .u8 1)))⟩]) .skip))
 (.seq
 (.reg [⟨(some 53), none, (.mv (.t 3))⟩,
   ⟨(some 54), none, (.mv (.t 3))⟩,
   ⟨(some 55), none, (.conv (.int .u32) (.t 54))⟩,
   ⟨(some 56), none, (.bin .mul .num (.c (.int .u32 90)) (.t 55))⟩,
   ⟨(some 57), none, (.mv (.t 13))⟩,
   ⟨(some 58), none, (.mv (.t 2))⟩,
   ⟨(some 59), none, (.ixSlice 3 (.t 57) (.t 58))⟩,
   ⟨(some 60), none, (.fieldAddr 1 1 (.t 59))⟩,
   ⟨(some 61), none, (.load1 (.t 60))⟩,
   ⟨(some 62), none, (.mv (.t 14))⟩,
   ⟨(some 63), none, (.mv (.t 16))⟩,
   ⟨(some 64), none, (.build [(.bool false), (.int .i64 0), (.int .u16 0), (.int .u32 0), (.int .u32 0), (.slice none 0 0 none), (.int .u16 0), (.slice none 0 0 none), (.slice none 0 0 none)] [(1, (1, (.c (.int .i64 96)))), (2, (1, (.t 53))), (3, (1, (.t 56))), (4, (1, (.t 61))), (6, (1, (.c (.int .u16 48862)))), (7, (1, (.t 62))), (8, (1, (.t 63)))])⟩,
   ⟨(some 65), none, (.call 93 [(.t 64)])⟩,
   ⟨(some 52), none, (.mv (.t 65))⟩,
   ⟨(some 66), none, (.extract 0 (.t 52))⟩,
   ⟨(some 67), none, (.extract 1 (.t 52))⟩,
   ⟨(some 17), none, (.mv (.t 66))⟩,
   ⟨(some 18), none, (.mv (.t 67))⟩])
 (.seq
 (.reg [⟨(some 68), none, (.mv (.t 0))⟩,
   ⟨(some 69), none, (.mv (.t 1))⟩,
   ⟨(some 70), none, (.mv (.t 17))⟩,
   ⟨(some 71), none, (.call 7 [(.t 68), (.t 69), (.t 70)])⟩,
   ⟨(some 12), none, (.mv (.t 71))⟩]) .ret)))))))))⟩
theorem caf64 : cFunc Tryz.prog Tryz.f64 = some af64 := by kernel_rfl
def af65_l0 : AC :=
 (.seq
 (.reg [⟨(some 12), none, (.bin .lss .num (.t 11) (.t 10))⟩])
 (.seq
 (.cond (.t 12) .skip (.exit 0))
 (.seq
 (.block 1
 (.seq
 (.reg [⟨(some 13), none, (.ixSlice 1 (.t 9) (.t 11))⟩,
   ⟨(some 14), none, (.load1 (.t 13))⟩,
   ⟨(some 5), none, (.mv (.t 14))⟩])
 (.reg [⟨(some 15), none, (.mv (.t 3))⟩,
   ⟨(some 16), none, (.mv (.t 5))⟩,
   ⟨(some 17), none, (.nilCheck (.t 16))⟩,
   ⟨(some 18), none, (.fieldAddr 5 1 (.t 17))⟩,
   ⟨(some 19), none, (.load1 (.t 18))⟩,
   ⟨(some 20), none, (.buildSlice 1 [(.int .i64 0)] 1 [(0, (1, (.t 19)))])⟩,
   ⟨(some 21), none, (.append 1 8 (.t 15) (.t 20))⟩,
   ⟨(some 3), none, (.mv (.t 21))⟩])))
 (.reg [⟨(some 22), none, (.bin .add .num (.t 11) (.c (.int .i64 1)))⟩,
   ⟨(some 11), none, (.mv (.t 22))⟩]))))
/-- (*limelight/sfu.peer).given -/
def af65 : AFunc := ⟨25, [(.tmp 2)],
 (.seq
 (.reg [⟨(some 2), none, (.mv (.c (.slice none 0 0 none)))⟩])
 (.seq
 (.reg [⟨(some 3), none, (.mv (.c (.slice none 0 0 none)))⟩])
 (.seq
 (.seq
 (.reg [⟨(some 6), none, (.mv (.t 0))⟩,
   ⟨(some 7), none, (.nilCheck (.t 6))⟩,
   ⟨(some 8), none, (.fieldAddr 4 1 (.t 7))⟩,
   ⟨(some 9), none, (.load1 (.t 8))⟩,
   ⟨(some 10), none, (.len (.t 9))⟩,
   ⟨(some 11), none, (.mv (.c (.int .i64 0)))⟩])
 (.block 0
 (.loop af65_l0)))
 (.seq
 (.reg [⟨(some 23), none, (.mv (.t 3))⟩,
   ⟨(some 24), none, (.call 69 [(.t 23)])⟩,
   ⟨(some 2), none, (.mv (.t 24))⟩]) .ret))))⟩
theorem caf65 : cFunc Tryz.prog Tryz.f65 = some af65 := by kernel_rfl
/-- slices.Clip[[]limelight/api.Rtp,limelight/api.Rtp] -/
def af66 : AFunc := ⟨9, [(.tmp 2)],
 (.seq
 (.reg [⟨(some 2), none, (.mv (.c (.slice none 0 0 none)))⟩])
 (.seq
 (.reg [⟨(some 3), none, (.mv (.t 0))⟩,
   ⟨(some 4), none, (.mv (.t 0))⟩,
   ⟨(some 5), none, (.len (.t 4))⟩,
   ⟨(some 6), none, (.mv (.t 0))⟩,
   ⟨(some 7), none, (.len (.t 6))⟩,
   ⟨(some 8), none, (.cut 9 (.t 3) none (some (.t 5)) (some (.t 7)))⟩,
   ⟨(some 2), none, (.mv (.t 8))⟩]) .ret))⟩
theorem caf66 : cFunc Tryz.prog Tryz.f66 = some af66 := by kernel_rfl
/-- (*limelight/layer.Layers).Len -/
def af67 : AFunc := ⟨8, [(.tmp 2)],
 (.seq
 (.reg [⟨(some 2), none, (.mv (.c (.int .i64 0)))⟩])
 (.seq
 (.reg [⟨(some 3), none, (.mv (.t 0))⟩,
   ⟨(some 4), none, (.nilCheck (.t 3))⟩,
   ⟨(some 5), none, (.fieldAddr 0 1 (.t 4))⟩,
   ⟨(some 6), none, (.load1 (.t 5))⟩,
   ⟨(some 7), none, (.len (.t 6))⟩,
   ⟨(some 2), none, (.mv (.t 7))⟩]) .ret))⟩
theorem caf67 : cFunc Tryz.prog Tryz.f67 = some af67 := by kernel_rfl
/-- (*limelight/layer.Layers).Resting -/
def af68 : AFunc := ⟨18, [(.tmp 4)],
 (.seq
 (.reg [⟨(some 4), none, (.mv (.c (.bool false)))⟩])
 (.seq
 (.reg [⟨(some 5), none, (.mv (.t 0))⟩,
   ⟨(some 6), none, (.mv (.t 1))⟩,
   ⟨(some 7), none, (.call 87 [(.t 5), (.t 6)])⟩,
   ⟨(some 8), none, (.mv (.t 7))⟩,
   ⟨(some 9), (some (8, true)), (.mv (.t 0))⟩,
   ⟨(some 10), (some (8, true)), (.nilCheck (.t 9))⟩,
   ⟨(some 11), (some (8, true)), (.fieldAddr 0 1 (.t 10))⟩,
   ⟨(some 12), (some (8, true)), (.load1 (.t 11))⟩,
   ⟨(some 13), (some (8, true)), (.mv (.t 1))⟩,
   ⟨(some 14), (some (8, true)), (.ixSlice 10 (.t 12) (.t 13))⟩,
   ⟨(some 15), (some (8, true)), (.fieldAddr 7 1 (.t 14))⟩,
   ⟨(some 16), (some (8, true)), (.load1 (.t 15))⟩,
   ⟨(some 17), none, (.pick (.t 8) (.t 16) (.c (.bool false)))⟩,
   ⟨(some 4), none, (.mv (.t 17))⟩]) .ret))⟩
theorem caf68 : cFunc Tryz.prog Tryz.f68 = some af68 := by kernel_rfl
/-- slices.Clip[[]int,int] -/
def af69 : AFunc := ⟨9, [(.tmp 2)],
 (.seq
 (.reg [⟨(some 2), none, (.mv (.c (.slice none 0 0 none)))⟩])
 (.seq
 (.reg [⟨(some 3), none, (.mv (.t 0))⟩,
   ⟨(some 4), none, (.mv (.t 0))⟩,
   ⟨(some 5), none, (.len (.t 4))⟩,
   ⟨(some 6), none, (.mv (.t 0))⟩,
   ⟨(some 7), none, (.len (.t 6))⟩,
   ⟨(some 8), none, (.cut 1 (.t 3) none (some (.t 5)) (some (.t 7)))⟩,
   ⟨(some 2), none, (.mv (.t 8))⟩]) .ret))⟩
theorem caf69 : cFunc Tryz.prog Tryz.f69 = some af69 := by kernel_rfl
def af70_l0 : AC :=
 (.seq
 (.reg [⟨(some 57), none, (.bin .lss .num (.t 56) (.t 55))⟩])
 (.seq
 (.cond (.t 57) .skip (.exit 2))
 (.seq
 (.block 3
 (.seq
 (.reg [⟨(some 58), none, (.ixSlice 3 (.t 54) (.t 56))⟩,
   ⟨(some 59), none, (.loadN 3 (.t 58))⟩,
   ⟨(some 9), none, (.alloc [(.int .i64 0), (.int .i64 0), (.int .i64 0)])⟩,
   ⟨none, none, (.store 3 (.t 9) (.t 59))⟩])
 (.seq
 (.reg [⟨(some 60), none, (.fieldAddr 0 1 (.t 1))⟩,
   ⟨(some 61), none, (.load1 (.t 60))⟩,
   ⟨(some 62), none, (.fieldAddr 0 1 (.t 9))⟩,
   ⟨(some 63), none, (.load1 (.t 62))⟩,
   ⟨(some 64), none, (.call 133 [(.t 61), (.t 63)])⟩])
 (.cond (.t 64)
 (.dreg [⟨(some 65), none, (.mv (.t 5))⟩,
   ⟨(some 66), none, (.fieldAddr 0 1 (.t 9))⟩,
   ⟨(some 67), none, (.load1 (.t 66))⟩,
   ⟨(some 68), none, (.fieldAddr 2 1 (.t 9))⟩,
   ⟨(some 69), none, (.load1 (.t 68))⟩,
   ⟨(some 70), none, (.conv (.int .u64) (.t 69))⟩,
   ⟨(some 71), none, (.fieldAddr 1 1 (.t 9))⟩,
   ⟨(some 72), none, (.load1 (.t 71))⟩,
   ⟨(some 73), none, (.call 54 [(.c (.slice none 0 0 none)), (.t 70), (.t 72)])⟩,
   ⟨(some 74), none, (.call 132 [(.t 65), (.t 67), (.t 73)])⟩,
   ⟨(some 5), none, (.mv (.t 74))⟩] [(2, 9)]) .skip))))
 (.reg [⟨(some 75), none, (.bin .add .num (.t 56) (.c (.int .i64 1)))⟩,
   ⟨(some 56), none, (.mv (.t 75))⟩]))))
def af70_l1 : AC :=
 (.seq
 (.reg [⟨(some 19), none, (.bin .lss .num (.t 18) (.t 17))⟩])
 (.seq
 (.cond (.t 19) .skip (.exit 0))
 (.seq
 (.block 1
 (.seq
 (.reg [⟨(some 20), none, (.ixSlice 3 (.t 16) (.t 18))⟩,
   ⟨(some 21), none, (.loadN 3 (.t 20))⟩,
   ⟨(some 7), none, (.alloc [(.str []), (.int .u32 0), (.int .i64 0)])⟩,
   ⟨none, none, (.store 3 (.t 7) (.t 21))⟩])
 (.dreg [⟨(some 22), none, (.mv (.t 5))⟩,
   ⟨(some 23), none, (.fieldAddr 1 1 (.t 7))⟩,
   ⟨(some 24), none, (.load1 (.t 23))⟩,
   ⟨(some 25), none, (.conv (.int .u64) (.t 24))⟩,
   ⟨(some 26), none, (.call 54 [(.c (.slice none 0 0 none)), (.t 25), (.c (.int .i64 4))])⟩,
   ⟨(some 27), none, (.fieldAddr 2 1 (.t 7))⟩,
   ⟨(some 28), none, (.load1 (.t 27))⟩,
   ⟨(some 29), none, (.conv (.int .u64) (.t 28))⟩,
   ⟨(some 30), none, (.call 54 [(.t 26), (.t 29), (.c (.int .i64 2))])⟩,
   ⟨(some 31), none, (.fieldAddr 0 1 (.t 7))⟩,
   ⟨(some 32), none, (.load1 (.t 31))⟩,
   ⟨(some 33), none, (.appendS 1 (.t 30) (.t 32))⟩,
   ⟨(some 34), none, (.call 132 [(.t 22), (.c (.int .i64 2)), (.t 33)])⟩,
   ⟨(some 5), none, (.mv (.t 34))⟩] [(6, 4), (10, 4), (10, 8)])))
 (.reg [⟨(some 35), none, (.bin .add .num (.t 18) (.c (.int .i64 1)))⟩,
   ⟨(some 18), none, (.mv (.t 35))⟩]))))
/-- limelight/ctl.Bytes -/
def af70 : AFunc := ⟨87, [(.tmp 2), (.tmp 3)],
 (.seq
 (.reg [⟨(some 1), none, (.box (.t 0))⟩,
   ⟨(some 2), none, (.mv (.c (.slice none 0 0 none)))⟩,
   ⟨(some 3), none, (.mv (.c (.int .i64 0)))⟩])
 (.seq
 (.seq
 (.reg [⟨(some 10), none, (.loadN 8 (.t 1))⟩,
   ⟨(some 11), none, (.call 131 [(.t 10)])⟩,
   ⟨(some 4), none, (.mv (.t 11))⟩])
 (.seq
 (.reg [⟨(some 12), none, (.mv (.t 4))⟩,
   ⟨(some 13), none, (.bin .neq .num (.t 12) (.c (.int .i64 0)))⟩])
 (.cond (.t 13)
 (.seq
 (.reg [⟨(some 14), none, (.mv (.t 4))⟩,
   ⟨(some 2), none, (.mv (.c (.slice none 0 0 none)))⟩,
   ⟨(some 3), none, (.mv (.t 14))⟩]) .ret) .skip)))
 (.seq
 (.reg [⟨(some 5), none, (.mv (.c (.slice none 0 0 none)))⟩])
 (.seq
 (.seq
 (.reg [⟨(some 15), none, (.fieldAddr 2 1 (.t 1))⟩,
   ⟨(some 16), none, (.load1 (.t 15))⟩,
   ⟨(some 17), none, (.len (.t 16))⟩,
   ⟨(some 18), none, (.mv (.c (.int .i64 0)))⟩])
 (.block 0
 (.loop af70_l1)))
 (.seq
 (.seq
 (.reg [⟨(some 36), none, (.fieldAddr 1 1 (.t 1))⟩,
   ⟨(some 37), none, (.load1 (.t 36))⟩,
   ⟨(some 38), none, (.build [(.int .i64 0), (.int .i64 0), (.int .i64 0)] [(0, (1, (.c (.int .i64 1)))), (1, (1, (.c (.int .i64 8)))), (2, (1, (.t 37)))])⟩,
   ⟨(some 39), none, (.fieldAddr 3 1 (.t 1))⟩,
   ⟨(some 40), none, (.load1 (.t 39))⟩,
   ⟨(some 41), none, (.build [(.int .i64 0), (.int .i64 0), (.int .i64 0)] [(0, (1, (.c (.int .i64 3)))), (1, (1, (.c (.int .i64 1)))), (2, (1, (.t 40)))])⟩,
   ⟨(some 42), none, (.fieldAddr 4 1 (.t 1))⟩,
   ⟨(some 43), none, (.load1 (.t 42))⟩,
   ⟨(some 44), none, (.build [(.int .i64 0), (.int .i64 0), (.int .i64 0)] [(0, (1, (.c (.int .i64 4)))), (1, (1, (.c (.int .i64 2)))), (2, (1, (.t 43)))])⟩,
   ⟨(some 45), none, (.fieldAddr 5 1 (.t 1))⟩,
   ⟨(some 46), none, (.load1 (.t 45))⟩,
   ⟨(some 47), none, (.build [(.int .i64 0), (.int .i64 0), (.int .i64 0)] [(0, (1, (.c (.int .i64 5)))), (1, (1, (.c (.int .i64 1)))), (2, (1, (.t 46)))])⟩,
   ⟨(some 48), none, (.fieldAddr 6 1 (.t 1))⟩,
   ⟨(some 49), none, (.load1 (.t 48))⟩,
   ⟨(some 50), none, (.build [(.int .i64 0), (.int .i64 0), (.int .i64 0)] [(0, (1, (.c (.int .i64 6)))), (1, (1, (.c (.int .i64 1)))), (2, (1, (.t 49)))])⟩,
   ⟨(some 51), none, (.fieldAddr 7 1 (.t 1))⟩,
   ⟨(some 52), none, (.load1 (.t 51))⟩,
   ⟨(some 53), none, (.build [(.int .i64 0), (.int .i64 0), (.int .i64 0)] [(0, (1, (.c (.int .i64 7)))), (1, (1, (.c (.int .i64 1)))), (2, (1, (.t 52)))])⟩,
   ⟨(some 54), none, (.buildSlice 3 [(.int .i64 0), (.int .i64 0), (.int .i64 0)] 6 [(0, (3, (.t 38))), (3, (3, (.t 41))), (6, (3, (.t 44))), (9, (3, (.t 47))), (12, (3, (.t 50))), (15, (3, (.t 53)))])⟩,
   ⟨(some 55), none, (.len (.t 54))⟩,
   ⟨(some 56), none, (.mv (.c (.int .i64 0)))⟩])
 (.block 2
 (.loop af70_l0)))
 (.seq
 (.reg [⟨(some 76), none, (.fieldAddr 0 1 (.t 1))⟩,
   ⟨(some 77), none, (.load1 (.t 76))⟩,
   ⟨(some 78), none, (.conv (.int .u8) (.t 77))⟩,
   ⟨(some 79), none, (.buildSlice 1 [(.int .u8 0)] 1 [(0, (1, (.t 78)))])⟩,
   ⟨(some 80), none, (.mv (.t 5))⟩,
   ⟨(some 81), none, (.len (.t 80))⟩,
   ⟨(some 82), none, (.conv (.int .u64) (.t 81))⟩,
   ⟨(some 83), none, (.call 54 [(.t 79), (.t 82), (.c (.int .i64 2))])⟩,
   ⟨(some 84), none, (.mv (.t 5))⟩,
   ⟨(some 85), none, (.buildSlice 1 [(.slice none 0 0 none)] 2 [(0, (1, (.t 83))), (1, (1, (.t 84)))])⟩,
   ⟨(some 86), none, (.call 134 [(.t 85)])⟩,
   ⟨(some 2), none, (.mv (.t 86))⟩,
   ⟨(some 3), none, (.mv (.c (.int .i64 0)))⟩]) .ret))))))⟩
theorem caf70 : cFunc Tryz.prog Tryz.f70 = some af70 := by kernel_rfl
/-- slices.ContainsFunc[[]limelight/api.Sent,limelight/api.Sent] -/
def af71 : AFunc := ⟨9, [(.tmp 4)],
 (.seq
 (.reg [⟨(some 4), none, (.mv (.c (.bool false)))⟩])
 (.seq
 (.reg [⟨(some 5), none, (.mv (.t 0))⟩,
   ⟨(some 6), none, (.mv (.t 1))⟩,
   ⟨(some 7), none, (.call 135 [(.t 5), (.t 6)])⟩,
   ⟨(some 8), none, (.bin .geq .num (.t 7) (.c (.int .i64 0)))⟩,
   ⟨(some 4), none, (.mv (.t 8))⟩]) .ret))⟩
theorem caf71 : cFunc Tryz.prog Tryz.f71 = some af71 := by kernel_rfl
/-- (*limelight/sfu.House).Control -/
def af72 : AFunc := ⟨87, [(.tmp 6)],
 (.seq
 (.reg [⟨(some 6), none, (.mv (.c (.slice none 0 0 none)))⟩])
 (.seq
 (.reg [⟨(some 11), none, (.mv (.t 2))⟩,
   ⟨(some 12), none, (.call 74 [(.t 11)])⟩,
   ⟨(some 10), none, (.mv (.t 12))⟩,
   ⟨(some 13), none, (.extract 0 (.t 10))⟩,
   ⟨(some 14), none, (.extract 1 (.t 10))⟩,
   ⟨(some 7), none, (.alloc [(.int .i64 0), (.int .i64 0), (.slice none 0 0 none), (.int .i64 0), (.int .i64 0), (.int .i64 0), (.int .i64 0), (.int .i64 0)])⟩,
   ⟨none, none, (.store 8 (.t 7) (.t 13))⟩,
   ⟨(some 8), none, (.mv (.t 14))⟩])
 (.seq
 (.seq
 (.reg [⟨(some 15), none, (.mv (.t 8))⟩,
   ⟨(some 16), none, (.bin .eql .num (.t 15) (.c (.int .i64 0)))⟩])
 (.cond (.t 16)
 (.dreg [⟨(some 17), none, (.mv (.t 0))⟩,
   ⟨(some 18), none, (.nilCheck (.t 17))⟩,
   ⟨(some 19), none, (.fieldAddr 0 1 (.t 18))⟩,
   ⟨(some 20), none, (.load1 (.t 19))⟩,
   ⟨(some 21), none, (.mv (.t 1))⟩,
   ⟨(some 22), none, (.loadN 8 (.t 7))⟩,
   ⟨(some 23), none, (.call 136 [(.t 20), (.t 21), (.t 22)])⟩,
   ⟨(some 8), none, (.mv (.t 23))⟩] []) .skip))
 (.seq
 (.seq
 (.reg [⟨(some 24), none, (.mv (.t 8))⟩,
   ⟨(some 25), none, (.bin .neq .num (.t 24) (.c (.int .i64 0)))⟩])
 (.cond (.t 25)
 (.seq
 (.reg [⟨(some 26), none, (.mv (.t 0))⟩,
   ⟨(some 27), none, (.mv (.t 1))⟩,
   ⟨(some 28), none, (.mv (.t 8))⟩,
   ⟨(some 29), none, (.build [(.int .i64 0), (.int .i64 0), (.slice none 0 0 none), (.int .i64 0), (.int .i64 0), (.int .i64 0), (.int .i64 0), (.int .i64 0)] [(0, (1, (.c (.int .i64 10)))), (7, (1, (.t 28)))])⟩,
   ⟨(some 30), none, (.call 107 [(.t 26), (.t 27), (.t 29)])⟩])
 (.seq
 (.reg [⟨(some 31), none, (.mv (.t 0))⟩,
   ⟨(some 32), none, (.call 26 [(.t 31)])⟩,
   ⟨(some 6), none, (.mv (.t 32))⟩]) .ret)) .skip))
 (.seq
 (.seq
 (.reg [⟨(some 33), none, (.fieldAddr 0 1 (.t 7))⟩,
   ⟨(some 34), none, (.load1 (.t 33))⟩])
 (.block 0
 (.seq
 (.reg [⟨(some 36), none, (.bin .eql .num (.t 34) (.c (.int .i64 1)))⟩,
   ⟨(some 35), none, (.mv (.t 36))⟩])
 (.cond (.t 35)
 (.seq
 (.reg [⟨(some 37), none, (.fieldAddr 1 1 (.t 7))⟩,
   ⟨(some 38), none, (.load1 (.t 37))⟩,
   ⟨(some 39), none, (.call 137 [(.t 38)])⟩,
   ⟨(some 9), none, (.mv (.t 39))⟩])
 (.dreg [⟨(some 40), none, (.mv (.t 0))⟩,
   ⟨(some 41), none, (.mv (.t 1))⟩,
   ⟨(some 42), none, (.mv (.t 9))⟩,
   ⟨(some 43), none, (.mv (.t 9))⟩,
   ⟨(some 44), none, (.call 30 [(.t 43)])⟩,
   ⟨(some 45), none, (.call 138 [(.t 44), (.c (.int .i64 6000))])⟩,
   ⟨(some 46), none, (.build [(.ptr none), (.ptr none), (.ptr none), (.ptr none), (.slice none 0 0 none), (.bool false)] [(0, (1, (.t 42))), (1, (1, (.t 45)))])⟩,
   ⟨(some 47), none, (.box (.t 46))⟩,
   ⟨(some 48), none, (.nilCheck (.t 40))⟩,
   ⟨(some 49), none, (.fieldAddr 1 6 (.t 48))⟩,
   ⟨(some 50), none, (.ixArr 6 1 (.t 49) (.t 41))⟩,
   ⟨none, none, (.store 1 (.t 50) (.t 47))⟩] []))
 (.seq
 (.reg [⟨(some 52), none, (.bin .eql .num (.t 34) (.c (.int .i64 2)))⟩,
   ⟨(some 51), none, (.mv (.t 52))⟩])
 (.cond (.t 51)
 (.reg [⟨(some 53), none, (.mv (.t 0))⟩,
   ⟨(some 54), none, (.mv (.t 1))⟩,
   ⟨(some 55), none, (.call 139 [(.t 53), (.t 54)])⟩])
 (.seq
 (.reg [⟨(some 57), none, (.bin .eql .num (.t 34) (.c (.int .i64 3)))⟩,
   ⟨(some 56), none, (.mv (.t 57))⟩])
 (.cond (.t 56)
 (.reg [⟨(some 58), none, (.mv (.t 0))⟩,
   ⟨(some 59), none, (.mv (.t 1))⟩,
   ⟨(some 60), none, (.fieldAddr 2 1 (.t 7))⟩,
   ⟨(some 61), none, (.load1 (.t 60))⟩,
   ⟨(some 62), none, (.call 140 [(.t 58), (.t 59), (.t 61)])⟩])
 (.seq
 (.reg [⟨(some 64), none, (.bin .eql .num (.t 34) (.c (.int .i64 4)))⟩,
   ⟨(some 63), none, (.mv (.t 64))⟩])
 (.cond (.t 63)
 (.reg [⟨(some 65), none, (.mv (.t 0))⟩,
   ⟨(some 66), none, (.mv (.t 1))⟩,
   ⟨(some 67), none, (.loadN 8 (.t 7))⟩,
   ⟨(some 68), none, (.call 141 [(.t 65), (.t 66), (.t 67)])⟩])
 (.seq
 (.reg [⟨(some 70), none, (.bin .eql .num (.t 34) (.c (.int .i64 5)))⟩,
   ⟨(some 69), none, (.mv (.t 70))⟩])
 (.cond (.t 69)
 (.reg [⟨(some 71), none, (.mv (.t 0))⟩,
   ⟨(some 72), none, (.mv (.t 1))⟩,
   ⟨(some 73), none, (.fieldAddr 3 1 (.t 7))⟩,
   ⟨(some 74), none, (.load1 (.t 73))⟩,
   ⟨(some 75), none, (.call 142 [(.t 71), (.t 72), (.t 74)])⟩])
 (.seq
 (.seq
 (.reg [⟨(some 77), none, (.bin .eql .num (.t 34) (.c (.int .i64 6)))⟩,
   ⟨(some 76), none, (.mv (.t 77))⟩])
 (.cond (.t 76) .skip
 (.reg [⟨(some 78), none, (.bin .eql .num (.t 34) (.c (.int .i64 7)))⟩,
   ⟨(some 76), none, (.mv (.t 78))⟩])))
 (.cond (.t 76)
 (.reg [⟨(some 79), none, (.mv (.t 0))⟩,
   ⟨(some 80), none, (.mv (.t 1))⟩,
   ⟨(some 81), none, (.loadN 8 (.t 7))⟩,
   ⟨(some 82), none, (.call 143 [(.t 79), (.t 80), (.t 81)])⟩]) .skip))))))))))))))
 (.seq
 (.reg [⟨(some 83), none, (.mv (.t 0))⟩,
   ⟨(some 84), none, (.call 25 [(.t 83)])⟩])
 (.seq
 (.reg [⟨(some 85), none, (.mv (.t 0))⟩,
   ⟨(some 86), none, (.call 26 [(.t 85)])⟩,
   ⟨(some 6), none, (.mv (.t 86))⟩]) .ret)))))))⟩
theorem caf72 : cFunc Tryz.prog Tryz.f72 = some af72 := by kernel_rfl
def af74_l0 : AC :=
 (.seq
 (.seq
 (.reg [⟨(some 34), none, (.mv (.t 7))⟩,
   ⟨(some 35), none, (.bin .add .num (.t 34) (.c (.int .i64 1)))⟩,
   ⟨(some 36), none, (.mv (.t 0))⟩,
   ⟨(some 37), none, (.len (.t 36))⟩,
   ⟨(some 38), none, (.bin .lss .num (.t 35) (.t 37))⟩])
 (.cond (.t 38) .skip (.exit 0)))
 (.block 1
 (.seq
 (.reg [⟨(some 40), none, (.mv (.t 0))⟩,
   ⟨(some 41), none, (.mv (.t 7))⟩,
   ⟨(some 42), none, (.bin .add .num (.t 41) (.c (.int .i64 2)))⟩,
   ⟨(some 43), none, (.mv (.t 0))⟩,
   ⟨(some 44), none, (.mv (.t 7))⟩,
   ⟨(some 45), none, (.bin .add .num (.t 44) (.c (.int .i64 1)))⟩,
   ⟨(some 46), none, (.ixSlice 1 (.t 43) (.t 45))⟩,
   ⟨(some 47), none, (.load1 (.t 46))⟩,
   ⟨(some 48), none, (.conv (.int .i64) (.t 47))⟩,
   ⟨(some 49), none, (.call 117 [(.t 40), (.t 42), (.t 48)])⟩,
   ⟨(some 39), none, (.mv (.t 49))⟩,
   ⟨(some 50), none, (.extract 0 (.t 39))⟩,
   ⟨(some 51), none, (.extract 1 (.t 39))⟩,
   ⟨(some 8), none, (.mv (.t 50))⟩,
   ⟨(some 9), none, (.mv (.t 51))⟩])
 (.seq
 (.seq
 (.reg [⟨(some 52), none, (.mv (.t 9))⟩,
   ⟨(some 53), none, (.un .not (.t 52))⟩])
 (.cond (.t 53)
 (.seq
 (.reg [⟨(some 54), none, (.build [(.int .i64 0), (.int .i64 0), (.slice none 0 0 none), (.int .i64 0), (.int .i64 0), (.int .i64 0), (.int .i64 0), (.int .i64 0)] [])⟩,
   ⟨none, none, (.store 8 (.t 2) (.t 54))⟩,
   ⟨(some 3), none, (.mv (.c (.int .i64 12)))⟩]) .ret) .skip))
 (.seq
 (.reg [⟨(some 55), none, (.mv (.t 0))⟩,
   ⟨(some 56), none, (.mv (.t 7))⟩,
   ⟨(some 57), none, (.ixSlice 1 (.t 55) (.t 56))⟩,
   ⟨(some 58), none, (.load1 (.t 57))⟩,
   ⟨(some 59), none, (.conv (.int .i64) (.t 58))⟩,
   ⟨(some 60), none, (.mv (.t 8))⟩,
   ⟨(some 61), none, (.call 144 [(.t 6), (.t 59), (.t 60)])⟩])
 (.reg [⟨(some 62), none, (.mv (.t 7))⟩,
   ⟨(some 63), none, (.mv (.t 8))⟩,
   ⟨(some 64), none, (.len (.t 63))⟩,
   ⟨(some 65), none, (.bin .add .num (.c (.int .i64 2)) (.t 64))⟩,
   ⟨(some 66), none, (.bin .add .num (.t 62) (.t 65))⟩,
   ⟨(some 7), none, (.mv (.t 66))⟩]))))))
/-- limelight/ctl.Read -/
def af74 : AFunc := ⟨82, [(.cellN 2 8), (.tmp 3)],
 (.seq
 (.reg [⟨(some 2), none, (.alloc [(.int .i64 0), (.int .i64 0), (.slice none 0 0 none), (.int .i64 0), (.int .i64 0), (.int .i64 0), (.int .i64 0), (.int .i64 0)])⟩,
   ⟨(some 3), none, (.mv (.c (.int .i64 0)))⟩])
 (.seq
 (.reg [⟨(some 13), none, (.mv (.t 0))⟩,
   ⟨(some 14), none, (.call 56 [(.t 13), (.c (.int .i64 1)), (.c (.int .i64 2))])⟩,
   ⟨(some 12), none, (.mv (.t 14))⟩,
   ⟨(some 15), none, (.extract 0 (.t 12))⟩,
   ⟨(some 16), none, (.extract 1 (.t 12))⟩,
   ⟨(some 4), none, (.mv (.t 15))⟩,
   ⟨(some 5), none, (.mv (.t 16))⟩])
 (.seq
 (.seq
 (.reg [⟨(some 17), none, (.mv (.t 0))⟩,
   ⟨(some 18), none, (.len (.t 17))⟩,
   ⟨(some 19), none, (.bin .lss .num (.t 18) (.c (.int .i64 3)))⟩,
   ⟨(some 20), none, (.mv (.t 19))⟩,
   ⟨(some 21), (some (20, false)), (.mv (.t 0))⟩,
   ⟨(some 22), (some (20, false)), (.len (.t 21))⟩,
   ⟨(some 23), (some (20, false)), (.bin .sub .num (.t 22) (.c (.int .i64 3)))⟩,
   ⟨(some 24), (some (20, false)), (.mv (.t 4))⟩,
   ⟨(some 25), (some (20, false)), (.conv (.int .i64) (.t 24))⟩,
   ⟨(some 26), (some (20, false)), (.bin .lss .num (.t 23) (.t 25))⟩,
   ⟨(some 27), none, (.pick (.t 20) (.c (.bool true)) (.t 26))⟩])
 (.cond (.t 27)
 (.seq
 (.reg [⟨(some 28), none, (.build [(.int .i64 0), (.int .i64 0), (.slice none 0 0 none), (.int .i64 0), (.int .i64 0), (.int .i64 0), (.int .i64 0), (.int .i64 0)] [])⟩,
   ⟨none, none, (.store 8 (.t 2) (.t 28))⟩,
   ⟨(some 3), none, (.mv (.c (.int .i64 13)))⟩]) .ret) .skip))
 (.seq
 (.reg [⟨(some 29), none, (.mv (.t 0))⟩,
   ⟨(some 30), none, (.ixSlice 1 (.t 29) (.c (.int .i64 0)))⟩,
   ⟨(some 31), none, (.load1 (.t 30))⟩,
   ⟨(some 32), none, (.conv (.int .i64) (.t 31))⟩,
   ⟨(some 33), none, (.build [(.int .i64 0), (.int .i64 0), (.slice none 0 0 none), (.int .i64 0), (.int .i64 0), (.int .i64 0), (.int .i64 0), (.int .i64 0)] [(0, (1, (.t 32)))])⟩,
   ⟨(some 6), none, (.alloc [(.int .i64 0), (.int .i64 0), (.slice none 0 0 none), (.int .i64 0), (.int .i64 0), (.int .i64 0), (.int .i64 0), (.int .i64 0)])⟩,
   ⟨none, none, (.store 8 (.t 6) (.t 33))⟩])
 (.seq
 (.seq
 (.reg [⟨(some 7), none, (.mv (.c (.int .i64 3)))⟩])
 (.block 0
 (.loop af74_l0)))
 (.seq
 (.seq
 (.reg [⟨(some 68), none, (.loadN 8 (.t 6))⟩,
   ⟨(some 69), none, (.call 70 [(.t 68)])⟩,
   ⟨(some 67), none, (.mv (.t 69))⟩,
   ⟨(some 70), none, (.extract 0 (.t 67))⟩,
   ⟨(some 71), none, (.extract 1 (.t 67))⟩,
   ⟨(some 10), none, (.mv (.t 70))⟩,
   ⟨(some 11), none, (.mv (.t 71))⟩])
 (.seq
 (.reg [⟨(some 72), none, (.mv (.t 11))⟩,
   ⟨(some 73), none, (.bin .neq .num (.t 72) (.c (.int .i64 0)))⟩,
   ⟨(some 74), none, (.mv (.t 73))⟩,
   ⟨(some 75), (some (74, false)), (.mv (.t 10))⟩,
   ⟨(some 76), (some (74, false)), (.mv (.t 0))⟩,
   ⟨(some 77), (some (74, false)), (.call 145 [(.t 75), (.t 76)])⟩,
   ⟨(some 78), (some (74, false)), (.un .not (.t 77))⟩,
   ⟨(some 79), none, (.pick (.t 74) (.c (.bool true)) (.t 78))⟩])
 (.cond (.t 79)
 (.seq
 (.reg [⟨(some 80), none, (.build [(.int .i64 0), (.int .i64 0), (.slice none 0 0 none), (.int .i64 0), (.int .i64 0), (.int .i64 0), (.int .i64 0), (.int .i64 0)] [])⟩,
   ⟨none, none, (.store 8 (.t 2) (.t 80))⟩,
   ⟨(some 3), none, (.mv (.c (.int .i64 12)))⟩]) .ret) .skip)))
 (.seq
 (.reg [⟨(some 81), none, (.loadN 8 (.t 6))⟩,
   ⟨none, none, (.store 8 (.t 2) (.t 81))⟩,
   ⟨(some 3), none, (.mv (.c (.int .i64 0)))⟩]) .ret)))))))⟩
theorem caf74 : cFunc Tryz.prog Tryz.f74 = some af74 := by kernel_rfl
/-- (*limelight/limit.Limit).Tmmbr -/
def af76 : AFunc := ⟨55, [(.tmp 6)],
 (.seq
 (.reg [⟨(some 4), none, (.box (.t 1))⟩,
   ⟨(some 6), none, (.mv (.c (.bool false)))⟩])
 (.seq
 (.dreg [⟨(some 10), none, (.mv (.t 0))⟩,
   ⟨(some 11), none, (.nilCheck (.t 10))⟩,
   ⟨(some 12), none, (.fieldAddr 3 1 (.t 11))⟩,
   ⟨(some 13), none, (.load1 (.t 12))⟩,
   ⟨(some 14), none, (.loadN 3 (.t 4))⟩,
   ⟨(some 15), none, (.call 146 [(.t 13), (.t 14), (.c (.func 147 []))])⟩,
   ⟨(some 9), none, (.mv (.t 15))⟩,
   ⟨(some 16), none, (.extract 0 (.t 9))⟩,
   ⟨(some 17), none, (.extract 1 (.t 9))⟩,
   ⟨(some 7), none, (.mv (.t 16))⟩,
   ⟨(some 8), none, (.mv (.t 17))⟩] [])
 (.seq
 (.block 0
 (.seq
 (.reg [⟨(some 30), none, (.mv (.t 8))⟩,
   ⟨(some 29), none, (.mv (.t 30))⟩])
 (.cond (.t 29)
 (.dreg [⟨(some 31), none, (.mv (.t 0))⟩,
   ⟨(some 32), none, (.nilCheck (.t 31))⟩,
   ⟨(some 33), none, (.fieldAddr 3 1 (.t 32))⟩,
   ⟨(some 34), none, (.load1 (.t 33))⟩,
   ⟨(some 35), none, (.mv (.t 7))⟩,
   ⟨(some 36), none, (.loadN 3 (.t 4))⟩,
   ⟨(some 37), none, (.ixSlice 3 (.t 34) (.t 35))⟩,
   ⟨none, none, (.store 3 (.t 37) (.t 36))⟩] [])
 (.seq
 (.reg [⟨(some 39), none, (.mv (.t 0))⟩,
   ⟨(some 40), none, (.nilCheck (.t 39))⟩,
   ⟨(some 41), none, (.fieldAddr 3 1 (.t 40))⟩,
   ⟨(some 42), none, (.load1 (.t 41))⟩,
   ⟨(some 43), none, (.len (.t 42))⟩,
   ⟨(some 44), none, (.bin .geq .num (.t 43) (.c (.int .i64 6)))⟩,
   ⟨(some 38), none, (.mv (.t 44))⟩])
 (.cond (.t 38)
 (.seq
 (.reg [⟨(some 6), none, (.mv (.c (.bool false)))⟩]) .ret)
 (.dreg [⟨(some 18), none, (.mv (.t 0))⟩,
   ⟨(some 19), none, (.mv (.t 0))⟩,
   ⟨(some 20), none, (.nilCheck (.t 19))⟩,
   ⟨(some 21), none, (.fieldAddr 3 1 (.t 20))⟩,
   ⟨(some 22), none, (.load1 (.t 21))⟩,
   ⟨(some 23), none, (.mv (.t 7))⟩,
   ⟨(some 24), none, (.loadN 3 (.t 4))⟩,
   ⟨(some 25), none, (.buildSlice 3 [(.int .u32 0), (.int .u64 0), (.int .i64 0)] 1 [(0, (3, (.t 24)))])⟩,
   ⟨(some 26), none, (.call 149 [(.t 22), (.t 23), (.t 25)])⟩,
   ⟨(some 27), none, (.nilCheck (.t 18))⟩,
   ⟨(some 28), none, (.fieldAddr 3 1 (.t 27))⟩,
   ⟨none, none, (.store 1 (.t 28) (.t 26))⟩] [(4, 8)]))))))
 (.seq
 (.dreg [⟨(some 45), none, (.mv (.t 0))⟩,
   ⟨(some 46), none, (.nilCheck (.t 45))⟩,
   ⟨(some 47), none, (.fieldAddr 4 1 (.t 46))⟩,
   ⟨(some 48), none, (.load1 (.t 47))⟩,
   ⟨(some 49), none, (.fieldAddr 0 1 (.t 4))⟩,
   ⟨(some 50), none, (.load1 (.t 49))⟩,
   ⟨(some 51), none, (.conv (.int .u64) (.t 50))⟩,
   ⟨(some 52), none, (.mv (.t 2))⟩,
   ⟨(some 53), none, (.call 151 [(.t 52)])⟩,
   ⟨(some 54), none, (.call 150 [(.t 48), (.t 51), (.t 53)])⟩] [(3, 9), (5, 9)])
 (.seq
 (.reg [⟨(some 6), none, (.mv (.c (.bool true)))⟩]) .ret)))))⟩
theorem caf76 : cFunc Tryz.prog Tryz.f76 = some af76 := by kernel_rfl
/-- (*limelight/sfu.House).report -/
def af77 : AFunc := ⟨20, [],
 (.seq
 (.reg [⟨(some 5), none, (.box (.t 2))⟩])
 (.seq
 (.reg [⟨(some 9), none, (.loadN 10 (.t 5))⟩,
   ⟨(some 10), none, (.buildSlice 10 [(.int .i64 0), (.int .u32 0), (.int .u32 0), (.slice none 0 0 none), (.slice none 0 0 none), (.slice none 0 0 none), (.int .u64 0), (.int .i64 0), (.int .i64 0), (.slice none 0 0 none)] 1 [(0, (10, (.t 9)))])⟩,
   ⟨(some 11), none, (.call 27 [(.t 10)])⟩,
   ⟨(some 8), none, (.mv (.t 11))⟩,
   ⟨(some 12), none, (.extract 0 (.t 8))⟩,
   ⟨(some 13), none, (.extract 1 (.t 8))⟩,
   ⟨(some 6), none, (.mv (.t 12))⟩,
   ⟨(some 7), none, (.mv (.t 13))⟩])
 (.seq
 (.reg [⟨(some 14), none, (.mv (.t 7))⟩,
   ⟨(some 15), none, (.bin .eql .num (.t 14) (.c (.int .i64 0)))⟩])
 (.cond (.t 15)
 (.reg [⟨(some 16), none, (.mv (.t 0))⟩,
   ⟨(some 17), none, (.mv (.t 1))⟩,
   ⟨(some 18), none, (.mv (.t 6))⟩,
   ⟨(some 19), none, (.call 94 [(.t 16), (.t 17), (.t 18)])⟩]) .skip))))⟩
theorem caf77 : cFunc Tryz.prog Tryz.f77 = some af77 := by kernel_rfl
/-- (*limelight/limit.Limit).Set -/
def af78 : AFunc := ⟨8, [(.tmp 2)],
 (.seq
 (.reg [⟨(some 2), none, (.mv (.c (.slice none 0 0 none)))⟩])
 (.seq
 (.reg [⟨(some 3), none, (.mv (.t 0))⟩,
   ⟨(some 4), none, (.nilCheck (.t 3))⟩,
   ⟨(some 5), none, (.fieldAddr 3 1 (.t 4))⟩,
   ⟨(some 6), none, (.load1 (.t 5))⟩,
   ⟨(some 7), none, (.call 152 [(.t 6)])⟩,
   ⟨(some 2), none, (.mv (.t 7))⟩]) .ret))⟩
theorem caf78 : cFunc Tryz.prog Tryz.f78 = some af78 := by kernel_rfl
/-- (*limelight/sfu.House).key -/
def af80 : AFunc := ⟨24, [],
 (.reg [⟨(some 6), none, (.mv (.t 0))⟩,
   ⟨(some 7), none, (.mv (.t 1))⟩,
   ⟨(some 8), none, (.mv (.t 0))⟩,
   ⟨(some 9), none, (.mv (.t 1))⟩,
   ⟨(some 10), none, (.nilCheck (.t 8))⟩,
   ⟨(some 11), none, (.fieldAddr 1 6 (.t 10))⟩,
   ⟨(some 12), none, (.ixArr 6 1 (.t 11) (.t 9))⟩,
   ⟨(some 13), none, (.load1 (.t 12))⟩,
   ⟨(some 14), none, (.nilCheck (.t 13))⟩,
   ⟨(some 15), none, (.fieldAddr 2 1 (.t 14))⟩,
   ⟨(some 16), none, (.load1 (.t 15))⟩,
   ⟨(some 17), none, (.call 154 [(.t 16)])⟩,
   ⟨(some 18), none, (.mv (.t 2))⟩,
   ⟨(some 19), none, (.ixSlice 3 (.t 17) (.t 18))⟩,
   ⟨(some 20), none, (.fieldAddr 1 1 (.t 19))⟩,
   ⟨(some 21), none, (.load1 (.t 20))⟩,
   ⟨(some 22), none, (.build [(.int .i64 0), (.int .u32 0), (.int .u32 0), (.slice none 0 0 none), (.slice none 0 0 none), (.slice none 0 0 none), (.int .u64 0), (.int .i64 0), (.int .i64 0), (.slice none 0 0 none)] [(0, (1, (.c (.int .i64 3)))), (1, (1, (.c (.int .u32 1)))), (2, (1, (.t 21)))])⟩,
   ⟨(some 23), none, (.call 77 [(.t 6), (.t 7), (.t 22)])⟩])⟩
theorem caf80 : cFunc Tryz.prog Tryz.f80 = some af80 := by kernel_rfl
/-- (*limelight/rtp.reader).num -/
def af81 : AFunc := ⟨40, [(.tmp 4)],
 (.seq
 (.reg [⟨(some 4), none, (.mv (.c (.int .u64 0)))⟩])
 (.seq
 (.dreg [⟨(some 8), none, (.mv (.t 0))⟩,
   ⟨(some 9), none, (.nilCheck (.t 8))⟩,
   ⟨(some 10), none, (.fieldAddr 0 1 (.t 9))⟩,
   ⟨(some 11), none, (.load1 (.t 10))⟩,
   ⟨(some 12), none, (.mv (.t 0))⟩,
   ⟨(some 13), none, (.nilCheck (.t 12))⟩,
   ⟨(some 14), none, (.fieldAddr 1 1 (.t 13))⟩,
   ⟨(some 15), none, (.load1 (.t 14))⟩,
   ⟨(some 16), none, (.mv (.t 1))⟩,
   ⟨(some 17), none, (.call 56 [(.t 11), (.t 15), (.t 16)])⟩,
   ⟨(some 7), none, (.mv (.t 17))⟩,
   ⟨(some 18), none, (.extract 0 (.t 7))⟩,
   ⟨(some 19), none, (.extract 1 (.t 7))⟩,
   ⟨(some 5), none, (.mv (.t 18))⟩,
   ⟨(some 6), none, (.mv (.t 19))⟩] [])
 (.seq
 (.reg [⟨(some 20), none, (.mv (.t 0))⟩,
   ⟨(some 21), none, (.mv (.t 0))⟩,
   ⟨(some 22), none, (.nilCheck (.t 21))⟩,
   ⟨(some 23), none, (.fieldAddr 2 1 (.t 22))⟩,
   ⟨(some 24), none, (.load1 (.t 23))⟩,
   ⟨(some 25), none, (.mv (.t 24))⟩,
   ⟨(some 26), (some (25, false)), (.mv (.t 6))⟩,
   ⟨(some 27), (some (25, false)), (.un .not (.t 26))⟩,
   ⟨(some 28), none, (.pick (.t 25) (.c (.bool true)) (.t 27))⟩,
   ⟨(some 29), none, (.nilCheck (.t 20))⟩,
   ⟨(some 30), none, (.fieldAddr 2 1 (.t 29))⟩,
   ⟨none, none, (.store 1 (.t 30) (.t 28))⟩])
 (.seq
 (.reg [⟨(some 31), none, (.mv (.t 0))⟩,
   ⟨(some 32), none, (.nilCheck (.t 31))⟩,
   ⟨(some 33), none, (.fieldAddr 1 1 (.t 32))⟩,
   ⟨(some 34), none, (.load1 (.t 33))⟩,
   ⟨(some 35), none, (.mv (.t 1))⟩,
   ⟨(some 36), none, (.bin .add .num (.t 34) (.t 35))⟩,
   ⟨(some 37), none, (.nilCheck (.t 31))⟩,
   ⟨(some 38), none, (.fieldAddr 1 1 (.t 37))⟩,
   ⟨none, none, (.store 1 (.t 38) (.t 36))⟩])
 (.seq
 (.reg [⟨(some 39), none, (.mv (.t 5))⟩,
   ⟨(some 4), none, (.mv (.t 39))⟩]) .ret)))))⟩
theorem caf81 : cFunc Tryz.prog Tryz.f81 = some af81 := by kernel_rfl
/-- (*limelight/rtp.reader).cut -/
def af82 : AFunc := ⟨40, [(.tmp 4)],
 (.seq
 (.reg [⟨(some 4), none, (.mv (.c (.slice none 0 0 none)))⟩])
 (.seq
 (.dreg [⟨(some 8), none, (.mv (.t 0))⟩,
   ⟨(some 9), none, (.nilCheck (.t 8))⟩,
   ⟨(some 10), none, (.fieldAddr 0 1 (.t 9))⟩,
   ⟨(some 11), none, (.load1 (.t 10))⟩,
   ⟨(some 12), none, (.mv (.t 0))⟩,
   ⟨(some 13), none, (.nilCheck (.t 12))⟩,
   ⟨(some 14), none, (.fieldAddr 1 1 (.t 13))⟩,
   ⟨(some 15), none, (.load1 (.t 14))⟩,
   ⟨(some 16), none, (.mv (.t 1))⟩,
   ⟨(some 17), none, (.call 117 [(.t 11), (.t 15), (.t 16)])⟩,
   ⟨(some 7), none, (.mv (.t 17))⟩,
   ⟨(some 18), none, (.extract 0 (.t 7))⟩,
   ⟨(some 19), none, (.extract 1 (.t 7))⟩,
   ⟨(some 5), none, (.mv (.t 18))⟩,
   ⟨(some 6), none, (.mv (.t 19))⟩] [])
 (.seq
 (.reg [⟨(some 20), none, (.mv (.t 0))⟩,
   ⟨(some 21), none, (.mv (.t 0))⟩,
   ⟨(some 22), none, (.nilCheck (.t 21))⟩,
   ⟨(some 23), none, (.fieldAddr 2 1 (.t 22))⟩,
   ⟨(some 24), none, (.load1 (.t 23))⟩,
   ⟨(some 25), none, (.mv (.t 24))⟩,
   ⟨(some 26), (some (25, false)), (.mv (.t 6))⟩,
   ⟨(some 27), (some (25, false)), (.un .not (.t 26))⟩,
   ⟨(some 28), none, (.pick (.t 25) (.c (.bool true)) (.t 27))⟩,
   ⟨(some 29), none, (.nilCheck (.t 20))⟩,
   ⟨(some 30), none, (.fieldAddr 2 1 (.t 29))⟩,
   ⟨none, none, (.store 1 (.t 30) (.t 28))⟩])
 (.seq
 (.reg [⟨(some 31), none, (.mv (.t 0))⟩,
   ⟨(some 32), none, (.nilCheck (.t 31))⟩,
   ⟨(some 33), none, (.fieldAddr 1 1 (.t 32))⟩,
   ⟨(some 34), none, (.load1 (.t 33))⟩,
   ⟨(some 35), none, (.mv (.t 1))⟩,
   ⟨(some 36), none, (.bin .add .num (.t 34) (.t 35))⟩,
   ⟨(some 37), none, (.nilCheck (.t 31))⟩,
   ⟨(some 38), none, (.fieldAddr 1 1 (.t 37))⟩,
   ⟨none, none, (.store 1 (.t 38) (.t 36))⟩])
 (.seq
 (.reg [⟨(some 39), none, (.mv (.t 5))⟩,
   ⟨(some 4), none, (.mv (.t 39))⟩]) .ret)))))⟩
theorem caf82 : cFunc Tryz.prog Tryz.f82 = some af82 := by kernel_rfl
/-- limelight/ext.Rid -/
def af83 : AFunc := ⟨33, [(.tmp 2), (.tmp 3)],
 (.seq
 (.reg [⟨(some 1), none, (.box (.t 0))⟩,
   ⟨(some 2), none, (.mv (.c (.str [])))⟩,
   ⟨(some 3), none, (.mv (.c (.bool false)))⟩])
 (.seq
 (.reg [⟨(some 9), none, (.fieldAddr 6 1 (.t 1))⟩,
   ⟨(some 10), none, (.load1 (.t 9))⟩,
   ⟨(some 11), none, (.fieldAddr 7 1 (.t 1))⟩,
   ⟨(some 12), none, (.load1 (.t 11))⟩,
   ⟨(some 13), none, (.call 155 [(.t 10), (.t 12)])⟩,
   ⟨(some 8), none, (.mv (.t 13))⟩,
   ⟨(some 14), none, (.extract 0 (.t 8))⟩,
   ⟨(some 15), none, (.extract 1 (.t 8))⟩,
   ⟨(some 4), none, (.mv (.t 14))⟩,
   ⟨(some 5), none, (.mv (.t 15))⟩])
 (.seq
 (.seq
 (.reg [⟨(some 16), none, (.mv (.t 5))⟩,
   ⟨(some 17), none, (.bin .neq .num (.t 16) (.c (.int .i64 0)))⟩])
 (.cond (.t 17)
 (.seq
 (.reg [⟨(some 2), none, (.mv (.c (.str [])))⟩,
   ⟨(some 3), none, (.mv (.c (.bool false)))⟩]) .ret) .skip))
 (.seq
 (.reg [⟨(some 19), none, (.mv (.t 4))⟩,
   ⟨(some 20), none, (.call 156 [(.t 19), (.c (.int .i64 1))])⟩,
   ⟨(some 18), none, (.mv (.t 20))⟩,
   ⟨(some 21), none, (.extract 0 (.t 18))⟩,
   ⟨(some 22), none, (.extract 1 (.t 18))⟩,
   ⟨(some 6), none, (.mv (.t 21))⟩,
   ⟨(some 7), none, (.mv (.t 22))⟩])
 (.seq
 (.seq
 (.reg [⟨(some 23), none, (.mv (.t 7))⟩,
   ⟨(some 24), none, (.un .not (.t 23))⟩,
   ⟨(some 25), none, (.mv (.t 24))⟩,
   ⟨(some 26), (some (25, false)), (.mv (.t 6))⟩,
   ⟨(some 27), (some (25, false)), (.conv .bytesStr (.t 26))⟩,
   ⟨(some 28), (some (25, false)), (.call 157 [(.t 27)])⟩,
   ⟨(some 29), (some (25, false)), (.un .not (.t 28))⟩,
   ⟨(some 30), none, (.pick (.t 25) (.c (.bool true)) (.t 29))⟩])
 (.cond (.t 30)
 (.seq
 (.reg [⟨(some 2), none, (.mv (.c (.str [])))⟩,
   ⟨(some 3), none, (.mv (.c (.bool false)))⟩]) .ret) .skip))
 (.seq
 (.reg [⟨(some 31), none, (.mv (.t 6))⟩,
   ⟨(some 32), none, (.conv .bytesStr (.t 31))⟩,
   ⟨(some 2), none, (.mv (.t 32))⟩,
   ⟨(some 3), none, (.mv (.c (.bool true)))⟩]) .ret))))))⟩
theorem caf83 : cFunc Tryz.prog Tryz.f83 = some af83 := by kernel_rfl
def af84_l0 : AC :=
 (.seq
 (.reg [⟨(some 9), none, (.bin .lss .num (.t 8) (.t 7))⟩])
 (.seq
 (.cond (.t 9) .skip (.exit 0))
 (.seq
 (.block 1
 (.seq
 (.reg [⟨(some 10), none, (.mv (.t 8))⟩,
   ⟨(some 5), none, (.mv (.t 10))⟩])
 (.seq
 (.reg [⟨(some 11), none, (.mv (.t 1))⟩,
   ⟨(some 12), none, (.mv (.t 0))⟩,
   ⟨(some 13), none, (.mv (.t 5))⟩,
   ⟨(some 14), none, (.ixSlice 10 (.t 12) (.t 13))⟩,
   ⟨(some 15), none, (.loadN 10 (.t 14))⟩,
   ⟨(some 16), none, (.callV (.t 11) [(.t 15)])⟩])
 (.cond (.t 16)
 (.seq
 (.reg [⟨(some 17), none, (.mv (.t 5))⟩,
   ⟨(some 4), none, (.mv (.t 17))⟩]) .ret) .skip))))
 (.reg [⟨(some 18), none, (.bin .add .num (.t 8) (.c (.int .i64 1)))⟩,
   ⟨(some 8), none, (.mv (.t 18))⟩]))))
/-- slices.IndexFunc[[]limelight/layer.one,limelight/layer.one] -/
def af84 : AFunc := ⟨19, [(.tmp 4)],
 (.seq
 (.reg [⟨(some 4), none, (.mv (.c (.int .i64 0)))⟩])
 (.seq
 (.seq
 (.reg [⟨(some 6), none, (.mv (.t 0))⟩,
   ⟨(some 7), none, (.len (.t 6))⟩,
   ⟨(some 8), none, (.mv (.c (.int .i64 0)))⟩])
 (.block 0
 (.loop af84_l0)))
 (.seq
 (.reg [⟨(some 4), none, (.mv (.c (.int .i64 (-1))))⟩]) .ret)))⟩
theorem caf84 : cFunc Tryz.prog Tryz.f84 = some af84 := by kernel_rfl
/-- (*limelight/layer.Layers).Find$1 -/
def af85 : AFunc := ⟨22, [(.tmp 5)],
 (.seq
 (.reg [⟨(some 4), none, (.box (.t 0))⟩,
   ⟨(some 5), none, (.mv (.c (.bool false)))⟩])
 (.seq
 (.reg [⟨(some 6), none, (.load1 (.t 1))⟩,
   ⟨(some 7), none, (.mv (.t 6))⟩,
   ⟨(some 8), (some (7, true)), (.fieldAddr 0 3 (.t 4))⟩,
   ⟨(some 9), (some (7, true)), (.fieldAddr 1 1 (.t 8))⟩,
   ⟨(some 10), (some (7, true)), (.load1 (.t 9))⟩,
   ⟨(some 11), (some (7, true)), (.fieldAddr 4 1 (.t 2))⟩,
   ⟨(some 12), (some (7, true)), (.load1 (.t 11))⟩,
   ⟨(some 13), (some (7, true)), (.bin .eql .num (.t 10) (.t 12))⟩,
   ⟨(some 14), none, (.pick (.t 7) (.t 13) (.c (.bool false)))⟩,
   ⟨(some 15), none, (.mv (.t 14))⟩,
   ⟨(some 16), (some (15, true)), (.fieldAddr 0 3 (.t 4))⟩,
   ⟨(some 17), (some (15, true)), (.fieldAddr 0 1 (.t 16))⟩,
   ⟨(some 18), (some (15, true)), (.load1 (.t 17))⟩,
   ⟨(some 19), (some (15, true)), (.load1 (.t 3))⟩,
   ⟨(some 20), (some (15, true)), (.call 86 [(.t 18), (.t 19)])⟩,
   ⟨(some 21), none, (.pick (.t 15) (.t 20) (.c (.bool false)))⟩,
   ⟨(some 5), none, (.mv (.t 21))⟩]) .ret))⟩
theorem caf85 : cFunc Tryz.prog Tryz.f85 = some af85 := by kernel_rfl
/-- limelight/rid.Same -/
def af86 : AFunc := ⟨10, [(.tmp 4)],
 (.seq
 (.reg [⟨(some 4), none, (.mv (.c (.bool false)))⟩])
 (.seq
 (.reg [⟨(some 5), none, (.mv (.t 0))⟩,
   ⟨(some 6), none, (.call 158 [(.t 5)])⟩,
   ⟨(some 7), none, (.mv (.t 1))⟩,
   ⟨(some 8), none, (.call 158 [(.t 7)])⟩,
   ⟨(some 9), none, (.bin .eql .str (.t 6) (.t 8))⟩,
   ⟨(some 4), none, (.mv (.t 9))⟩]) .ret))⟩
theorem caf86 : cFunc Tryz.prog Tryz.f86 = some af86 := by kernel_rfl
/-- (*limelight/layer.Layers).is -/
def af87 : AFunc := ⟨16, [(.tmp 4)],
 (.seq
 (.reg [⟨(some 4), none, (.mv (.c (.bool false)))⟩])
 (.seq
 (.reg [⟨(some 5), none, (.mv (.t 1))⟩,
   ⟨(some 6), none, (.bin .geq .num (.t 5) (.c (.int .i64 0)))⟩,
   ⟨(some 7), none, (.mv (.t 6))⟩,
   ⟨(some 8), (some (7, true)), (.mv (.t 1))⟩,
   ⟨(some 9), (some (7, true)), (.mv (.t 0))⟩,
   ⟨(some 10), (some (7, true)), (.nilCheck (.t 9))⟩,
   ⟨(some 11), (some (7, true)), (.fieldAddr 0 1 (.t 10))⟩,
   ⟨(some 12), (some (7, true)), (.load1 (.t 11))⟩,
   ⟨(some 13), (some (7, true)), (.len (.t 12))⟩,
   ⟨(some 14), (some (7, true)), (.bin .lss .num (.t 8) (.t 13))⟩,
   ⟨(some 15), none, (.pick (.t 7) (.t 14) (.c (.bool false)))⟩,
   ⟨(some 4), none, (.mv (.t 15))⟩]) .ret))⟩
theorem caf87 : cFunc Tryz.prog Tryz.f87 = some af87 := by kernel_rfl
/-- (*limelight/seq.Seen).Add -/
def af88 : AFunc := ⟨109, [(.tmp 4), (.tmp 5)],
 (.seq
 (.reg [⟨(some 4), none, (.mv (.c (.int .i64 0)))⟩,
   ⟨(some 5), none, (.mv (.c (.bool false)))⟩])
 (.seq
 (.reg [⟨(some 7), none, (.mv (.t 0))⟩,
   ⟨(some 8), none, (.nilCheck (.t 7))⟩,
   ⟨(some 9), none, (.fieldAddr 1 1 (.t 8))⟩,
   ⟨(some 10), none, (.load1 (.t 9))⟩,
   ⟨(some 11), none, (.mv (.t 1))⟩,
   ⟨(some 12), none, (.call 159 [(.t 10), (.t 11)])⟩,
   ⟨(some 6), none, (.mv (.t 12))⟩])
 (.seq
 (.block 0
 (.seq
 (.reg [⟨(some 28), none, (.mv (.t 0))⟩,
   ⟨(some 29), none, (.nilCheck (.t 28))⟩,
   ⟨(some 30), none, (.fieldAddr 1 1 (.t 29))⟩,
   ⟨(some 31), none, (.load1 (.t 30))⟩,
   ⟨(some 32), none, (.bin .lss .num (.t 31) (.c (.int .i64 0)))⟩,
   ⟨(some 27), none, (.mv (.t 32))⟩])
 (.cond (.t 27)
 (.reg [⟨(some 33), none, (.mv (.t 0))⟩,
   ⟨(some 34), none, (.mv (.t 0))⟩,
   ⟨(some 35), none, (.mv (.t 0))⟩,
   ⟨(some 36), none, (.mv (.t 6))⟩,
   ⟨(some 37), none, (.mv (.t 6))⟩,
   ⟨(some 38), none, (.nilCheck (.t 33))⟩,
   ⟨(some 39), none, (.fieldAddr 0 1 (.t 38))⟩,
   ⟨none, none, (.store 1 (.t 39) (.t 36))⟩,
   ⟨(some 40), none, (.nilCheck (.t 34))⟩,
   ⟨(some 41), none, (.fieldAddr 1 1 (.t 40))⟩,
   ⟨none, none, (.store 1 (.t 41) (.t 37))⟩,
   ⟨(some 42), none, (.nilCheck (.t 35))⟩,
   ⟨(some 43), none, (.fieldAddr 3 1 (.t 42))⟩,
   ⟨none, none, (.store 1 (.t 43) (.c (.int .u64 1)))⟩])
 (.seq
 (.reg [⟨(some 45), none, (.mv (.t 6))⟩,
   ⟨(some 46), none, (.mv (.t 0))⟩,
   ⟨(some 47), none, (.nilCheck (.t 46))⟩,
   ⟨(some 48), none, (.fieldAddr 1 1 (.t 47))⟩,
   ⟨(some 49), none, (.load1 (.t 48))⟩,
   ⟨(some 50), none, (.bin .gtr .num (.t 45) (.t 49))⟩,
   ⟨(some 44), none, (.mv (.t 50))⟩])
 (.cond (.t 44)
 (.seq
 (.dreg [⟨(some 51), none, (.mv (.t 0))⟩,
   ⟨(some 52), none, (.mv (.t 0))⟩,
   ⟨(some 53), none, (.nilCheck (.t 52))⟩,
   ⟨(some 54), none, (.fieldAddr 3 1 (.t 53))⟩,
   ⟨(some 55), none, (.load1 (.t 54))⟩,
   ⟨(some 56), none, (.mv (.t 6))⟩,
   ⟨(some 57), none, (.mv (.t 0))⟩,
   ⟨(some 58), none, (.nilCheck (.t 57))⟩,
   ⟨(some 59), none, (.fieldAddr 1 1 (.t 58))⟩,
   ⟨(some 60), none, (.load1 (.t 59))⟩,
   ⟨(some 61), none, (.bin .sub .num (.t 56) (.t 60))⟩,
   ⟨(some 62), none, (.mn [(.t 61), (.c (.int .i64 64))])⟩,
   ⟨(some 63), none, (.bin .shl .num (.t 55) (.t 62))⟩,
   ⟨(some 64), none, (.bin .or .num (.t 63) (.c (.int .u64 1)))⟩,
   ⟨(some 65), none, (.nilCheck (.t 51))⟩,
   ⟨(some 66), none, (.fieldAddr 3 1 (.t 65))⟩,
   ⟨none, none, (.store 1 (.t 66) (.t 64))⟩] [])
 (.reg [⟨(some 67), none, (.mv (.t 0))⟩,
   ⟨(some 68), none, (.mv (.t 6))⟩,
   ⟨(some 69), none, (.nilCheck (.t 67))⟩,
   ⟨(some 70), none, (.fieldAddr 1 1 (.t 69))⟩,
   ⟨none, none, (.store 1 (.t 70) (.t 68))⟩]))
 (.seq
 (.dreg [⟨(some 72), none, (.mv (.t 0))⟩,
   ⟨(some 73), none, (.nilCheck (.t 72))⟩,
   ⟨(some 74), none, (.fieldAddr 1 1 (.t 73))⟩,
   ⟨(some 75), none, (.load1 (.t 74))⟩,
   ⟨(some 76), none, (.mv (.t 6))⟩,
   ⟨(some 77), none, (.bin .sub .num (.t 75) (.t 76))⟩,
   ⟨(some 78), none, (.bin .gtr .num (.t 77) (.c (.int .i64 63)))⟩,
   ⟨(some 79), none, (.mv (.t 78))⟩,
   ⟨(some 80), (some (79, false)), (.mv (.t 0))⟩,
   ⟨(some 81), (some (79, false)), (.nilCheck (.t 80))⟩,
   ⟨(some 82), (some (79, false)), (.fieldAddr 3 1 (.t 81))⟩,
   ⟨(some 83), (some (79, false)), (.load1 (.t 82))⟩,
   ⟨(some 84), (some (79, false)), (.mv (.t 0))⟩,
   ⟨(some 85), (some (79, false)), (.nilCheck (.t 84))⟩,
   ⟨(some 86), (some (79, false)), (.fieldAddr 1 1 (.t 85))⟩,
   ⟨(some 87), (some (79, false)), (.load1 (.t 86))⟩,
   ⟨(some 88), (some (79, false)), (.mv (.t 6))⟩,
   ⟨(some 89), (some (79, false)), (.bin .sub .num (.t 87) (.t 88))⟩,
   ⟨(some 90), (some (79, false)), (.bin .shr .num (.t 83) (.t 89))⟩,
   ⟨(some 91), (some (79, false)), (.bin .and .num (.t 90) (.c (.int .u64 1)))⟩,
   ⟨(some 92), (some (79, false)), (.bin .eql .num (.t 91) (.c (.int .u64 1)))⟩,
   ⟨(some 93), none, (.pick (.t 79) (.c (.bool true)) (.t 92))⟩,
   ⟨(some 71), none, (.mv (.t 93))⟩] [])
 (.cond (.t 71)
 (.seq
 (.reg [⟨(some 94), none, (.mv (.t 6))⟩,
   ⟨(some 4), none, (.mv (.t 94))⟩,
   ⟨(some 5), none, (.mv (.c (.bool false)))⟩]) .ret)
 (.dreg [⟨(some 13), none, (.mv (.t 0))⟩,
   ⟨(some 14), none, (.nilCheck (.t 13))⟩,
   ⟨(some 15), none, (.fieldAddr 3 1 (.t 14))⟩,
   ⟨(some 16), none, (.load1 (.t 15))⟩,
   ⟨(some 17), none, (.mv (.t 0))⟩,
   ⟨(some 18), none, (.nilCheck (.t 17))⟩,
   ⟨(some 19), none, (.fieldAddr 1 1 (.t 18))⟩,
   ⟨(some 20), none, (.load1 (.t 19))⟩,
   ⟨(some 21), none, (.mv (.t 6))⟩,
   ⟨(some 22), none, (.bin .sub .num (.t 20) (.t 21))⟩,
   ⟨(some 23), none, (.bin .shl .num (.c (.int .u64 1)) (.t 22))⟩,
   ⟨(some 24), none, (.bin .or .num (.t 16) (.t 23))⟩,
   ⟨(some 25), none, (.nilCheck (.t 13))⟩,
   ⟨(some 26), none, (.fieldAddr 3 1 (.t 25))⟩,
   ⟨none, none, (.store 1 (.t 26) (.t 24))⟩] []))))))))
 (.seq
 (.seq
 (.reg [⟨(some 95), none, (.mv (.t 6))⟩,
   ⟨(some 96), none, (.mv (.t 0))⟩,
   ⟨(some 97), none, (.nilCheck (.t 96))⟩,
   ⟨(some 98), none, (.fieldAddr 0 1 (.t 97))⟩,
   ⟨(some 99), none, (.load1 (.t 98))⟩,
   ⟨(some 100), none, (.bin .geq .num (.t 95) (.t 99))⟩])
 (.cond (.t 100)
 (.reg [⟨(some 101), none, (.mv (.t 0))⟩,
   ⟨(some 102), none, (.nilCheck (.t 101))⟩,
   ⟨(some 103), none, (.fieldAddr 2 1 (.t 102))⟩,
   ⟨(some 104), none, (.load1 (.t 103))⟩,
   ⟨(some 105), none, (.bin .add .num (.t 104) (.c (.int .i64 1)))⟩,
   ⟨(some 106), none, (.nilCheck (.t 101))⟩,
   ⟨(some 107), none, (.fieldAddr 2 1 (.t 106))⟩,
   ⟨none, none, (.store 1 (.t 107) (.t 105))⟩]) .skip))
 (.seq
 (.reg [⟨(some 108), none, (.mv (.t 6))⟩,
   ⟨(some 4), none, (.mv (.t 108))⟩,
   ⟨(some 5), none, (.mv (.c (.bool true)))⟩]) .ret)))))⟩
theorem caf88 : cFunc Tryz.prog Tryz.f88 = some af88 := by kernel_rfl
def af89_l0 : AC :=
 (.seq
 (.reg [⟨(some 25), none, (.bin .lss .num (.t 24) (.t 23))⟩])
 (.seq
 (.cond (.t 25) .skip (.exit 0))
 (.seq
 (.block 1
 (.seq
 (.reg [⟨(some 26), none, (.mv (.t 24))⟩,
   ⟨(some 7), none, (.mv (.t 26))⟩])
 (.reg [⟨(some 27), none, (.mv (.t 0))⟩,
   ⟨(some 28), none, (.mv (.t 6))⟩,
   ⟨(some 29), none, (.mv (.t 7))⟩,
   ⟨(some 30), none, (.bin .sub .num (.t 28) (.t 29))⟩,
   ⟨(some 31), none, (.bin .rem .num (.t 30) (.c (.int .i64 5)))⟩,
   ⟨(some 32), none, (.nilCheck (.t 27))⟩,
   ⟨(some 33), none, (.fieldAddr 0 5 (.t 32))⟩,
   ⟨(some 34), none, (.ixArr 5 1 (.t 33) (.t 31))⟩,
   ⟨none, none, (.store 1 (.t 34) (.c (.int .i64 0)))⟩])))
 (.reg [⟨(some 35), none, (.bin .add .num (.t 24) (.c (.int .i64 1)))⟩,
   ⟨(some 24), none, (.mv (.t 35))⟩]))))
/-- (*limelight/meter.Meter).Add -/
def af89 : AFunc := ⟨64, [],
 (.seq
 (.seq
 (.reg [⟨(some 8), none, (.mv (.t 1))⟩,
   ⟨(some 9), none, (.bin .lss .num (.t 8) (.c (.int .i64 0)))⟩])
 (.cond (.t 9) .ret .skip))
 (.seq
 (.dreg [⟨(some 10), none, (.mv (.t 0))⟩,
   ⟨(some 11), none, (.nilCheck (.t 10))⟩,
   ⟨(some 12), none, (.fieldAddr 5 1 (.t 11))⟩,
   ⟨(some 13), none, (.load1 (.t 12))⟩,
   ⟨(some 14), none, (.mv (.t 2))⟩,
   ⟨(some 15), none, (.call 160 [(.t 14)])⟩,
   ⟨(some 16), none, (.mx [(.t 13), (.t 15)])⟩,
   ⟨(some 6), none, (.mv (.t 16))⟩] [(3, 6)])
 (.seq
 (.seq
 (.reg [⟨(some 17), none, (.mv (.t 6))⟩,
   ⟨(some 18), none, (.mv (.t 0))⟩,
   ⟨(some 19), none, (.nilCheck (.t 18))⟩,
   ⟨(some 20), none, (.fieldAddr 5 1 (.t 19))⟩,
   ⟨(some 21), none, (.load1 (.t 20))⟩,
   ⟨(some 22), none, (.bin .sub .num (.t 17) (.t 21))⟩,
   ⟨(some 23), none, (.mn [(.t 22), (.c (.int .i64 5))])⟩,
   ⟨(some 24), none, (.mv (.c (.int .i64 0)))⟩])
 (.block 0
 (.loop af89_l0)))
 (.seq
 (.reg [⟨(some 36), none, (.mv (.t 0))⟩,
   ⟨(some 37), none, (.mv (.t 6))⟩,
   ⟨(some 38), none, (.nilCheck (.t 36))⟩,
   ⟨(some 39), none, (.fieldAddr 5 1 (.t 38))⟩,
   ⟨none, none, (.store 1 (.t 39) (.t 37))⟩])
 (.seq
 (.dreg [⟨(some 40), none, (.mv (.t 0))⟩,
   ⟨(some 41), none, (.mv (.t 6))⟩,
   ⟨(some 42), none, (.bin .rem .num (.t 41) (.c (.int .i64 5)))⟩,
   ⟨(some 43), none, (.mv (.t 0))⟩,
   ⟨(some 44), none, (.mv (.t 6))⟩,
   ⟨(some 45), none, (.bin .rem .num (.t 44) (.c (.int .i64 5)))⟩,
   ⟨(some 46), none, (.nilCheck (.t 43))⟩,
   ⟨(some 47), none, (.fieldAddr 0 5 (.t 46))⟩,
   ⟨(some 48), none, (.ixArr 5 1 (.t 47) (.t 45))⟩,
   ⟨(some 49), none, (.load1 (.t 48))⟩,
   ⟨(some 50), none, (.mv (.t 1))⟩,
   ⟨(some 51), none, (.call 124 [(.t 49), (.t 50)])⟩,
   ⟨(some 52), none, (.nilCheck (.t 40))⟩,
   ⟨(some 53), none, (.fieldAddr 0 5 (.t 52))⟩,
   ⟨(some 54), none, (.ixArr 5 1 (.t 53) (.t 42))⟩,
   ⟨none, none, (.store 1 (.t 54) (.t 51))⟩] [])
 (.reg [⟨(some 55), none, (.mv (.t 0))⟩,
   ⟨(some 56), none, (.mv (.t 0))⟩,
   ⟨(some 57), none, (.nilCheck (.t 56))⟩,
   ⟨(some 58), none, (.fieldAddr 6 1 (.t 57))⟩,
   ⟨(some 59), none, (.load1 (.t 58))⟩,
   ⟨(some 60), none, (.mv (.t 1))⟩,
   ⟨(some 61), none, (.call 124 [(.t 59), (.t 60)])⟩,
   ⟨(some 62), none, (.nilCheck (.t 55))⟩,
   ⟨(some 63), none, (.fieldAddr 6 1 (.t 62))⟩,
   ⟨none, none, (.store 1 (.t 63) (.t 61))⟩]))))))⟩
theorem caf89 : cFunc Tryz.prog Tryz.f89 = some af89 := by kernel_rfl
/-- limelight/layer.until -/
def af90 : AFunc := ⟨9, [(.tmp 2)],
 (.seq
 (.reg [⟨(some 2), none, (.mv (.c (.int .i64 0)))⟩])
 (.seq
 (.seq
 (.reg [⟨(some 3), none, (.mv (.t 0))⟩,
   ⟨(some 4), none, (.bin .lss .num (.t 3) (.c (.int .i64 0)))⟩])
 (.cond (.t 4)
 (.seq
 (.reg [⟨(some 5), none, (.mv (.t 0))⟩,
   ⟨(some 6), none, (.bin .add .num (.t 5) (.c (.int .i64 300000)))⟩,
   ⟨(some 2), none, (.mv (.t 6))⟩]) .ret) .skip))
 (.seq
 (.reg [⟨(some 7), none, (.mv (.t 0))⟩,
   ⟨(some 8), none, (.call 124 [(.t 7), (.c (.int .i64 300000))])⟩,
   ⟨(some 2), none, (.mv (.t 8))⟩]) .ret)))⟩
theorem caf90 : cFunc Tryz.prog Tryz.f90 = some af90 := by kernel_rfl
/-- (*limelight/write.Writer).Packet -/
def af91 : AFunc := ⟨127, [(.cellN 10 9), (.tmp 11)],
 (.seq
 (.reg [⟨(some 9), none, (.box (.t 4))⟩,
   ⟨(some 10), none, (.alloc [(.bool false), (.int .i64 0), (.int .u16 0), (.int .u32 0), (.int .u32 0), (.slice none 0 0 none), (.int .u16 0), (.slice none 0 0 none), (.slice none 0 0 none)])⟩,
   ⟨(some 11), none, (.mv (.c (.bool false)))⟩])
 (.seq
 (.block 0
 (.seq
 (.reg [⟨(some 18), none, (.mv (.t 1))⟩,
   ⟨(some 19), none, (.bin .lss .num (.t 18) (.c (.int .i64 0)))⟩,
   ⟨(some 20), none, (.mv (.t 19))⟩,
   ⟨(some 21), (some (20, false)), (.mv (.t 1))⟩,
   ⟨(some 22), (some (20, false)), (.mv (.t 0))⟩,
   ⟨(some 23), (some (20, false)), (.nilCheck (.t 22))⟩,
   ⟨(some 24), (some (20, false)), (.fieldAddr 2 1 (.t 23))⟩,
   ⟨(some 25), (some (20, false)), (.load1 (.t 24))⟩,
   ⟨(some 26), (some (20, false)), (.bin .neq .num (.t 21) (.t 25))⟩,
   ⟨(some 27), none, (.pick (.t 20) (.c (.bool true)) (.t 26))⟩,
   ⟨(some 28), none, (.mv (.t 27))⟩,
   ⟨(some 29), (some (28, false)), (.mv (.t 2))⟩,
   ⟨(some 30), (some (28, false)), (.bin .lss .num (.t 29) (.c (.int .i64 0)))⟩,
   ⟨(some 31), none, (.pick (.t 28) (.c (.bool true)) (.t 30))⟩,
   ⟨(some 17), none, (.mv (.t 31))⟩])
 (.cond (.t 17)
 (.seq
 (.reg [⟨(some 32), none, (.build [(.bool false), (.int .i64 0), (.int .u16 0), (.int .u32 0), (.int .u32 0), (.slice none 0 0 none), (.int .u16 0), (.slice none 0 0 none), (.slice none 0 0 none)] [])⟩,
   ⟨none, none, (.store 9 (.t 10) (.t 32))⟩,
   ⟨(some 11), none, (.mv (.c (.bool false)))⟩]) .ret)
 (.seq
 (.reg [⟨(some 34), none, (.mv (.t 1))⟩,
   ⟨(some 35), none, (.mv (.t 0))⟩,
   ⟨(some 36), none, (.nilCheck (.t 35))⟩,
   ⟨(some 37), none, (.fieldAddr 1 1 (.t 36))⟩,
   ⟨(some 38), none, (.load1 (.t 37))⟩,
   ⟨(some 39), none, (.bin .eql .num (.t 34) (.t 38))⟩,
   ⟨(some 40), none, (.mv (.t 39))⟩,
   ⟨(some 41), (some (40, true)), (.mv (.t 2))⟩,
   ⟨(some 42), (some (40, true)), (.mv (.t 0))⟩,
   ⟨(some 43), (some (40, true)), (.nilCheck (.t 42))⟩,
   ⟨(some 44), (some (40, true)), (.fieldAddr 6 1 (.t 43))⟩,
   ⟨(some 45), (some (40, true)), (.load1 (.t 44))⟩,
   ⟨(some 46), (some (40, true)), (.bin .leq .num (.t 41) (.t 45))⟩,
   ⟨(some 47), none, (.pick (.t 40) (.t 46) (.c (.bool false)))⟩,
   ⟨(some 33), none, (.mv (.t 47))⟩])
 (.cond (.t 33)
 (.seq
 (.reg [⟨(some 48), none, (.build [(.bool false), (.int .i64 0), (.int .u16 0), (.int .u32 0), (.int .u32 0), (.slice none 0 0 none), (.int .u16 0), (.slice none 0 0 none), (.slice none 0 0 none)] [])⟩,
   ⟨none, none, (.store 9 (.t 10) (.t 48))⟩,
   ⟨(some 11), none, (.mv (.c (.bool false)))⟩]) .ret)
 (.seq
 (.reg [⟨(some 50), none, (.mv (.t 1))⟩,
   ⟨(some 51), none, (.mv (.t 0))⟩,
   ⟨(some 52), none, (.nilCheck (.t 51))⟩,
   ⟨(some 53), none, (.fieldAddr 1 1 (.t 52))⟩,
   ⟨(some 54), none, (.load1 (.t 53))⟩,
   ⟨(some 55), none, (.bin .eql .num (.t 50) (.t 54))⟩,
   ⟨(some 49), none, (.mv (.t 55))⟩])
 (.cond (.t 49)
 (.seq
 (.dreg [⟨(some 56), none, (.mv (.t 0))⟩,
   ⟨(some 57), none, (.mv (.t 0))⟩,
   ⟨(some 58), none, (.mv (.t 0))⟩,
   ⟨(some 59), none, (.nilCheck (.t 58))⟩,
   ⟨(some 60), none, (.fieldAddr 4 1 (.t 59))⟩,
   ⟨(some 61), none, (.load1 (.t 60))⟩,
   ⟨(some 62), none, (.mv (.t 2))⟩,
   ⟨(some 63), none, (.mv (.t 0))⟩,
   ⟨(some 64), none, (.nilCheck (.t 63))⟩,
   ⟨(some 65), none, (.fieldAddr 6 1 (.t 64))⟩,
   ⟨(some 66), none, (.load1 (.t 65))⟩,
   ⟨(some 67), none, (.bin .sub .num (.t 62) (.t 66))⟩,
   ⟨(some 68), none, (.call 124 [(.t 61), (.t 67)])⟩,
   ⟨(some 69), none, (.mv (.t 2))⟩,
   ⟨(some 70), none, (.nilCheck (.t 56))⟩,
   ⟨(some 71), none, (.fieldAddr 4 1 (.t 70))⟩,
   ⟨none, none, (.store 1 (.t 71) (.t 68))⟩,
   ⟨(some 72), none, (.nilCheck (.t 57))⟩,
   ⟨(some 73), none, (.fieldAddr 6 1 (.t 72))⟩,
   ⟨none, none, (.store 1 (.t 73) (.t 69))⟩] [])
 (.seq
 (.dreg [⟨(some 74), none, (.mv (.t 0))⟩,
   ⟨(some 75), none, (.mv (.t 0))⟩,
   ⟨(some 76), none, (.nilCheck (.t 75))⟩,
   ⟨(some 77), none, (.fieldAddr 7 1 (.t 76))⟩,
   ⟨(some 78), none, (.load1 (.t 77))⟩,
   ⟨(some 79), none, (.fieldAddr 3 1 (.t 9))⟩,
   ⟨(some 80), none, (.load1 (.t 79))⟩,
   ⟨(some 81), none, (.call 161 [(.t 78), (.t 80)])⟩,
   ⟨(some 82), none, (.nilCheck (.t 74))⟩,
   ⟨(some 83), none, (.fieldAddr 7 1 (.t 82))⟩,
   ⟨none, none, (.store 1 (.t 83) (.t 81))⟩] [])
 (.dreg [⟨(some 84), none, (.mv (.t 0))⟩,
   ⟨(some 85), none, (.mv (.t 0))⟩,
   ⟨(some 86), none, (.nilCheck (.t 85))⟩,
   ⟨(some 87), none, (.fieldAddr 5 1 (.t 86))⟩,
   ⟨(some 88), none, (.load1 (.t 87))⟩,
   ⟨(some 89), none, (.mv (.t 0))⟩,
   ⟨(some 90), none, (.nilCheck (.t 89))⟩,
   ⟨(some 91), none, (.fieldAddr 7 1 (.t 90))⟩,
   ⟨(some 92), none, (.load1 (.t 91))⟩,
   ⟨(some 93), none, (.mv (.t 0))⟩,
   ⟨(some 94), none, (.nilCheck (.t 93))⟩,
   ⟨(some 95), none, (.fieldAddr 8 1 (.t 94))⟩,
   ⟨(some 96), none, (.load1 (.t 95))⟩,
   ⟨(some 97), none, (.bin .add .num (.t 92) (.t 96))⟩,
   ⟨(some 98), none, (.mx [(.t 88), (.t 97)])⟩,
   ⟨(some 99), none, (.nilCheck (.t 84))⟩,
   ⟨(some 100), none, (.fieldAddr 5 1 (.t 99))⟩,
   ⟨none, none, (.store 1 (.t 100) (.t 98))⟩] [])))
 (.seq
 (.reg [⟨(some 102), none, (.mv (.t 3))⟩,
   ⟨(some 103), none, (.un .not (.t 102))⟩,
   ⟨(some 101), none, (.mv (.t 103))⟩])
 (.cond (.t 101)
 (.seq
 (.reg [⟨(some 104), none, (.build [(.bool false), (.int .i64 0), (.int .u16 0), (.int .u32 0), (.int .u32 0), (.slice none 0 0 none), (.int .u16 0), (.slice none 0 0 none), (.slice none 0 0 none)] [])⟩,
   ⟨none, none, (.store 9 (.t 10) (.t 104))⟩,
   ⟨(some 11), none, (.mv (.c (.bool false)))⟩]) .ret)
 (.reg [⟨(some 12), none, (.mv (.t 0))⟩,
   ⟨(some 13), none, (.mv (.t 1))⟩,
   ⟨(some 14), none, (.mv (.t 2))⟩,
   ⟨(some 15), none, (.loadN 9 (.t 9))⟩,
   ⟨(some 16), none, (.call 162 [(.t 12), (.t 13), (.t 14), (.t 15)])⟩]))))))))))
 (.seq
 (.dreg [⟨(some 105), none, (.fieldAddr 0 1 (.t 9))⟩,
   ⟨(some 106), none, (.load1 (.t 105))⟩,
   ⟨(some 107), none, (.fieldAddr 1 1 (.t 9))⟩,
   ⟨(some 108), none, (.load1 (.t 107))⟩,
   ⟨(some 109), none, (.mv (.t 0))⟩,
   ⟨(some 110), none, (.nilCheck (.t 109))⟩,
   ⟨(some 111), none, (.fieldAddr 4 1 (.t 110))⟩,
   ⟨(some 112), none, (.load1 (.t 111))⟩,
   ⟨(some 113), none, (.conv (.int .u16) (.t 112))⟩,
   ⟨(some 114), none, (.mv (.t 0))⟩,
   ⟨(some 115), none, (.nilCheck (.t 114))⟩,
   ⟨(some 116), none, (.fieldAddr 5 1 (.t 115))⟩,
   ⟨(some 117), none, (.load1 (.t 116))⟩,
   ⟨(some 118), none, (.conv (.int .u32) (.t 117))⟩,
   ⟨(some 119), none, (.mv (.t 0))⟩,
   ⟨(some 120), none, (.nilCheck (.t 119))⟩,
   ⟨(some 121), none, (.fieldAddr 0 1 (.t 120))⟩,
   ⟨(some 122), none, (.load1 (.t 121))⟩,
   ⟨(some 123), none, (.fieldAddr 8 1 (.t 9))⟩,
   ⟨(some 124), none, (.load1 (.t 123))⟩,
   ⟨(some 125), none, (.call 116 [(.t 124)])⟩,
   ⟨(some 126), none, (.build [(.bool false), (.int .i64 0), (.int .u16 0), (.int .u32 0), (.int .u32 0), (.slice none 0 0 none), (.int .u16 0), (.slice none 0 0 none), (.slice none 0 0 none)] [(0, (1, (.t 106))), (1, (1, (.t 108))), (2, (1, (.t 113))), (3, (1, (.t 118))), (4, (1, (.t 122))), (8, (1, (.t 125)))])⟩,
   ⟨none, none, (.store 9 (.t 10) (.t 126))⟩,
   ⟨(some 11), none, (.mv (.c (.bool true)))⟩] [(1, 21), (3, 21), (7, 21), (12, 21), (17, 21)]) .ret)))⟩
theorem caf91 : cFunc Tryz.prog Tryz.f91 = some af91 := by kernel_rfl
/-- (*limelight/layer.Layers).Key -/
def af92 : AFunc := ⟨17, [(.tmp 4)],
 (.seq
 (.reg [⟨(some 3), none, (.box (.t 1))⟩,
   ⟨(some 4), none, (.mv (.c (.bool false)))⟩])
 (.seq
 (.reg [⟨(some 5), none, (.fieldAddr 8 1 (.t 3))⟩,
   ⟨(some 6), none, (.load1 (.t 5))⟩,
   ⟨(some 7), none, (.len (.t 6))⟩,
   ⟨(some 8), none, (.bin .gtr .num (.t 7) (.c (.int .i64 0)))⟩,
   ⟨(some 9), none, (.mv (.t 8))⟩,
   ⟨(some 10), (some (9, true)), (.fieldAddr 8 1 (.t 3))⟩,
   ⟨(some 11), (some (9, true)), (.load1 (.t 10))⟩,
   ⟨(some 12), (some (9, true)), (.ixSlice 1 (.t 11) (.c (.int .i64 0)))⟩,
   ⟨(some 13), (some (9, true)), (.load1 (.t 12))⟩,
   ⟨(some 14), (some (9, true)), (.bin .and .num (.t 13) (.c (.int .u8 1)))⟩,
   ⟨(some 15), (some (9, true)), (.bin .eql .num (.t 14) (.c (.int .u8 1)))⟩,
   ⟨(some 16), none, (.pick (.t 9) (.t 15) (.c (.bool false)))⟩,
   ⟨(some 4), none, (.mv (.t 16))⟩]) .ret))⟩
theorem caf92 : cFunc Tryz.prog Tryz.f92 = some af92 := by kernel_rfl
def af93_l0 : AC :=
 (.seq
 (.reg [⟨(some 52), none, (.bin .lss .num (.t 51) (.t 50))⟩])
 (.seq
 (.cond (.t 52) .skip (.exit 0))
 (.seq
 (.block 1
 (.seq
 (.reg [⟨(some 53), none, (.ixSlice 1 (.t 49) (.t 51))⟩,
   ⟨(some 54), none, (.load1 (.t 53))⟩,
   ⟨(some 9), none, (.mv (.t 54))⟩])
 (.reg [⟨(some 55), none, (.mv (.t 7))⟩,
   ⟨(some 56), none, (.mv (.t 9))⟩,
   ⟨(some 57), none, (.conv (.int .u64) (.t 56))⟩,
   ⟨(some 58), none, (.call 54 [(.t 55), (.t 57), (.c (.int .i64 4))])⟩,
   ⟨(some 7), none, (.mv (.t 58))⟩])))
 (.reg [⟨(some 59), none, (.bin .add .num (.t 51) (.c (.int .i64 1)))⟩,
   ⟨(some 51), none, (.mv (.t 59))⟩]))))
/-- limelight/rtp.Bytes -/
def af93 : AFunc := ⟨83, [(.tmp 2), (.tmp 3)],
 (.seq
 (.reg [⟨(some 1), none, (.box (.t 0))⟩,
   ⟨(some 2), none, (.mv (.c (.slice none 0 0 none)))⟩,
   ⟨(some 3), none, (.mv (.c (.int .i64 0)))⟩])
 (.seq
 (.seq
 (.reg [⟨(some 10), none, (.loadN 9 (.t 1))⟩,
   ⟨(some 11), none, (.call 163 [(.t 10)])⟩,
   ⟨(some 4), none, (.mv (.t 11))⟩])
 (.seq
 (.reg [⟨(some 12), none, (.mv (.t 4))⟩,
   ⟨(some 13), none, (.bin .neq .num (.t 12) (.c (.int .i64 0)))⟩])
 (.cond (.t 13)
 (.seq
 (.reg [⟨(some 14), none, (.mv (.t 4))⟩,
   ⟨(some 2), none, (.mv (.c (.slice none 0 0 none)))⟩,
   ⟨(some 3), none, (.mv (.t 14))⟩]) .ret) .skip)))
 (.seq
 (.dreg [⟨(some 15), none, (.fieldAddr 5 1 (.t 1))⟩,
   ⟨(some 16), none, (.load1 (.t 15))⟩,
   ⟨(some 17), none, (.len (.t 16))⟩,
   ⟨(some 18), none, (.bin .or .num (.c (.int .i64 128)) (.t 17))⟩,
   ⟨(some 19), none, (.conv (.int .u8) (.t 18))⟩,
   ⟨(some 20), none, (.fieldAddr 1 1 (.t 1))⟩,
   ⟨(some 21), none, (.load1 (.t 20))⟩,
   ⟨(some 22), none, (.conv (.int .u8) (.t 21))⟩,
   ⟨(some 5), none, (.mv (.t 19))⟩,
   ⟨(some 6), none, (.mv (.t 22))⟩] [])
 (.seq
 (.seq
 (.reg [⟨(some 23), none, (.fieldAddr 6 1 (.t 1))⟩,
   ⟨(some 24), none, (.load1 (.t 23))⟩,
   ⟨(some 25), none, (.bin .neq .num (.t 24) (.c (.int .u16 0)))⟩])
 (.cond (.t 25)
 (.reg [⟨(some 26), none, (.mv (.t 5))⟩,
   ⟨(some 27), none, (.bin .or .num (.t 26) (.c (.int .u8 16)))⟩,
   ⟨(some 5), none, (.mv (.t 27))⟩]) .skip))
 (.seq
 (.seq
 (.reg [⟨(some 28), none, (.fieldAddr 0 1 (.t 1))⟩,
   ⟨(some 29), none, (.load1 (.t 28))⟩])
 (.cond (.t 29)
 (.reg [⟨(some 30), none, (.mv (.t 6))⟩,
   ⟨(some 31), none, (.bin .or .num (.t 30) (.c (.int .u8 128)))⟩,
   ⟨(some 6), none, (.mv (.t 31))⟩]) .skip))
 (.seq
 (.reg [⟨(some 32), none, (.mv (.t 5))⟩,
   ⟨(some 33), none, (.mv (.t 6))⟩,
   ⟨(some 34), none, (.buildSlice 1 [(.int .u8 0)] 2 [(0, (1, (.t 32))), (1, (1, (.t 33)))])⟩,
   ⟨(some 35), none, (.fieldAddr 2 1 (.t 1))⟩,
   ⟨(some 36), none, (.load1 (.t 35))⟩,
   ⟨(some 37), none, (.conv (.int .u64) (.t 36))⟩,
   ⟨(some 38), none, (.call 54 [(.t 34), (.t 37), (.c (.int .i64 2))])⟩,
   ⟨(some 7), none, (.mv (.t 38))⟩])
 (.seq
 (.dreg [⟨(some 39), none, (.mv (.t 7))⟩,
   ⟨(some 40), none, (.fieldAddr 3 1 (.t 1))⟩,
   ⟨(some 41), none, (.load1 (.t 40))⟩,
   ⟨(some 42), none, (.conv (.int .u64) (.t 41))⟩,
   ⟨(some 43), none, (.call 54 [(.t 39), (.t 42), (.c (.int .i64 4))])⟩,
   ⟨(some 44), none, (.fieldAddr 4 1 (.t 1))⟩,
   ⟨(some 45), none, (.load1 (.t 44))⟩,
   ⟨(some 46), none, (.conv (.int .u64) (.t 45))⟩,
   ⟨(some 47), none, (.call 54 [(.t 43), (.t 46), (.c (.int .i64 4))])⟩,
   ⟨(some 7), none, (.mv (.t 47))⟩] [(6, 4)])
 (.seq
 (.seq
 (.reg [⟨(some 48), none, (.fieldAddr 5 1 (.t 1))⟩,
   ⟨(some 49), none, (.load1 (.t 48))⟩,
   ⟨(some 50), none, (.len (.t 49))⟩,
   ⟨(some 51), none, (.mv (.c (.int .i64 0)))⟩])
 (.block 0
 (.loop af93_l0)))
 (.seq
 (.seq
 (.reg [⟨(some 60), none, (.fieldAddr 6 1 (.t 1))⟩,
   ⟨(some 61), none, (.load1 (.t 60))⟩,
   ⟨(some 62), none, (.bin .neq .num (.t 61) (.c (.int .u16 0)))⟩])
 (.cond (.t 62)
 (.seq
 (.dreg [⟨(some 63), none, (.mv (.t 7))⟩,
   ⟨(some 64), none, (.fieldAddr 6 1 (.t 1))⟩,
   ⟨(some 65), none, (.load1 (.t 64))⟩,
   ⟨(some 66), none, (.conv (.int .u64) (.t 65))⟩,
   ⟨(some 67), none, (.call 54 [(.t 63), (.t 66), (.c (.int .i64 2))])⟩,
   ⟨(some 68), none, (.fieldAddr 7 1 (.t 1))⟩,
   ⟨(some 69), none, (.load1 (.t 68))⟩,
   ⟨(some 70), none, (.len (.t 69))⟩,
   ⟨(some 71), none, (.bin .quo .num (.t 70) (.c (.int .i64 4)))⟩,
   ⟨(some 72), none, (.conv (.int .u64) (.t 71))⟩,
   ⟨(some 73), none, (.call 54 [(.t 67), (.t 72), (.c (.int .i64 2))])⟩,
   ⟨(some 7), none, (.mv (.t 73))⟩] [(6, 4)])
 (.reg [⟨(some 74), none, (.mv (.t 7))⟩,
   ⟨(some 75), none, (.fieldAddr 7 1 (.t 1))⟩,
   ⟨(some 76), none, (.load1 (.t 75))⟩,
   ⟨(some 77), none, (.append 1 1 (.t 74) (.t 76))⟩,
   ⟨(some 7), none, (.mv (.t 77))⟩])) .skip))
 (.seq
 (.reg [⟨(some 78), none, (.mv (.t 7))⟩,
   ⟨(some 79), none, (.fieldAddr 8 1 (.t 1))⟩,
   ⟨(some 80), none, (.load1 (.t 79))⟩,
   ⟨(some 81), none, (.buildSlice 1 [(.slice none 0 0 none)] 2 [(0, (1, (.t 78))), (1, (1, (.t 80)))])⟩,
   ⟨(some 82), none, (.call 134 [(.t 81)])⟩,
   ⟨(some 2), none, (.mv (.t 82))⟩,
   ⟨(some 3), none, (.mv (.c (.int .i64 0)))⟩]) .ret))))))))))⟩
theorem caf93 : cFunc Tryz.prog Tryz.f93 = some af93 := by kernel_rfl
/-- (*limelight/sfu.House).put -/
def af94 : AFunc := ⟨27, [(.tmp 6)],
 (.seq
 (.reg [⟨(some 6), none, (.mv (.c (.bool false)))⟩])
 (.seq
 (.seq
 (.reg [⟨(some 7), none, (.mv (.t 0))⟩,
   ⟨(some 8), none, (.mv (.t 1))⟩,
   ⟨(some 9), none, (.nilCheck (.t 7))⟩,
   ⟨(some 10), none, (.fieldAddr 1 6 (.t 9))⟩,
   ⟨(some 11), none, (.ixArr 6 1 (.t 10) (.t 8))⟩,
   ⟨(some 12), none, (.load1 (.t 11))⟩,
   ⟨(some 13), none, (.nilCheck (.t 12))⟩,
   ⟨(some 14), none, (.fieldAddr 1 1 (.t 13))⟩,
   ⟨(some 15), none, (.load1 (.t 14))⟩,
   ⟨(some 16), none, (.mv (.t 2))⟩,
   ⟨(some 17), none, (.call 164 [(.t 15), (.t 16)])⟩])
 (.cond (.t 17)
 (.seq
 (.reg [⟨(some 6), none, (.mv (.c (.bool true)))⟩]) .ret) .skip))
 (.seq
 (.reg [⟨(some 18), none, (.mv (.t 0))⟩,
   ⟨(some 19), none, (.nilCheck (.t 18))⟩,
   ⟨(some 20), none, (.fieldAddr 8 4 (.t 19))⟩,
   ⟨(some 21), none, (.fieldAddr 2 1 (.t 20))⟩,
   ⟨(some 22), none, (.load1 (.t 21))⟩,
   ⟨(some 23), none, (.bin .add .num (.t 22) (.c (.int .i64 1)))⟩,
   ⟨(some 24), none, (.nilCheck (.t 18))⟩,
   ⟨(some 25), none, (.fieldAddr 8 4 (.t 24))⟩,
   ⟨(some 26), none, (.fieldAddr 2 1 (.t 25))⟩,
   ⟨none, none, (.store 1 (.t 26) (.t 23))⟩])
 (.seq
 (.reg [⟨(some 6), none, (.mv (.c (.bool false)))⟩]) .ret))))⟩
theorem caf94 : cFunc Tryz.prog Tryz.f94 = some af94 := by kernel_rfl
def af96_l0 : AC :=
 (.seq
 (.seq
 (.reg [⟨(some 7), none, (.mv (.t 5))⟩,
   ⟨(some 8), none, (.mv (.t 0))⟩,
   ⟨(some 9), none, (.nilCheck (.t 8))⟩,
   ⟨(some 10), none, (.fieldAddr 0 1 (.t 9))⟩,
   ⟨(some 11), none, (.load1 (.t 10))⟩,
   ⟨(some 12), none, (.len (.t 11))⟩,
   ⟨(some 13), none, (.bin .lss .num (.t 7) (.t 12))⟩,
   ⟨(some 14), none, (.mv (.t 13))⟩,
   ⟨(some 15), (some (14, true)), (.mv (.t 0))⟩,
   ⟨(some 16), (some (14, true)), (.nilCheck (.t 15))⟩,
   ⟨(some 17), (some (14, true)), (.fieldAddr 0 1 (.t 16))⟩,
   ⟨(some 18), (some (14, true)), (.load1 (.t 17))⟩,
   ⟨(some 19), (some (14, true)), (.mv (.t 5))⟩,
   ⟨(some 20), (some (14, true)), (.ixSlice 2 (.t 18) (.t 19))⟩,
   ⟨(some 21), (some (14, true)), (.fieldAddr 0 1 (.t 20))⟩,
   ⟨(some 22), (some (14, true)), (.load1 (.t 21))⟩,
   ⟨(some 23), (some (14, true)), (.mv (.t 1))⟩,
   ⟨(some 24), (some (14, true)), (.bin .leq .num (.t 22) (.t 23))⟩,
   ⟨(some 25), none, (.pick (.t 14) (.t 24) (.c (.bool false)))⟩])
 (.cond (.t 25) .skip (.exit 0)))
 (.block 1
 (.reg [⟨(some 26), none, (.mv (.t 5))⟩,
   ⟨(some 27), none, (.bin .add .num (.t 26) (.c (.int .i64 1)))⟩,
   ⟨(some 5), none, (.mv (.t 27))⟩])))
/-- (*limelight/alarm.Table).Due -/
def af96 : AFunc := ⟨46, [(.tmp 4)],
 (.seq
 (.reg [⟨(some 4), none, (.mv (.c (.slice none 0 0 none)))⟩])
 (.seq
 (.reg [⟨(some 5), none, (.mv (.c (.int .i64 0)))⟩])
 (.seq
 (.block 0
 (.loop af96_l0))
 (.seq
 (.reg [⟨(some 28), none, (.mv (.t 0))⟩,
   ⟨(some 29), none, (.nilCheck (.t 28))⟩,
   ⟨(some 30), none, (.fieldAddr 0 1 (.t 29))⟩,
   ⟨(some 31), none, (.load1 (.t 30))⟩,
   ⟨(some 32), none, (.mv (.t 5))⟩,
   ⟨(some 33), none, (.cut 2 (.t 31) none (some (.t 32)) none)⟩,
   ⟨(some 34), none, (.call 165 [(.t 33)])⟩,
   ⟨(some 6), none, (.mv (.t 34))⟩])
 (.seq
 (.reg [⟨(some 35), none, (.mv (.t 0))⟩,
   ⟨(some 36), none, (.mv (.t 0))⟩,
   ⟨(some 37), none, (.nilCheck (.t 36))⟩,
   ⟨(some 38), none, (.fieldAddr 0 1 (.t 37))⟩,
   ⟨(some 39), none, (.load1 (.t 38))⟩,
   ⟨(some 40), none, (.mv (.t 5))⟩,
   ⟨(some 41), none, (.cut 2 (.t 39) (some (.t 40)) none none)⟩,
   ⟨(some 42), none, (.call 165 [(.t 41)])⟩,
   ⟨(some 43), none, (.nilCheck (.t 35))⟩,
   ⟨(some 44), none, (.fieldAddr 0 1 (.t 43))⟩,
   ⟨none, none, (.store 1 (.t 44) (.t 42))⟩])
 (.seq
 (.reg [⟨(some 45), none, (.mv (.t 6))⟩,
   ⟨(some 4), none, (.mv (.t 45))⟩]) .ret))))))⟩
theorem caf96 : cFunc Tryz.prog Tryz.f96 = some af96 := by kernel_rfl
def af97_l0 : AC :=
 (.seq
 (.seq
 (.reg [⟨(some 16), none, (.mv (.t 6))⟩,
   ⟨(some 17), none, (.mv (.t 0))⟩,
   ⟨(some 18), none, (.len (.t 17))⟩,
   ⟨(some 19), none, (.bin .lss .num (.t 16) (.t 18))⟩])
 (.cond (.t 19) .skip (.exit 0)))
 (.seq
 (.block 1
 (.seq
 (.reg [⟨(some 22), none, (.mv (.t 0))⟩,
   ⟨(some 23), none, (.mv (.t 6))⟩,
   ⟨(some 24), none, (.ixSlice 3 (.t 22) (.t 23))⟩,
   ⟨(some 25), none, (.loadN 3 (.t 24))⟩,
   ⟨(some 7), none, (.alloc [(.int .u32 0), (.int .u64 0), (.int .i64 0)])⟩,
   ⟨none, none, (.store 3 (.t 7) (.t 25))⟩])
 (.seq
 (.reg [⟨(some 26), none, (.mv (.t 1))⟩,
   ⟨(some 27), none, (.loadN 3 (.t 7))⟩,
   ⟨(some 28), none, (.callV (.t 26) [(.t 27)])⟩,
   ⟨(some 29), none, (.un .not (.t 28))⟩])
 (.cond (.t 29)
 (.seq
 (.reg [⟨(some 30), none, (.mv (.t 0))⟩,
   ⟨(some 31), none, (.mv (.t 5))⟩,
   ⟨(some 32), none, (.loadN 3 (.t 7))⟩,
   ⟨(some 33), none, (.ixSlice 3 (.t 30) (.t 31))⟩,
   ⟨none, none, (.store 3 (.t 33) (.t 32))⟩])
 (.reg [⟨(some 34), none, (.mv (.t 5))⟩,
   ⟨(some 35), none, (.bin .add .num (.t 34) (.c (.int .i64 1)))⟩,
   ⟨(some 5), none, (.mv (.t 35))⟩])) .skip))))
 (.reg [⟨(some 20), none, (.mv (.t 6))⟩,
   ⟨(some 21), none, (.bin .add .num (.t 20) (.c (.int .i64 1)))⟩,
   ⟨(some 6), none, (.mv (.t 21))⟩])))
/-- slices.DeleteFunc[[]limelight/api.Tuple,limelight/api.Tuple] -/
def af97 : AFunc := ⟨42, [(.tmp 4)],
 (.seq
 (.reg [⟨(some 4), none, (.mv (.c (.slice none 0 0 none)))⟩])
 (.seq
 (.reg [⟨(some 8), none, (.mv (.t 0))⟩,
   ⟨(some 9), none, (.mv (.t 1))⟩,
   ⟨(some 10), none, (.call 166 [(.t 8), (.t 9)])⟩,
   ⟨(some 5), none, (.mv (.t 10))⟩])
 (.seq
 (.seq
 (.reg [⟨(some 11), none, (.mv (.t 5))⟩,
   ⟨(some 12), none, (.bin .eql .num (.t 11) (.c (.int .i64 (-1))))⟩])
 (.cond (.t 12)
 (.seq
 (.reg [⟨(some 13), none, (.mv (.t 0))⟩,
   ⟨(some 4), none, (.mv (.t 13))⟩]) .ret) .skip))
 (.seq
 (.seq
 (.reg [⟨(some 14), none, (.mv (.t 5))⟩,
   ⟨(some 15), none, (.bin .add .num (.t 14) (.c (.int .i64 1)))⟩,
   ⟨(some 6), none, (.mv (.t 15))⟩])
 (.block 0
 (.loop af97_l0)))
 (.seq
 (.reg [⟨(some 36), none, (.mv (.t 0))⟩,
   ⟨(some 37), none, (.mv (.t 5))⟩,
   ⟨(some 38), none, (.cut 3 (.t 36) (some (.t 37)) none none)⟩,
   ⟨none, none, (.clr 3 [(.int .u32 0), (.int .u64 0), (.int .i64 0)] (.t 38))⟩])
 (.seq
 (.reg [⟨(some 39), none, (.mv (.t 0))⟩,
   ⟨(some 40), none, (.mv (.t 5))⟩,
   ⟨(some 41), none, (.cut 3 (.t 39) none (some (.t 40)) none)⟩,
   ⟨(some 4), none, (.mv (.t 41))⟩]) .ret))))))⟩
theorem caf97 : cFunc Tryz.prog Tryz.f97 = some af97 := by kernel_rfl
/-- (*limelight/limit.Limit).Tick$1 -/
def af98 : AFunc := ⟨10, [(.tmp 3)],
 (.seq
 (.reg [⟨(some 2), none, (.box (.t 0))⟩,
   ⟨(some 3), none, (.mv (.c (.bool false)))⟩])
 (.seq
 (.reg [⟨(some 4), none, (.fieldAddr 0 1 (.t 2))⟩,
   ⟨(some 5), none, (.load1 (.t 4))⟩,
   ⟨(some 6), none, (.conv (.int .u64) (.t 5))⟩,
   ⟨(some 7), none, (.fieldAddr 1 1 (.t 1))⟩,
   ⟨(some 8), none, (.load1 (.t 7))⟩,
   ⟨(some 9), none, (.bin .eql .num (.t 6) (.t 8))⟩,
   ⟨(some 3), none, (.mv (.t 9))⟩]) .ret))⟩
theorem caf98 : cFunc Tryz.prog Tryz.f98 = some af98 := by kernel_rfl
/-- (*limelight/bucket.Bucket).Rate -/
def af99 : AFunc := ⟨9, [],
 (.reg [⟨(some 4), none, (.mv (.t 0))⟩,
   ⟨(some 5), none, (.mv (.t 1))⟩,
   ⟨(some 6), none, (.call 167 [(.t 5)])⟩,
   ⟨(some 7), none, (.nilCheck (.t 4))⟩,
   ⟨(some 8), none, (.fieldAddr 0 1 (.t 7))⟩,
   ⟨none, none, (.store 1 (.t 8) (.t 6))⟩])⟩
theorem caf99 : cFunc Tryz.prog Tryz.f99 = some af99 := by kernel_rfl
/-- limelight/alloc.Pick -/
def af100 : AFunc := ⟨34, [(.tmp 6)],
 (.seq
 (.reg [⟨(some 6), none, (.mv (.c (.slice none 0 0 none)))⟩])
 (.seq
 (.reg [⟨(some 8), none, (.mv (.t 0))⟩,
   ⟨(some 9), none, (.mv (.t 1))⟩,
   ⟨(some 10), none, (.call 168 [(.t 8), (.t 9)])⟩,
   ⟨(some 7), none, (.mv (.t 10))⟩])
 (.seq
 (.seq
 (.reg [⟨(some 11), none, (.mv (.t 0))⟩,
   ⟨(some 12), none, (.mv (.t 2))⟩,
   ⟨(some 13), none, (.mv (.t 1))⟩,
   ⟨(some 14), none, (.call 169 [(.t 11), (.t 12), (.t 13)])⟩,
   ⟨(some 15), none, (.mv (.t 14))⟩,
   ⟨(some 16), (some (15, true)), (.mv (.t 2))⟩,
   ⟨(some 17), (some (15, true)), (.mv (.t 7))⟩,
   ⟨(some 18), (some (15, true)), (.call 170 [(.t 16), (.t 17)])⟩,
   ⟨(some 19), (some (15, true)), (.un .not (.t 18))⟩,
   ⟨(some 20), none, (.pick (.t 15) (.t 19) (.c (.bool false)))⟩,
   ⟨(some 21), none, (.mv (.t 20))⟩,
   ⟨(some 22), (some (21, true)), (.mv (.t 0))⟩,
   ⟨(some 23), (some (21, true)), (.mv (.t 7))⟩,
   ⟨(some 24), (some (21, true)), (.call 171 [(.t 22), (.t 23)])⟩,
   ⟨(some 25), (some (21, true)), (.mv (.t 1))⟩,
   ⟨(some 26), (some (21, true)), (.mv (.t 1))⟩,
   ⟨(some 27), (some (21, true)), (.call 172 [(.t 26)])⟩,
   ⟨(some 28), (some (21, true)), (.bin .sub .num (.t 25) (.t 27))⟩,
   ⟨(some 29), (some (21, true)), (.bin .gtr .num (.t 24) (.t 28))⟩,
   ⟨(some 30), none, (.pick (.t 21) (.t 29) (.c (.bool false)))⟩])
 (.cond (.t 30)
 (.seq
 (.reg [⟨(some 31), none, (.mv (.t 2))⟩,
   ⟨(some 32), none, (.call 173 [(.t 31)])⟩,
   ⟨(some 6), none, (.mv (.t 32))⟩]) .ret) .skip))
 (.seq
 (.reg [⟨(some 33), none, (.mv (.t 7))⟩,
   ⟨(some 6), none, (.mv (.t 33))⟩]) .ret))))⟩
theorem caf100 : cFunc Tryz.prog Tryz.f100 = some af100 := by kernel_rfl
def af101_l0 : AC :=
 (.seq
 (.reg [⟨(some 21), none, (.bin .lss .num (.t 20) (.t 19))⟩])
 (.seq
 (.cond (.t 21) .skip (.exit 0))
 (.seq
 (.block 1
 (.seq
 (.reg [⟨(some 22), none, (.ixSlice 1 (.t 18) (.t 20))⟩,
   ⟨(some 23), none, (.load1 (.t 22))⟩,
   ⟨(some 9), none, (.mv (.t 23))⟩])
 (.dreg [⟨(some 24), none, (.mv (.t 7))⟩,
   ⟨(some 25), none, (.mv (.t 0))⟩,
   ⟨(some 26), none, (.mv (.t 9))⟩,
   ⟨(some 27), none, (.nilCheck (.t 26))⟩,
   ⟨(some 28), none, (.fieldAddr 0 1 (.t 27))⟩,
   ⟨(some 29), none, (.load1 (.t 28))⟩,
   ⟨(some 30), none, (.nilCheck (.t 25))⟩,
   ⟨(some 31), none, (.fieldAddr 1 6 (.t 30))⟩,
   ⟨(some 32), none, (.ixArr 6 1 (.t 31) (.t 29))⟩,
   ⟨(some 33), none, (.load1 (.t 32))⟩,
   ⟨(some 34), none, (.nilCheck (.t 33))⟩,
   ⟨(some 35), none, (.fieldAddr 2 1 (.t 34))⟩,
   ⟨(some 36), none, (.load1 (.t 35))⟩,
   ⟨(some 37), none, (.mv (.t 9))⟩,
   ⟨(some 38), none, (.nilCheck (.t 37))⟩,
   ⟨(some 39), none, (.fieldAddr 3 1 (.t 38))⟩,
   ⟨(some 40), none, (.load1 (.t 39))⟩,
   ⟨(some 41), none, (.mv (.t 9))⟩,
   ⟨(some 42), none, (.nilCheck (.t 41))⟩,
   ⟨(some 43), none, (.fieldAddr 4 1 (.t 42))⟩,
   ⟨(some 44), none, (.load1 (.t 43))⟩,
   ⟨(some 45), none, (.mv (.t 0))⟩,
   ⟨(some 46), none, (.nilCheck (.t 45))⟩,
   ⟨(some 47), none, (.fieldAddr 7 1 (.t 46))⟩,
   ⟨(some 48), none, (.load1 (.t 47))⟩,
   ⟨(some 49), none, (.mv (.t 2))⟩,
   ⟨(some 50), none, (.call 174 [(.t 36), (.t 40), (.t 44), (.t 48), (.t 49)])⟩,
   ⟨(some 51), none, (.buildSlice 3 [(.int .i64 0), (.slice none 0 0 none), (.slice none 0 0 none)] 1 [(0, (3, (.t 50)))])⟩,
   ⟨(some 52), none, (.append 3 56 (.t 24) (.t 51))⟩,
   ⟨(some 7), none, (.mv (.t 52))⟩] [])))
 (.reg [⟨(some 53), none, (.bin .add .num (.t 20) (.c (.int .i64 1)))⟩,
   ⟨(some 20), none, (.mv (.t 53))⟩]))))
/-- (*limelight/sfu.House).choices -/
def af101 : AFunc := ⟨55, [(.tmp 6)],
 (.seq
 (.reg [⟨(some 6), none, (.mv (.c (.slice none 0 0 none)))⟩])
 (.seq
 (.reg [⟨(some 7), none, (.mv (.c (.slice none 0 0 none)))⟩])
 (.seq
 (.seq
 (.reg [⟨(some 10), none, (.mv (.t 0))⟩,
   ⟨(some 11), none, (.mv (.t 1))⟩,
   ⟨(some 12), none, (.nilCheck (.t 10))⟩,
   ⟨(some 13), none, (.fieldAddr 1 6 (.t 12))⟩,
   ⟨(some 14), none, (.ixArr 6 1 (.t 13) (.t 11))⟩,
   ⟨(some 15), none, (.load1 (.t 14))⟩,
   ⟨(some 16), none, (.nilCheck (.t 15))⟩,
   ⟨(some 17), none, (.fieldAddr 4 1 (.t 16))⟩,
   ⟨(some 18), none, (.load1 (.t 17))⟩,
   ⟨(some 19), none, (.len (.t 18))⟩,
   ⟨(some 20), none, (.mv (.c (.int .i64 0)))⟩])
 (.block 0
 (.loop af101_l0)))
 (.seq
 (.reg [⟨(some 54), none, (.mv (.t 7))⟩,
   ⟨(some 6), none, (.mv (.t 54))⟩]) .ret))))⟩
theorem caf101 : cFunc Tryz.prog Tryz.f101 = some af101 := by kernel_rfl
/-- (*limelight/sfu.peer).budget -/
def af102 : AFunc := ⟨9, [(.tmp 2)],
 (.seq
 (.reg [⟨(some 2), none, (.mv (.c (.int .i64 0)))⟩])
 (.seq
 (.reg [⟨(some 3), none, (.mv (.t 0))⟩,
   ⟨(some 4), none, (.nilCheck (.t 3))⟩,
   ⟨(some 5), none, (.fieldAddr 0 1 (.t 4))⟩,
   ⟨(some 6), none, (.load1 (.t 5))⟩,
   ⟨(some 7), none, (.call 30 [(.t 6)])⟩,
   ⟨(some 8), none, (.call 175 [(.t 7)])⟩,
   ⟨(some 2), none, (.mv (.t 8))⟩]) .ret))⟩
theorem caf102 : cFunc Tryz.prog Tryz.f102 = some af102 := by kernel_rfl
/-- (*limelight/write.Writer).Want -/
def af103 : AFunc := ⟨32, [(.tmp 4)],
 (.seq
 (.reg [⟨(some 4), none, (.mv (.c (.bool false)))⟩])
 (.seq
 (.reg [⟨(some 6), none, (.mv (.t 1))⟩,
   ⟨(some 7), none, (.mx [(.c (.int .i64 (-1))), (.t 6)])⟩,
   ⟨(some 1), none, (.mv (.t 7))⟩])
 (.seq
 (.reg [⟨(some 8), none, (.mv (.t 1))⟩,
   ⟨(some 9), none, (.mv (.t 0))⟩,
   ⟨(some 10), none, (.nilCheck (.t 9))⟩,
   ⟨(some 11), none, (.fieldAddr 2 1 (.t 10))⟩,
   ⟨(some 12), none, (.load1 (.t 11))⟩,
   ⟨(some 13), none, (.bin .neq .num (.t 8) (.t 12))⟩,
   ⟨(some 5), none, (.mv (.t 13))⟩])
 (.seq
 (.reg [⟨(some 14), none, (.mv (.t 0))⟩,
   ⟨(some 15), none, (.mv (.t 1))⟩,
   ⟨(some 16), none, (.nilCheck (.t 14))⟩,
   ⟨(some 17), none, (.fieldAddr 2 1 (.t 16))⟩,
   ⟨none, none, (.store 1 (.t 17) (.t 15))⟩])
 (.seq
 (.seq
 (.reg [⟨(some 18), none, (.mv (.t 0))⟩,
   ⟨(some 19), none, (.nilCheck (.t 18))⟩,
   ⟨(some 20), none, (.fieldAddr 1 1 (.t 19))⟩,
   ⟨(some 21), none, (.load1 (.t 20))⟩,
   ⟨(some 22), none, (.mv (.t 1))⟩,
   ⟨(some 23), none, (.bin .neq .num (.t 21) (.t 22))⟩])
 (.cond (.t 23)
 (.reg [⟨(some 24), none, (.mv (.t 0))⟩,
   ⟨(some 25), none, (.nilCheck (.t 24))⟩,
   ⟨(some 26), none, (.fieldAddr 1 1 (.t 25))⟩,
   ⟨none, none, (.store 1 (.t 26) (.c (.int .i64 (-1))))⟩]) .skip))
 (.seq
 (.reg [⟨(some 27), none, (.mv (.t 5))⟩,
   ⟨(some 28), none, (.mv (.t 27))⟩,
   ⟨(some 29), (some (28, true)), (.mv (.t 1))⟩,
   ⟨(some 30), (some (28, true)), (.bin .geq .num (.t 29) (.c (.int .i64 0)))⟩,
   ⟨(some 31), none, (.pick (.t 28) (.t 30) (.c (.bool false)))⟩,
   ⟨(some 4), none, (.mv (.t 31))⟩]) .ret))))))⟩
theorem caf103 : cFunc Tryz.prog Tryz.f103 = some af103 := by kernel_rfl
/-- (*limelight/watch.Watch).Seen -/
def af104 : AFunc := ⟨26, [],
 (.seq
 (.reg [⟨(some 6), none, (.mv (.t 0))⟩,
   ⟨(some 7), none, (.mv (.t 1))⟩,
   ⟨(some 8), none, (.call 176 [(.t 6), (.t 7)])⟩])
 (.cond (.t 8)
 (.dreg [⟨(some 9), none, (.mv (.t 0))⟩,
   ⟨(some 10), none, (.nilCheck (.t 9))⟩,
   ⟨(some 11), none, (.fieldAddr 0 1 (.t 10))⟩,
   ⟨(some 12), none, (.load1 (.t 11))⟩,
   ⟨(some 13), none, (.mv (.t 1))⟩,
   ⟨(some 14), none, (.mv (.t 0))⟩,
   ⟨(some 15), none, (.nilCheck (.t 14))⟩,
   ⟨(some 16), none, (.fieldAddr 0 1 (.t 15))⟩,
   ⟨(some 17), none, (.load1 (.t 16))⟩,
   ⟨(some 18), none, (.mv (.t 1))⟩,
   ⟨(some 19), none, (.ixSlice 2 (.t 17) (.t 18))⟩,
   ⟨(some 20), none, (.fieldAddr 0 1 (.t 19))⟩,
   ⟨(some 21), none, (.load1 (.t 20))⟩,
   ⟨(some 22), none, (.mv (.t 2))⟩,
   ⟨(some 23), none, (.mx [(.t 21), (.t 22)])⟩,
   ⟨(some 24), none, (.ixSlice 2 (.t 12) (.t 13))⟩,
   ⟨(some 25), none, (.fieldAddr 0 1 (.t 24))⟩,
   ⟨none, none, (.store 1 (.t 25) (.t 23))⟩] []) .skip))⟩
theorem caf104 : cFunc Tryz.prog Tryz.f104 = some af104 := by kernel_rfl
/-- (*limelight/watch.Watch).Wake -/
def af105 : AFunc := ⟨33, [(.tmp 6)],
 (.seq
 (.reg [⟨(some 6), none, (.mv (.c (.bool false)))⟩])
 (.seq
 (.seq
 (.reg [⟨(some 7), none, (.mv (.t 0))⟩,
   ⟨(some 8), none, (.mv (.t 1))⟩,
   ⟨(some 9), none, (.call 176 [(.t 7), (.t 8)])⟩,
   ⟨(some 10), none, (.un .not (.t 9))⟩,
   ⟨(some 11), none, (.mv (.t 10))⟩,
   ⟨(some 12), (some (11, false)), (.mv (.t 0))⟩,
   ⟨(some 13), (some (11, false)), (.nilCheck (.t 12))⟩,
   ⟨(some 14), (some (11, false)), (.fieldAddr 0 1 (.t 13))⟩,
   ⟨(some 15), (some (11, false)), (.load1 (.t 14))⟩,
   ⟨(some 16), (some (11, false)), (.mv (.t 1))⟩,
   ⟨(some 17), (some (11, false)), (.ixSlice 2 (.t 15) (.t 16))⟩,
   ⟨(some 18), (some (11, false)), (.fieldAddr 1 1 (.t 17))⟩,
   ⟨(some 19), (some (11, false)), (.load1 (.t 18))⟩,
   ⟨(some 20), (some (11, false)), (.un .not (.t 19))⟩,
   ⟨(some 21), none, (.pick (.t 11) (.c (.bool true)) (.t 20))⟩])
 (.cond (.t 21)
 (.seq
 (.reg [⟨(some 6), none, (.mv (.c (.bool false)))⟩]) .ret) .skip))
 (.seq
 (.reg [⟨(some 22), none, (.mv (.t 0))⟩,
   ⟨(some 23), none, (.nilCheck (.t 22))⟩,
   ⟨(some 24), none, (.fieldAddr 0 1 (.t 23))⟩,
   ⟨(some 25), none, (.load1 (.t 24))⟩,
   ⟨(some 26), none, (.mv (.t 1))⟩,
   ⟨(some 27), none, (.ixSlice 2 (.t 25) (.t 26))⟩,
   ⟨(some 28), none, (.fieldAddr 1 1 (.t 27))⟩,
   ⟨none, none, (.store 1 (.t 28) (.c (.bool false)))⟩])
 (.seq
 (.reg [⟨(some 29), none, (.mv (.t 0))⟩,
   ⟨(some 30), none, (.mv (.t 1))⟩,
   ⟨(some 31), none, (.mv (.t 2))⟩,
   ⟨(some 32), none, (.call 104 [(.t 29), (.t 30), (.t 31)])⟩])
 (.seq
 (.reg [⟨(some 6), none, (.mv (.c (.bool true)))⟩]) .ret)))))⟩
theorem caf105 : cFunc Tryz.prog Tryz.f105 = some af105 := by kernel_rfl
/-- (*limelight/layer.Layers).Rest -/
def af106 : AFunc := ⟨53, [],
 (.seq
 (.seq
 (.reg [⟨(some 8), none, (.mv (.t 0))⟩,
   ⟨(some 9), none, (.mv (.t 1))⟩,
   ⟨(some 10), none, (.call 87 [(.t 8), (.t 9)])⟩,
   ⟨(some 11), none, (.un .not (.t 10))⟩,
   ⟨(some 12), none, (.mv (.t 11))⟩,
   ⟨(some 13), (some (12, false)), (.mv (.t 0))⟩,
   ⟨(some 14), (some (12, false)), (.nilCheck (.t 13))⟩,
   ⟨(some 15), (some (12, false)), (.fieldAddr 0 1 (.t 14))⟩,
   ⟨(some 16), (some (12, false)), (.load1 (.t 15))⟩,
   ⟨(some 17), (some (12, false)), (.mv (.t 1))⟩,
   ⟨(some 18), (some (12, false)), (.ixSlice 10 (.t 16) (.t 17))⟩,
   ⟨(some 19), (some (12, false)), (.fieldAddr 7 1 (.t 18))⟩,
   ⟨(some 20), (some (12, false)), (.load1 (.t 19))⟩,
   ⟨(some 21), (some (12, false)), (.mv (.t 2))⟩,
   ⟨(some 22), (some (12, false)), (.bin .eql .bool (.t 20) (.t 21))⟩,
   ⟨(some 23), none, (.pick (.t 12) (.c (.bool true)) (.t 22))⟩])
 (.cond (.t 23) .ret .skip))
 (.seq
 (.seq
 (.reg [⟨(some 24), none, (.mv (.t 2))⟩])
 (.cond (.t 24)
 (.dreg [⟨(some 25), none, (.mv (.t 0))⟩,
   ⟨(some 26), none, (.nilCheck (.t 25))⟩,
   ⟨(some 27), none, (.fieldAddr 0 1 (.t 26))⟩,
   ⟨(some 28), none, (.load1 (.t 27))⟩,
   ⟨(some 29), none, (.mv (.t 1))⟩,
   ⟨(some 30), none, (.mv (.t 0))⟩,
   ⟨(some 31), none, (.mv (.t 1))⟩,
   ⟨(some 32), none, (.mv (.t 3))⟩,
   ⟨(some 33), none, (.call 177 [(.t 30), (.t 31), (.t 32)])⟩,
   ⟨(some 34), none, (.ixSlice 10 (.t 28) (.t 29))⟩,
   ⟨(some 35), none, (.fieldAddr 9 1 (.t 34))⟩,
   ⟨none, none, (.store 1 (.t 35) (.t 33))⟩] [(3, 9)]) .skip))
 (.dreg [⟨(some 36), none, (.mv (.t 0))⟩,
   ⟨(some 37), none, (.nilCheck (.t 36))⟩,
   ⟨(some 38), none, (.fieldAddr 0 1 (.t 37))⟩,
   ⟨(some 39), none, (.load1 (.t 38))⟩,
   ⟨(some 40), none, (.mv (.t 1))⟩,
   ⟨(some 41), none, (.mv (.t 0))⟩,
   ⟨(some 42), none, (.nilCheck (.t 41))⟩,
   ⟨(some 43), none, (.fieldAddr 0 1 (.t 42))⟩,
   ⟨(some 44), none, (.load1 (.t 43))⟩,
   ⟨(some 45), none, (.mv (.t 1))⟩,
   ⟨(some 46), none, (.mv (.t 2))⟩,
   ⟨(some 47), none, (.mv (.t 2))⟩,
   ⟨(some 48), none, (.un .not (.t 47))⟩,
   ⟨(some 49), none, (.ixSlice 10 (.t 39) (.t 40))⟩,
   ⟨(some 50), none, (.fieldAddr 7 1 (.t 49))⟩,
   ⟨none, none, (.store 1 (.t 50) (.t 46))⟩,
   ⟨(some 51), none, (.ixSlice 10 (.t 44) (.t 45))⟩,
   ⟨(some 52), none, (.fieldAddr 8 1 (.t 51))⟩,
   ⟨none, none, (.store 1 (.t 52) (.t 48))⟩] [])))⟩
theorem caf106 : cFunc Tryz.prog Tryz.f106 = some af106 := by kernel_rfl
/-- (*limelight/sfu.House).control -/
def af107 : AFunc := ⟨35, [],
 (.seq
 (.reg [⟨(some 5), none, (.box (.t 2))⟩])
 (.seq
 (.reg [⟨(some 9), none, (.loadN 8 (.t 5))⟩,
   ⟨(some 10), none, (.call 70 [(.t 9)])⟩,
   ⟨(some 8), none, (.mv (.t 10))⟩,
   ⟨(some 11), none, (.extract 0 (.t 8))⟩,
   ⟨(some 12), none, (.extract 1 (.t 8))⟩,
   ⟨(some 6), none, (.mv (.t 11))⟩,
   ⟨(some 7), none, (.mv (.t 12))⟩])
 (.seq
 (.reg [⟨(some 13), none, (.mv (.t 7))⟩,
   ⟨(some 14), none, (.bin .eql .num (.t 13) (.c (.int .i64 0)))⟩,
   ⟨(some 15), none, (.mv (.t 14))⟩,
   ⟨(some 16), (some (15, true)), (.mv (.t 1))⟩,
   ⟨(some 17), (some (15, true)), (.bin .geq .num (.t 16) (.c (.int .i64 0)))⟩,
   ⟨(some 18), none, (.pick (.t 15) (.t 17) (.c (.bool false)))⟩,
   ⟨(some 19), none, (.mv (.t 18))⟩,
   ⟨(some 20), (some (19, true)), (.mv (.t 1))⟩,
   ⟨(some 21), (some (19, true)), (.bin .lss .num (.t 20) (.c (.int .i64 6)))⟩,
   ⟨(some 22), none, (.pick (.t 19) (.t 21) (.c (.bool false)))⟩])
 (.cond (.t 22)
 (.reg [⟨(some 23), none, (.mv (.t 0))⟩,
   ⟨(some 24), none, (.mv (.t 0))⟩,
   ⟨(some 25), none, (.nilCheck (.t 24))⟩,
   ⟨(some 26), none, (.fieldAddr 13 1 (.t 25))⟩,
   ⟨(some 27), none, (.load1 (.t 26))⟩,
   ⟨(some 28), none, (.mv (.t 1))⟩,
   ⟨(some 29), none, (.mv (.t 6))⟩,
   ⟨(some 30), none, (.build [(.int .i64 0), (.bool false), (.slice none 0 0 none)] [(0, (1, (.t 28))), (1, (1, (.c (.bool true)))), (2, (1, (.t 29)))])⟩,
   ⟨(some 31), none, (.buildSlice 3 [(.int .i64 0), (.bool false), (.slice none 0 0 none)] 1 [(0, (3, (.t 30)))])⟩,
   ⟨(some 32), none, (.append 3 40 (.t 27) (.t 31))⟩,
   ⟨(some 33), none, (.nilCheck (.t 23))⟩,
   ⟨(some 34), none, (.fieldAddr 13 1 (.t 33))⟩,
   ⟨none, none, (.store 1 (.t 34) (.t 32))⟩]) .skip))))⟩
theorem caf107 : cFunc Tryz.prog Tryz.f107 = some af107 := by kernel_rfl
def af108_l0 : AC :=
 (.seq
 (.reg [⟨(some 14), none, (.bin .lss .num (.t 13) (.t 12))⟩])
 (.seq
 (.cond (.t 14) .skip (.exit 0))
 (.seq
 (.block 1
 (.seq
 (.reg [⟨(some 15), none, (.mv (.t 13))⟩,
   ⟨(some 16), none, (.ixSlice 2 (.t 11) (.t 13))⟩,
   ⟨(some 17), none, (.loadN 2 (.t 16))⟩,
   ⟨(some 7), none, (.alloc [(.int .i64 0), (.bool false)])⟩,
   ⟨(some 6), none, (.mv (.t 15))⟩,
   ⟨none, none, (.store 2 (.t 7) (.t 17))⟩])
 (.seq
 (.reg [⟨(some 18), none, (.fieldAddr 1 1 (.t 7))⟩,
   ⟨(some 19), none, (.load1 (.t 18))⟩,
   ⟨(some 20), none, (.un .not (.t 19))⟩,
   ⟨(some 21), none, (.mv (.t 20))⟩,
   ⟨(some 22), (some (21, true)), (.fieldAddr 0 1 (.t 7))⟩,
   ⟨(some 23), (some (21, true)), (.load1 (.t 22))⟩,
   ⟨(some 24), (some (21, true)), (.mv (.t 1))⟩,
   ⟨(some 25), (some (21, true)), (.bin .leq .num (.t 23) (.t 24))⟩,
   ⟨(some 26), none, (.pick (.t 21) (.t 25) (.c (.bool false)))⟩,
   ⟨(some 27), none, (.mv (.t 26))⟩,
   ⟨(some 28), (some (27, true)), (.mv (.t 1))⟩,
   ⟨(some 29), (some (27, true)), (.conv (.int .u64) (.t 28))⟩,
   ⟨(some 30), (some (27, true)), (.fieldAddr 0 1 (.t 7))⟩,
   ⟨(some 31), (some (27, true)), (.load1 (.t 30))⟩,
   ⟨(some 32), (some (27, true)), (.conv (.int .u64) (.t 31))⟩,
   ⟨(some 33), (some (27, true)), (.bin .sub .num (.t 29) (.t 32))⟩,
   ⟨(some 34), (some (27, true)), (.bin .geq .num (.t 33) (.c (.int .u64 500000)))⟩,
   ⟨(some 35), none, (.pick (.t 27) (.t 34) (.c (.bool false)))⟩])
 (.cond (.t 35)
 (.reg [⟨(some 36), none, (.mv (.t 5))⟩,
   ⟨(some 37), none, (.mv (.t 6))⟩,
   ⟨(some 38), none, (.buildSlice 1 [(.int .i64 0)] 1 [(0, (1, (.t 37)))])⟩,
   ⟨(some 39), none, (.append 1 8 (.t 36) (.t 38))⟩,
   ⟨(some 5), none, (.mv (.t 39))⟩]) .skip))))
 (.reg [⟨(some 40), none, (.bin .add .num (.t 13) (.c (.int .i64 1)))⟩,
   ⟨(some 13), none, (.mv (.t 40))⟩]))))
/-- (*limelight/watch.Watch).Idle -/
def af108 : AFunc := ⟨43, [(.tmp 4)],
 (.seq
 (.reg [⟨(some 4), none, (.mv (.c (.slice none 0 0 none)))⟩])
 (.seq
 (.reg [⟨(some 5), none, (.mv (.c (.slice none 0 0 none)))⟩])
 (.seq
 (.seq
 (.reg [⟨(some 8), none, (.mv (.t 0))⟩,
   ⟨(some 9), none, (.nilCheck (.t 8))⟩,
   ⟨(some 10), none, (.fieldAddr 0 1 (.t 9))⟩,
   ⟨(some 11), none, (.load1 (.t 10))⟩,
   ⟨(some 12), none, (.len (.t 11))⟩,
   ⟨(some 13), none, (.mv (.c (.int .i64 0)))⟩])
 (.block 0
 (.loop af108_l0)))
 (.seq
 (.reg [⟨(some 41), none, (.mv (.t 5))⟩,
   ⟨(some 42), none, (.call 69 [(.t 41)])⟩,
   ⟨(some 4), none, (.mv (.t 42))⟩]) .ret))))⟩
theorem caf108 : cFunc Tryz.prog Tryz.f108 = some af108 := by kernel_rfl
/-- (*limelight/watch.Watch).Rest -/
def af109 : AFunc := ⟨26, [(.tmp 4)],
 (.seq
 (.reg [⟨(some 4), none, (.mv (.c (.bool false)))⟩])
 (.seq
 (.seq
 (.reg [⟨(some 5), none, (.mv (.t 0))⟩,
   ⟨(some 6), none, (.mv (.t 1))⟩,
   ⟨(some 7), none, (.call 176 [(.t 5), (.t 6)])⟩,
   ⟨(some 8), none, (.un .not (.t 7))⟩,
   ⟨(some 9), none, (.mv (.t 8))⟩,
   ⟨(some 10), (some (9, false)), (.mv (.t 0))⟩,
   ⟨(some 11), (some (9, false)), (.nilCheck (.t 10))⟩,
   ⟨(some 12), (some (9, false)), (.fieldAddr 0 1 (.t 11))⟩,
   ⟨(some 13), (some (9, false)), (.load1 (.t 12))⟩,
   ⟨(some 14), (some (9, false)), (.mv (.t 1))⟩,
   ⟨(some 15), (some (9, false)), (.ixSlice 2 (.t 13) (.t 14))⟩,
   ⟨(some 16), (some (9, false)), (.fieldAddr 1 1 (.t 15))⟩,
   ⟨(some 17), (some (9, false)), (.load1 (.t 16))⟩,
   ⟨(some 18), none, (.pick (.t 9) (.c (.bool true)) (.t 17))⟩])
 (.cond (.t 18)
 (.seq
 (.reg [⟨(some 4), none, (.mv (.c (.bool false)))⟩]) .ret) .skip))
 (.seq
 (.reg [⟨(some 19), none, (.mv (.t 0))⟩,
   ⟨(some 20), none, (.nilCheck (.t 19))⟩,
   ⟨(some 21), none, (.fieldAddr 0 1 (.t 20))⟩,
   ⟨(some 22), none, (.load1 (.t 21))⟩,
   ⟨(some 23), none, (.mv (.t 1))⟩,
   ⟨(some 24), none, (.ixSlice 2 (.t 22) (.t 23))⟩,
   ⟨(some 25), none, (.fieldAddr 1 1 (.t 24))⟩,
   ⟨none, none, (.store 1 (.t 25) (.c (.bool true)))⟩])
 (.seq
 (.reg [⟨(some 4), none, (.mv (.c (.bool true)))⟩]) .ret))))⟩
theorem caf109 : cFunc Tryz.prog Tryz.f109 = some af109 := by kernel_rfl
/-- (*limelight/bucket.Bucket).Take -/
def af110 : AFunc := ⟨25, [(.tmp 4)],
 (.seq
 (.reg [⟨(some 4), none, (.mv (.c (.bool false)))⟩])
 (.seq
 (.seq
 (.dreg [⟨(some 5), none, (.mv (.t 1))⟩,
   ⟨(some 6), none, (.bin .lss .num (.t 5) (.c (.int .i64 0)))⟩,
   ⟨(some 7), none, (.mv (.t 6))⟩,
   ⟨(some 8), (some (7, false)), (.mv (.t 1))⟩,
   ⟨(some 9), (some (7, false)), (.call 125 [(.t 8), (.c (.int .i64 1000000))])⟩,
   ⟨(some 10), (some (7, false)), (.mv (.t 0))⟩,
   ⟨(some 11), (some (7, false)), (.nilCheck (.t 10))⟩,
   ⟨(some 12), (some (7, false)), (.fieldAddr 2 1 (.t 11))⟩,
   ⟨(some 13), (some (7, false)), (.load1 (.t 12))⟩,
   ⟨(some 14), (some (7, false)), (.bin .gtr .num (.t 9) (.t 13))⟩,
   ⟨(some 15), none, (.pick (.t 7) (.c (.bool true)) (.t 14))⟩] [(8, 4)])
 (.cond (.t 15)
 (.seq
 (.reg [⟨(some 4), none, (.mv (.c (.bool false)))⟩]) .ret) .skip))
 (.seq
 (.reg [⟨(some 16), none, (.mv (.t 0))⟩,
   ⟨(some 17), none, (.nilCheck (.t 16))⟩,
   ⟨(some 18), none, (.fieldAddr 2 1 (.t 17))⟩,
   ⟨(some 19), none, (.load1 (.t 18))⟩,
   ⟨(some 20), none, (.mv (.t 1))⟩,
   ⟨(some 21), none, (.bin .mul .num (.t 20) (.c (.int .i64 1000000)))⟩,
   ⟨(some 22), none, (.bin .sub .num (.t 19) (.t 21))⟩,
   ⟨(some 23), none, (.nilCheck (.t 16))⟩,
   ⟨(some 24), none, (.fieldAddr 2 1 (.t 23))⟩,
   ⟨none, none, (.store 1 (.t 24) (.t 22))⟩])
 (.seq
 (.reg [⟨(some 4), none, (.mv (.c (.bool true)))⟩]) .ret))))⟩
theorem caf110 : cFunc Tryz.prog Tryz.f110 = some af110 := by kernel_rfl
end Go.Proofs.YtajoogahcgbohaaGreatA
