/- The loaded functions of this seat, their types resolved: printed by a program of this claim; each is held against the loaded one. -/
import Derived.Test.YtidhpcjbllnjgaaGreatJoC
import Derived.Test.YtidhpcjbllnjgaaGreatProg
set_option maxRecDepth 100000
namespace Go.Proofs.YtidhpcjbllnjgaaGreatA
open Go.RowKit
def zm (d s : Nat) : AOper := ⟨some d, none, .mv (.t s)⟩
def zl (d s : Nat) : AOper := ⟨some d, none, .load1 (.t s)⟩
def zn (d s : Nat) : AOper := ⟨some d, none, .nilCheck (.t s)⟩
def zs (d s : Nat) : AOper := ⟨some d, none, .len (.t s)⟩
def zf (d o n s : Nat) : AOper := ⟨some d, none, .fieldAddr o n (.t s)⟩
def za (d e s i : Nat) : AOper := ⟨some d, none, .ixSlice e (.t s) (.t i)⟩
def ze (d i s : Nat) : AOper := ⟨some d, none, .extract i (.t s)⟩
def zw (d n a x : Nat) : AOper := ⟨some d, none, .store n (.t a) (.t x)⟩
def zb (d : Nat) (o : BinOp) (a b : Nat) : AOper := ⟨some d, none, .bin o .num (.t a) (.t b)⟩
def zd (d : Nat) (o : BinOp) (a : Nat) (n : Int) : AOper := ⟨some d, none, .bin o .num (.t a) (.c (.int .i64 n))⟩
def zk (d : Nat) (n : Int) : AOper := ⟨some d, none, .mv (.c (.int .i64 n))⟩
def zc (d f : Nat) (l : List XO) : AOper := ⟨some d, none, .call f l⟩
def af3_l0 : AC :=
 (.seq
 (.seq
 (.reg [zm 73 13,
   zd 74 .lss 73 2])
 (.cond (.t 74) .skip (.exit 2)))
 (.seq
 (.block 3
 (.reg [zm 77 7,
   zm 78 13,
   zm 79 12,
   ⟨some 80, none, (.conv (.int .u16) (.t 79))⟩,
   zc 81 17 [(.t 77), (.t 78), (.c (.int .i64 0)), (.t 80), (.c (.bool true)), (.c (.int .i64 100))]]))
 (.reg [zm 75 13,
   zd 76 .add 75 1,
   zm 13 76])))
def af3_l1 : AC :=
 (.seq
 (.seq
 (.reg [zm 69 12,
   zd 70 .lss 69 30])
 (.cond (.t 70) .skip (.exit 0)))
 (.seq
 (.block 1
 (.seq
 (.seq
 (.reg [zk 13 0])
 (.block 2
 (.loop af3_l0)))
 (.reg [zm 82 7,
   zc 83 18 [(.t 82), (.c (.int .i64 40000))]])))
 (.reg [zm 71 12,
   zd 72 .add 71 1,
   zm 12 72])))
/-- limelight/limelighttop.TopClasses -/
def af3 : AFunc := ⟨94, [(.tmp 6)],
 (.seq
 (.reg [⟨some 6, none, (.mv (.c (.bool false)))⟩])
 (.seq
 (.reg [zc 15 11 [],
   zm 7 15])
 (.seq
 (.seq
 (.reg [zm 16 7,
   ⟨some 17, none, (.bin .eql .ptr (.t 16) (.c (.ptr none)))⟩,
   zm 18 17,
   ⟨(some 19), (some (18, false)), (.mv (.t 7))⟩,
   ⟨(some 20), (some (18, false)), (.call 12 [(.t 19), (.c (.int .i64 0)), (.c (.int .i64 1073741824))])⟩,
   ⟨(some 21), (some (18, false)), (.un .not (.t 20))⟩,
   ⟨some 22, none, (.pick (.t 18) (.c (.bool true)) (.t 21))⟩,
   zm 23 22,
   ⟨(some 24), (some (23, false)), (.mv (.t 7))⟩,
   ⟨(some 25), (some (23, false)), (.call 14 [(.c (.int .i64 0)), (.c (.int .i64 1))])⟩,
   ⟨(some 26), (some (23, false)), (.call 13 [(.t 24), (.c (.int .i64 0)), (.t 25)])⟩,
   ⟨(some 27), (some (23, false)), (.un .not (.t 26))⟩,
   ⟨some 28, none, (.pick (.t 23) (.c (.bool true)) (.t 27))⟩,
   zm 29 28,
   ⟨(some 30), (some (29, false)), (.mv (.t 7))⟩,
   ⟨(some 31), (some (29, false)), (.call 12 [(.t 30), (.c (.int .i64 1)), (.c (.int .i64 1073741824))])⟩,
   ⟨(some 32), (some (29, false)), (.un .not (.t 31))⟩,
   ⟨some 33, none, (.pick (.t 29) (.c (.bool true)) (.t 32))⟩,
   zm 34 33,
   ⟨(some 35), (some (34, false)), (.mv (.t 7))⟩,
   ⟨(some 36), (some (34, false)), (.call 14 [(.c (.int .i64 1)), (.c (.int .i64 1))])⟩,
   ⟨(some 37), (some (34, false)), (.call 13 [(.t 35), (.c (.int .i64 1)), (.t 36)])⟩,
   ⟨(some 38), (some (34, false)), (.un .not (.t 37))⟩,
   ⟨some 39, none, (.pick (.t 34) (.c (.bool true)) (.t 38))⟩,
   zm 40 39,
   ⟨(some 41), (some (40, false)), (.mv (.t 7))⟩,
   ⟨(some 42), (some (40, false)), (.call 12 [(.t 41), (.c (.int .i64 2)), (.c (.int .i64 5000))])⟩,
   ⟨(some 43), (some (40, false)), (.un .not (.t 42))⟩,
   ⟨some 44, none, (.pick (.t 40) (.c (.bool true)) (.t 43))⟩])
 (.cond (.t 44)
 (.seq
 (.reg [⟨some 6, none, (.mv (.c (.bool false)))⟩]) .ret) .skip))
 (.seq
 (.reg [zm 45 0,
   zc 46 15 [(.t 45), (.c (.int .i64 0)), (.c (.int .i64 2))],
   zm 47 1,
   zc 48 15 [(.t 47), (.c (.int .i64 0)), (.c (.int .i64 2))],
   zm 8 46,
   zm 9 48])
 (.seq
 (.reg [zm 49 8,
   zm 50 9,
   ⟨some 51, none, (.mn [(.t 49), (.t 50)])⟩,
   zm 52 8,
   zm 53 9,
   ⟨some 54, none, (.mx [(.t 52), (.t 53)])⟩,
   zd 55 .add 54 1,
   zm 10 51,
   zm 11 55])
 (.seq
 (.seq
 (.reg [zm 56 2])
 (.cond (.t 56)
 (.reg [zm 57 11,
   zm 58 10,
   zm 10 57,
   zm 11 58]) .skip))
 (.seq
 (.seq
 (.reg [zm 59 7,
   zm 60 10,
   zc 61 16 [(.t 59), (.c (.int .i64 2)), (.c (.int .i64 0)), (.c (.int .i64 500)), (.t 60)],
   ⟨some 62, none, (.un .not (.t 61))⟩,
   zm 63 62,
   ⟨(some 64), (some (63, false)), (.mv (.t 7))⟩,
   ⟨(some 65), (some (63, false)), (.mv (.t 11))⟩,
   ⟨(some 66), (some (63, false)), (.call 16 [(.t 64), (.c (.int .i64 2)), (.c (.int .i64 1)), (.c (.int .i64 500)), (.t 65)])⟩,
   ⟨(some 67), (some (63, false)), (.un .not (.t 66))⟩,
   ⟨some 68, none, (.pick (.t 63) (.c (.bool true)) (.t 67))⟩])
 (.cond (.t 68)
 (.seq
 (.reg [⟨some 6, none, (.mv (.c (.bool false)))⟩]) .ret) .skip))
 (.seq
 (.seq
 (.reg [zk 12 0])
 (.block 0
 (.loop af3_l1)))
 (.seq
 (.reg [⟨some 84, none, (.buildSlice 1 [(.int .i64 0)] 2 [(0, (1, (.c (.int .i64 0)))), (1, (1, (.c (.int .i64 (-1)))))])⟩,
   zm 14 84])
 (.seq
 (.seq
 (.reg [zm 85 2])
 (.cond (.t 85)
 (.reg [⟨some 86, none, (.buildSlice 1 [(.int .i64 0)] 2 [(0, (1, (.c (.int .i64 (-1))))), (1, (1, (.c (.int .i64 0))))])⟩,
   zm 14 86]) .skip))
 (.seq
 (.reg [zm 87 7,
   zc 88 20 [(.t 87), (.c (.int .i64 2))],
   zm 89 14,
   zc 90 19 [(.t 88), (.t 89)],
   zm 91 90,
   ⟨(some 92), (some (91, true)), (.call 21 [])⟩,
   ⟨some 93, none, (.pick (.t 91) (.t 92) (.c (.bool false)))⟩,
   zm 6 93]) .ret)))))))))))⟩
theorem caf3 : cFunc Tryz.prog Tryz.f3 = some af3 := by kernel_rfl
/-- limelight/sfu.New -/
def af11 : AFunc := ⟨4, [(.tmp 0)],
 (.seq
 (.reg [⟨some 0, none, (.mv (.c (.ptr none)))⟩])
 (.seq
 (.reg [zc 1 32 [],
   ⟨some 2, none, (.build [(.ptr none), (.ptr none), (.ptr none), (.ptr none), (.ptr none), (.ptr none), (.ptr none), (.int .i64 0), (.int .i64 0), (.int .i64 0), (.int .i64 0), (.int .i64 0), (.int .i64 0), (.slice none 0 0 none)] [(0, (1, (.t 1)))])⟩,
   ⟨some 3, none, (.box (.t 2))⟩,
   zm 0 3]) .ret))⟩
theorem caf11 : cFunc Tryz.prog Tryz.f11 = some af11 := by kernel_rfl
/-- limelight/calm.Join -/
def af12 : AFunc := ⟨12, [(.tmp 6)],
 (.seq
 (.reg [⟨some 6, none, (.mv (.c (.bool false)))⟩])
 (.seq
 (.reg [zm 7 0,
   zm 8 1,
   zm 9 2,
   ⟨some 10, none, (.build [(.int .i64 0), (.int .i64 0), (.slice none 0 0 none), (.int .i64 0), (.int .i64 0), (.int .i64 0), (.int .i64 0), (.int .i64 0)] [(0, (1, (.c (.int .i64 1)))), (1, (1, (.t 9)))])⟩,
   zc 11 33 [(.t 7), (.t 8), (.t 10)],
   zm 6 11]) .ret))⟩
theorem caf12 : cFunc Tryz.prog Tryz.f12 = some af12 := by kernel_rfl
/-- limelight/calm.Publish -/
def af13 : AFunc := ⟨12, [(.tmp 6)],
 (.seq
 (.reg [⟨some 6, none, (.mv (.c (.bool false)))⟩])
 (.seq
 (.reg [zm 7 0,
   zm 8 1,
   zm 9 2,
   ⟨some 10, none, (.build [(.int .i64 0), (.int .i64 0), (.slice none 0 0 none), (.int .i64 0), (.int .i64 0), (.int .i64 0), (.int .i64 0), (.int .i64 0)] [(0, (1, (.c (.int .i64 3)))), (2, (1, (.t 9)))])⟩,
   zc 11 33 [(.t 7), (.t 8), (.t 10)],
   zm 6 11]) .ret))⟩
theorem caf13 : cFunc Tryz.prog Tryz.f13 = some af13 := by kernel_rfl
def af14_l0 : AC :=
 (.seq
 (.seq
 (.reg [zm 7 6,
   zm 8 1,
   zb 9 .lss 7 8])
 (.cond (.t 9) .skip (.exit 0)))
 (.seq
 (.block 1
 (.reg [zm 12 5,
   zm 13 6,
   ⟨some 14, none, (.bin .add .num (.c (.int .i64 48)) (.t 13))⟩,
   ⟨some 15, none, (.conv (.int .i32) (.t 14))⟩,
   ⟨some 16, none, (.conv .runeStr (.t 15))⟩,
   ⟨some 17, none, (.bin .add .num (.c (.str [108])) (.t 16))⟩,
   zm 18 0,
   ⟨some 19, none, (.bin .mul .num (.c (.int .i64 10)) (.t 18))⟩,
   ⟨some 20, none, (.bin .add .num (.c (.int .i64 40)) (.t 19))⟩,
   zm 21 6,
   zb 22 .add 20 21,
   ⟨some 23, none, (.conv (.int .u32) (.t 22))⟩,
   zm 24 6,
   zd 25 .add 24 1,
   ⟨some 26, none, (.bin .mul .num (.c (.int .i64 100)) (.t 25))⟩,
   ⟨some 27, none, (.build [(.str []), (.int .u32 0), (.int .i64 0)] [(0, (1, (.t 17))), (1, (1, (.t 23))), (2, (1, (.t 26)))])⟩,
   ⟨some 28, none, (.buildSlice 3 [(.str []), (.int .u32 0), (.int .i64 0)] 1 [(0, (3, (.t 27)))])⟩,
   ⟨some 29, none, (.append 3 32 (.t 12) (.t 28))⟩,
   zm 5 29]))
 (.reg [zm 10 6,
   zd 11 .add 10 1,
   zm 6 11])))
/-- limelight/limelighttop.layers -/
def af14 : AFunc := ⟨31, [(.tmp 4)],
 (.seq
 (.reg [⟨some 4, none, (.mv (.c (.slice none 0 0 none)))⟩])
 (.seq
 (.reg [⟨some 5, none, (.mv (.c (.slice none 0 0 none)))⟩])
 (.seq
 (.seq
 (.reg [zk 6 0])
 (.block 0
 (.loop af14_l0)))
 (.seq
 (.reg [zm 30 5,
   zm 4 30]) .ret))))⟩
theorem caf14 : cFunc Tryz.prog Tryz.f14 = some af14 := by kernel_rfl
/-- limelight/limelightbook.Within -/
def af15 : AFunc := ⟨33, [(.tmp 6)],
 (.seq
 (.reg [zk 6 0])
 (.seq
 (.seq
 (.reg [zm 7 0,
   zm 8 1,
   zb 9 .geq 7 8,
   zm 10 9,
   ⟨(some 11), (some (10, true)), (.mv (.t 0))⟩,
   ⟨(some 12), (some (10, true)), (.mv (.t 2))⟩,
   ⟨(some 13), (some (10, true)), (.bin .leq .num (.t 11) (.t 12))⟩,
   ⟨some 14, none, (.pick (.t 10) (.t 13) (.c (.bool false)))⟩])
 (.cond (.t 14)
 (.seq
 (.reg [zm 15 0,
   zm 6 15]) .ret) .skip))
 (.seq
 (.reg [zm 16 0,
   zm 17 2,
   zm 18 1,
   zb 19 .sub 17 18,
   zd 20 .add 19 1,
   zb 21 .rem 16 20,
   zm 0 21])
 (.seq
 (.seq
 (.reg [zm 22 0,
   zd 23 .lss 22 0])
 (.cond (.t 23)
 (.reg [zm 24 0,
   zm 25 2,
   zb 26 .add 24 25,
   zm 27 1,
   zb 28 .sub 26 27,
   zd 29 .add 28 1,
   zm 0 29]) .skip))
 (.seq
 (.reg [zm 30 1,
   zm 31 0,
   zb 32 .add 30 31,
   zm 6 32]) .ret)))))⟩
theorem caf15 : cFunc Tryz.prog Tryz.f15 = some af15 := by kernel_rfl
/-- limelight/calm.Watch -/
def af16 : AFunc := ⟨18, [(.tmp 10)],
 (.seq
 (.reg [⟨some 10, none, (.mv (.c (.bool false)))⟩])
 (.seq
 (.reg [zm 11 0,
   zm 12 1,
   zm 13 2,
   zm 14 3,
   zm 15 4,
   ⟨some 16, none, (.build [(.int .i64 0), (.int .i64 0), (.slice none 0 0 none), (.int .i64 0), (.int .i64 0), (.int .i64 0), (.int .i64 0), (.int .i64 0)] [(0, (1, (.c (.int .i64 4)))), (3, (1, (.t 13))), (4, (1, (.t 14))), (5, (1, (.t 15)))])⟩,
   zc 17 33 [(.t 11), (.t 12), (.t 16)],
   zm 10 17]) .ret))⟩
theorem caf16 : cFunc Tryz.prog Tryz.f16 = some af16 := by kernel_rfl
/-- limelight/calm.Frame -/
def af17 : AFunc := ⟨72, [(.tmp 12)],
 (.seq
 (.reg [⟨some 12, none, (.mv (.c (.slice none 0 0 none)))⟩])
 (.seq
 (.seq
 (.reg [zm 19 0,
   ⟨some 20, none, (.bin .eql .ptr (.t 19) (.c (.ptr none)))⟩])
 (.cond (.t 20)
 (.seq
 (.reg [⟨some 12, none, (.mv (.c (.slice none 0 0 none)))⟩]) .ret) .skip))
 (.seq
 (.reg [zm 21 0,
   zc 22 34 [(.t 21)],
   zm 23 1,
   zc 24 35 [(.t 22), (.t 23)],
   zm 13 24])
 (.seq
 (.seq
 (.reg [zm 25 2,
   zd 26 .lss 25 0,
   zm 27 26,
   ⟨(some 28), (some (27, false)), (.mv (.t 2))⟩,
   ⟨(some 29), (some (27, false)), (.mv (.t 13))⟩,
   ⟨(some 30), (some (27, false)), (.len (.t 29))⟩,
   ⟨(some 31), (some (27, false)), (.bin .geq .num (.t 28) (.t 30))⟩,
   ⟨some 32, none, (.pick (.t 27) (.c (.bool true)) (.t 31))⟩])
 (.cond (.t 32)
 (.seq
 (.reg [⟨some 12, none, (.mv (.c (.slice none 0 0 none)))⟩]) .ret) .skip))
 (.seq
 (.reg [zm 34 13,
   zm 35 2,
   za 36 3 34 35,
   zf 37 0 1 36,
   zl 38 37,
   ⟨some 39, none, (.conv .strBytes (.t 38))⟩,
   ⟨some 40, none, (.build [(.int .i64 0), (.slice none 0 0 none)] [(0, (1, (.c (.int .i64 1)))), (1, (1, (.t 39)))])⟩,
   ⟨some 41, none, (.buildSlice 2 [(.int .i64 0), (.slice none 0 0 none)] 1 [(0, (2, (.t 40)))])⟩,
   zc 42 30 [(.c (.int .u16 48862)), (.t 41)],
   zm 33 42,
   ze 43 0 33,
   ze 44 1 33,
   zm 14 43,
   zm 15 44])
 (.seq
 (.reg [zm 45 5,
   ⟨some 46, none, (.mn [(.t 45), (.c (.int .i64 1000))])⟩,
   ⟨some 47, none, (.mx [(.c (.int .i64 1)), (.t 46)])⟩,
   ⟨some 48, none, (.mkSlice 1 1 [(.int .u8 0)] (.t 47) (.t 47))⟩,
   zm 16 48])
 (.seq
 (.seq
 (.reg [zm 49 4])
 (.cond (.t 49)
 (.reg [zm 50 16,
   ⟨some 51, none, (.ixSlice 1 (.t 50) (.c (.int .i64 0)))⟩,
   ⟨none, none, (.store 1 (.t 51) (.c (.int .u8 1)))⟩]) .skip))
 (.seq
 (.reg [zm 53 3,
   zm 54 3,
   ⟨some 55, none, (.conv (.int .u32) (.t 54))⟩,
   ⟨some 56, none, (.bin .mul .num (.c (.int .u32 90)) (.t 55))⟩,
   zm 57 13,
   zm 58 2,
   za 59 3 57 58,
   zf 60 1 1 59,
   zl 61 60,
   zm 62 14,
   zm 63 16,
   ⟨some 64, none, (.build [(.bool false), (.int .i64 0), (.int .u16 0), (.int .u32 0), (.int .u32 0), (.slice none 0 0 none), (.int .u16 0), (.slice none 0 0 none), (.slice none 0 0 none)] [(1, (1, (.c (.int .i64 96)))), (2, (1, (.t 53))), (3, (1, (.t 56))), (4, (1, (.t 61))), (6, (1, (.c (.int .u16 48862)))), (7, (1, (.t 62))), (8, (1, (.t 63)))])⟩,
   zc 65 31 [(.t 64)],
   zm 52 65,
   ze 66 0 52,
   ze 67 1 52,
   zm 17 66,
   zm 18 67])
 (.seq
 (.reg [zm 68 0,
   zm 69 1,
   zm 70 17,
   zc 71 26 [(.t 68), (.t 69), (.t 70)],
   zm 12 71]) .ret)))))))))⟩
theorem caf17 : cFunc Tryz.prog Tryz.f17 = some af17 := by kernel_rfl
def af18_l0 : AC :=
 (.seq
 (.reg [zd 23 .lss 22 6])
 (.seq
 (.cond (.t 23) .skip (.exit 0))
 (.seq
 (.block 1
 (.seq
 (.reg [⟨some 24, none, (.ixAgg1 6 (.t 21) (.t 22))⟩,
   zm 6 24])
 (.seq
 (.reg [zm 25 6,
   ⟨some 26, none, (.bin .neq .ptr (.t 25) (.c (.ptr none)))⟩])
 (.cond (.t 26)
 (.reg [zm 27 6,
   zn 28 27,
   zf 29 1 1 28,
   zl 30 29,
   zm 31 1,
   zc 32 36 [(.t 30), (.t 31)]]) .skip))))
 (.reg [zd 33 .add 22 1,
   zm 22 33]))))
/-- (*limelight/sfu.House).Tick -/
def af18 : AFunc := ⟨38, [(.tmp 4)],
 (.seq
 (.reg [⟨some 4, none, (.mv (.c (.slice none 0 0 none)))⟩])
 (.seq
 (.reg [zm 7 1,
   ⟨some 8, none, (.mn [(.t 7), (.c (.int .i64 16777216))])⟩,
   ⟨some 9, none, (.mx [(.c (.int .i64 0)), (.t 8)])⟩,
   zm 1 9])
 (.seq
 (.reg [zm 10 0,
   zn 11 10,
   zf 12 7 1 11,
   zl 13 12,
   zm 14 1,
   zb 15 .add 13 14,
   zn 16 10,
   zf 17 7 1 16,
   ⟨none, none, (.store 1 (.t 17) (.t 15))⟩])
 (.seq
 (.seq
 (.reg [zm 18 0,
   zn 19 18,
   zf 20 1 6 19,
   ⟨some 21, none, (.loadN 6 (.t 20))⟩,
   zk 22 0])
 (.block 0
 (.loop af18_l0)))
 (.seq
 (.reg [zm 34 0,
   zc 35 37 [(.t 34)]])
 (.seq
 (.reg [zm 36 0,
   zc 37 38 [(.t 36)],
   zm 4 37]) .ret))))))⟩
theorem caf18 : cFunc Tryz.prog Tryz.f18 = some af18 := by kernel_rfl
def af19_l0 : AC :=
 (.seq
 (.seq
 (.reg [zm 11 5,
   zm 12 0,
   zs 13 12,
   zb 14 .lss 11 13])
 (.cond (.t 14) .skip (.exit 0)))
 (.seq
 (.block 1
 (.seq
 (.dreg [zm 17 0,
   zm 18 5,
   za 19 1 17 18,
   zl 20 19,
   zm 21 1,
   zm 22 5,
   za 23 1 21 22,
   zl 24 23,
   zb 25 .neq 20 24] [])
 (.cond (.t 25)
 (.seq
 (.reg [⟨some 4, none, (.mv (.c (.bool false)))⟩]) .ret) .skip)))
 (.reg [zm 15 5,
   zd 16 .add 15 1,
   zm 5 16])))
/-- limelight/limelightbook.Same[int] -/
def af19 : AFunc := ⟨26, [(.tmp 4)],
 (.seq
 (.reg [⟨some 4, none, (.mv (.c (.bool false)))⟩])
 (.seq
 (.seq
 (.reg [zm 6 0,
   zs 7 6,
   zm 8 1,
   zs 9 8,
   zb 10 .neq 7 9])
 (.cond (.t 10)
 (.seq
 (.reg [⟨some 4, none, (.mv (.c (.bool false)))⟩]) .ret) .skip))
 (.seq
 (.seq
 (.reg [zk 5 0])
 (.block 0
 (.loop af19_l0)))
 (.seq
 (.reg [⟨some 4, none, (.mv (.c (.bool true)))⟩]) .ret))))⟩
theorem caf19 : cFunc Tryz.prog Tryz.f19 = some af19 := by kernel_rfl
/-- (*limelight/sfu.House).Given -/
def af20 : AFunc := ⟨13, [(.tmp 4)],
 (.seq
 (.reg [⟨some 4, none, (.mv (.c (.slice none 0 0 none)))⟩])
 (.seq
 (.seq
 (.reg [zm 6 0,
   zm 7 1,
   zc 8 39 [(.t 6), (.t 7)],
   zm 5 8])
 (.seq
 (.reg [zm 9 5,
   ⟨some 10, none, (.bin .neq .ptr (.t 9) (.c (.ptr none)))⟩])
 (.cond (.t 10)
 (.seq
 (.reg [zm 11 5,
   zc 12 40 [(.t 11)],
   zm 4 12]) .ret) .skip)))
 (.seq
 (.reg [⟨some 4, none, (.mv (.c (.slice none 0 0 none)))⟩]) .ret)))⟩
theorem caf20 : cFunc Tryz.prog Tryz.f20 = some af20 := by kernel_rfl
/-- limelight/limelighttop.awake -/
def af21 : AFunc := ⟨25, [(.tmp 0)],
 (.seq
 (.reg [⟨some 0, none, (.mv (.c (.bool false)))⟩])
 (.seq
 (.reg [⟨some 3, none, (.buildSlice 1 [(.int .i64 0)] 1 [(0, (1, (.c (.int .i64 100000))))])⟩,
   zc 4 22 [(.c (.int .i64 2)), (.c (.int .i64 500)), (.t 3)],
   zm 1 4])
 (.seq
 (.seq
 (.reg [zm 5 1,
   ⟨some 6, none, (.bin .eql .ptr (.t 5) (.c (.ptr none)))⟩])
 (.cond (.t 6)
 (.seq
 (.reg [⟨some 0, none, (.mv (.c (.bool false)))⟩]) .ret) .skip))
 (.seq
 (.reg [zm 7 1,
   zc 8 23 [(.t 7), (.c (.int .i64 0)), (.c (.int .i64 20))],
   zm 2 8])
 (.seq
 (.reg [zm 9 1,
   zc 10 20 [(.t 9), (.c (.int .i64 1))],
   ⟨some 11, none, (.buildSlice 1 [(.int .i64 0)] 1 [(0, (1, (.c (.int .i64 1))))])⟩,
   zc 12 19 [(.t 10), (.t 11)],
   zm 13 12,
   ⟨(some 14), (some (13, true)), (.mv (.t 2))⟩,
   ⟨(some 15), (some (13, true)), (.call 25 [(.t 14), (.c (.int .i64 1)), (.c (.int .u32 2))])⟩,
   ⟨(some 16), (some (13, true)), (.len (.t 15))⟩,
   ⟨(some 17), (some (13, true)), (.bin .gtr .num (.t 16) (.c (.int .i64 5)))⟩,
   ⟨some 18, none, (.pick (.t 13) (.t 17) (.c (.bool false)))⟩,
   zm 19 18,
   ⟨(some 20), (some (19, true)), (.mv (.t 1))⟩,
   ⟨(some 21), (some (19, true)), (.call 41 [(.t 20), (.c (.int .i64 0))])⟩,
   ⟨(some 22), (some (19, true)), (.buildSlice 1 [(.int .i64 0)] 1 [(0, (1, (.c (.int .i64 0))))])⟩,
   ⟨(some 23), (some (19, true)), (.call 19 [(.t 21), (.t 22)])⟩,
   ⟨some 24, none, (.pick (.t 19) (.t 23) (.c (.bool false)))⟩,
   zm 0 24]) .ret)))))⟩
theorem caf21 : cFunc Tryz.prog Tryz.f21 = some af21 := by kernel_rfl
def af22_l0 : AC :=
 (.seq
 (.reg [zb 28 .lss 27 26])
 (.seq
 (.cond (.t 28) .skip (.exit 0))
 (.seq
 (.block 1
 (.seq
 (.reg [zm 29 27,
   za 30 1 25 27,
   zl 31 30,
   zm 8 29,
   zm 9 31])
 (.seq
 (.reg [zm 32 7,
   zm 33 8,
   ⟨some 34, none, (.bin .add .num (.c (.int .i64 1)) (.t 33))⟩,
   zm 35 9,
   zc 36 12 [(.t 32), (.t 34), (.t 35)],
   ⟨some 37, none, (.un .not (.t 36))⟩,
   zm 38 37,
   ⟨(some 39), (some (38, false)), (.mv (.t 7))⟩,
   ⟨(some 40), (some (38, false)), (.mv (.t 8))⟩,
   ⟨(some 41), (some (38, false)), (.bin .add .num (.c (.int .i64 1)) (.t 40))⟩,
   ⟨(some 42), (some (38, false)), (.mv (.t 1))⟩,
   ⟨(some 43), (some (38, false)), (.call 16 [(.t 39), (.t 41), (.c (.int .i64 0)), (.t 42), (.c (.int .i64 0))])⟩,
   ⟨(some 44), (some (38, false)), (.un .not (.t 43))⟩,
   ⟨some 45, none, (.pick (.t 38) (.c (.bool true)) (.t 44))⟩])
 (.cond (.t 45)
 (.seq
 (.reg [⟨some 6, none, (.mv (.c (.ptr none)))⟩]) .ret) .skip))))
 (.reg [zd 46 .add 27 1,
   zm 27 46]))))
/-- limelight/limelighttop.house -/
def af22 : AFunc := ⟨48, [(.tmp 6)],
 (.seq
 (.reg [⟨some 6, none, (.mv (.c (.ptr none)))⟩])
 (.seq
 (.reg [zc 10 11 [],
   zm 7 10])
 (.seq
 (.seq
 (.reg [zm 11 7,
   ⟨some 12, none, (.bin .eql .ptr (.t 11) (.c (.ptr none)))⟩,
   zm 13 12,
   ⟨(some 14), (some (13, false)), (.mv (.t 7))⟩,
   ⟨(some 15), (some (13, false)), (.call 12 [(.t 14), (.c (.int .i64 0)), (.c (.int .i64 1073741824))])⟩,
   ⟨(some 16), (some (13, false)), (.un .not (.t 15))⟩,
   ⟨some 17, none, (.pick (.t 13) (.c (.bool true)) (.t 16))⟩,
   zm 18 17,
   ⟨(some 19), (some (18, false)), (.mv (.t 7))⟩,
   ⟨(some 20), (some (18, false)), (.mv (.t 0))⟩,
   ⟨(some 21), (some (18, false)), (.call 14 [(.c (.int .i64 0)), (.t 20)])⟩,
   ⟨(some 22), (some (18, false)), (.call 13 [(.t 19), (.c (.int .i64 0)), (.t 21)])⟩,
   ⟨(some 23), (some (18, false)), (.un .not (.t 22))⟩,
   ⟨some 24, none, (.pick (.t 18) (.c (.bool true)) (.t 23))⟩])
 (.cond (.t 24)
 (.seq
 (.reg [⟨some 6, none, (.mv (.c (.ptr none)))⟩]) .ret) .skip))
 (.seq
 (.seq
 (.reg [zm 25 2,
   zs 26 25,
   zk 27 0])
 (.block 0
 (.loop af22_l0)))
 (.seq
 (.reg [zm 47 7,
   zm 6 47]) .ret)))))⟩
theorem caf22 : cFunc Tryz.prog Tryz.f22 = some af22 := by kernel_rfl
def af23_l0 : AC :=
 (.seq
 (.reg [zb 31 .lss 30 29])
 (.seq
 (.cond (.t 31) .skip (.exit 2))
 (.seq
 (.block 3
 (.seq
 (.reg [zm 32 30,
   zm 10 32])
 (.seq
 (.reg [zm 33 9,
   zm 34 10,
   zc 35 43 [(.t 33), (.t 34)],
   ⟨some 36, none, (.un .not (.t 35))⟩])
 (.cond (.t 36)
 (.reg [zm 37 7,
   zm 38 0,
   zm 39 1,
   zm 40 10,
   zm 41 8,
   zc 42 17 [(.t 38), (.t 39), (.t 40), (.t 41), (.c (.bool true)), (.c (.int .i64 100))],
   ⟨some 43, none, (.append 3 40 (.t 37) (.t 42))⟩,
   zm 7 43]) .skip))))
 (.reg [zd 44 .add 30 1,
   zm 30 44]))))
def af23_l1 : AC :=
 (.seq
 (.reg [zb 17 .lss 16 15])
 (.seq
 (.cond (.t 17) .skip (.exit 0))
 (.seq
 (.block 1
 (.seq
 (.reg [zm 18 0,
   zc 19 42 [(.t 18)],
   zd 20 .quo 19 40000,
   ⟨some 21, none, (.conv (.int .u16) (.t 20))⟩,
   zm 22 0,
   zm 23 1,
   zc 24 41 [(.t 22), (.t 23)],
   zm 8 21,
   zm 9 24])
 (.seq
 (.seq
 (.reg [zm 25 0,
   zc 26 34 [(.t 25)],
   zm 27 1,
   zc 28 35 [(.t 26), (.t 27)],
   zs 29 28,
   zk 30 0])
 (.block 2
 (.loop af23_l0)))
 (.reg [zm 45 7,
   zm 46 0,
   zc 47 18 [(.t 46), (.c (.int .i64 40000))],
   ⟨some 48, none, (.append 3 40 (.t 45) (.t 47))⟩,
   zm 7 48]))))
 (.reg [zd 49 .add 16 1,
   zm 16 49]))))
/-- limelight/calm.Play -/
def af23 : AFunc := ⟨52, [(.tmp 6)],
 (.seq
 (.reg [⟨some 6, none, (.mv (.c (.slice none 0 0 none)))⟩])
 (.seq
 (.seq
 (.reg [zm 11 0,
   ⟨some 12, none, (.bin .eql .ptr (.t 11) (.c (.ptr none)))⟩])
 (.cond (.t 12)
 (.seq
 (.reg [⟨some 6, none, (.mv (.c (.slice none 0 0 none)))⟩]) .ret) .skip))
 (.seq
 (.reg [⟨some 7, none, (.mv (.c (.slice none 0 0 none)))⟩])
 (.seq
 (.seq
 (.reg [zm 13 2,
   ⟨some 14, none, (.mn [(.t 13), (.c (.int .i64 50))])⟩,
   ⟨some 15, none, (.mx [(.c (.int .i64 0)), (.t 14)])⟩,
   zk 16 0])
 (.block 0
 (.loop af23_l1)))
 (.seq
 (.reg [zm 50 7,
   zc 51 44 [(.t 50)],
   zm 6 51]) .ret)))))⟩
theorem caf23 : cFunc Tryz.prog Tryz.f23 = some af23 := by kernel_rfl
def af25_l0 : AC :=
 (.seq
 (.reg [zb 15 .lss 14 13])
 (.seq
 (.cond (.t 15) .skip (.exit 0))
 (.seq
 (.block 1
 (.seq
 (.reg [za 16 3 12 14,
   ⟨some 17, none, (.loadN 3 (.t 16))⟩,
   ⟨some 9, none, (.alloc [(.int .i64 0), (.bool false), (.slice none 0 0 none)])⟩,
   ⟨none, none, (.store 3 (.t 9) (.t 17))⟩])
 (.seq
 (.seq
 (.reg [zf 18 1 1 9,
   zl 19 18,
   zm 20 19,
   ⟨(some 21), (some (20, false)), (.fieldAddr 0 1 (.t 9))⟩,
   ⟨(some 22), (some (20, false)), (.load1 (.t 21))⟩,
   ⟨(some 23), (some (20, false)), (.mv (.t 1))⟩,
   ⟨(some 24), (some (20, false)), (.bin .neq .num (.t 22) (.t 23))⟩,
   ⟨some 25, none, (.pick (.t 20) (.c (.bool true)) (.t 24))⟩,
   zm 26 25,
   ⟨(some 27), (some (26, false)), (.fieldAddr 2 1 (.t 9))⟩,
   ⟨(some 28), (some (26, false)), (.load1 (.t 27))⟩,
   ⟨(some 29), (some (26, false)), (.call 47 [(.t 28)])⟩,
   ⟨some 30, none, (.pick (.t 26) (.c (.bool true)) (.t 29))⟩])
 (.cond (.t 30) (.exit 1) .skip))
 (.seq
 (.reg [zf 32 2 1 9,
   zl 33 32,
   zc 34 48 [(.t 33)],
   zm 31 34,
   ze 35 0 31,
   ze 36 1 31,
   ⟨some 10, none, (.alloc [(.bool false), (.int .i64 0), (.int .u16 0), (.int .u32 0), (.int .u32 0), (.slice none 0 0 none), (.int .u16 0), (.slice none 0 0 none), (.slice none 0 0 none)])⟩,
   ⟨none, none, (.store 9 (.t 10) (.t 35))⟩,
   zm 11 36])
 (.seq
 (.reg [zm 37 11,
   zd 38 .eql 37 0,
   zm 39 38,
   ⟨(some 40), (some (39, true)), (.fieldAddr 4 1 (.t 10))⟩,
   ⟨(some 41), (some (39, true)), (.load1 (.t 40))⟩,
   ⟨(some 42), (some (39, true)), (.mv (.t 2))⟩,
   ⟨(some 43), (some (39, true)), (.bin .eql .num (.t 41) (.t 42))⟩,
   ⟨some 44, none, (.pick (.t 39) (.t 43) (.c (.bool false)))⟩])
 (.cond (.t 44)
 (.reg [zm 45 7,
   ⟨some 46, none, (.loadN 9 (.t 10))⟩,
   ⟨some 47, none, (.buildSlice 9 [(.bool false), (.int .i64 0), (.int .u16 0), (.int .u32 0), (.int .u32 0), (.slice none 0 0 none), (.int .u16 0), (.slice none 0 0 none), (.slice none 0 0 none)] 1 [(0, (9, (.t 46)))])⟩,
   ⟨some 48, none, (.append 9 112 (.t 45) (.t 47))⟩,
   zm 7 48]) .skip))))))
 (.reg [zd 49 .add 14 1,
   zm 14 49]))))
/-- limelight/check.Packets -/
def af25 : AFunc := ⟨52, [(.tmp 6)],
 (.seq
 (.reg [⟨some 6, none, (.mv (.c (.slice none 0 0 none)))⟩])
 (.seq
 (.reg [⟨some 7, none, (.mv (.c (.slice none 0 0 none)))⟩])
 (.seq
 (.seq
 (.reg [zm 12 0,
   zs 13 12,
   zk 14 0])
 (.block 0
 (.loop af25_l0)))
 (.seq
 (.reg [zm 50 7,
   zc 51 49 [(.t 50)],
   zm 6 51]) .ret))))⟩
theorem caf25 : cFunc Tryz.prog Tryz.f25 = some af25 := by kernel_rfl
/-- (*limelight/sfu.House).Datagram -/
def af26 : AFunc := ⟨43, [(.tmp 6)],
 (.seq
 (.reg [⟨some 6, none, (.mv (.c (.slice none 0 0 none)))⟩])
 (.seq
 (.reg [zm 8 0,
   zm 9 1,
   zc 10 39 [(.t 8), (.t 9)],
   ⟨some 11, none, (.bin .neq .ptr (.t 10) (.c (.ptr none)))⟩,
   zm 7 11])
 (.seq
 (.block 0
 (.seq
 (.reg [zm 13 7,
   zm 14 13,
   ⟨(some 15), (some (14, true)), (.mv (.t 2))⟩,
   ⟨(some 16), (some (14, true)), (.call 47 [(.t 15)])⟩,
   ⟨some 17, none, (.pick (.t 14) (.t 16) (.c (.bool false)))⟩,
   zm 12 17])
 (.cond (.t 12)
 (.reg [zm 18 0,
   zm 19 1,
   zm 20 2,
   zc 21 50 [(.t 18), (.t 19), (.t 20)],
   zm 7 21])
 (.seq
 (.reg [zm 23 7,
   zm 22 23])
 (.cond (.t 22)
 (.reg [zm 24 0,
   zm 25 1,
   zm 26 2,
   zc 27 51 [(.t 24), (.t 25), (.t 26)],
   zm 7 27]) .skip)))))
 (.seq
 (.seq
 (.reg [zm 28 7,
   ⟨some 29, none, (.un .not (.t 28))⟩])
 (.cond (.t 29)
 (.seq
 (.reg [zm 30 0,
   zn 31 30,
   zf 32 8 4 31,
   zf 33 0 1 32,
   zl 34 33,
   zd 35 .add 34 1,
   zn 36 30,
   zf 37 8 4 36,
   zf 38 0 1 37,
   ⟨none, none, (.store 1 (.t 38) (.t 35))⟩])
 (.seq
 (.reg [⟨some 6, none, (.mv (.c (.slice none 0 0 none)))⟩]) .ret)) .skip))
 (.seq
 (.reg [zm 39 0,
   zc 40 37 [(.t 39)]])
 (.seq
 (.reg [zm 41 0,
   zc 42 38 [(.t 41)],
   zm 6 42]) .ret))))))⟩
theorem caf26 : cFunc Tryz.prog Tryz.f26 = some af26 := by kernel_rfl
def af30_l0 : AC :=
 (.seq
 (.reg [zb 23 .lss 22 21])
 (.seq
 (.cond (.t 23) .skip (.exit 1))
 (.seq
 (.block 2
 (.seq
 (.reg [za 24 2 20 22,
   ⟨some 25, none, (.loadN 2 (.t 24))⟩,
   ⟨some 8, none, (.alloc [(.int .i64 0), (.slice none 0 0 none)])⟩,
   ⟨none, none, (.store 2 (.t 8) (.t 25))⟩])
 (.seq
 (.seq
 (.reg [zm 26 0,
   ⟨some 27, none, (.loadN 2 (.t 8))⟩,
   zc 28 55 [(.t 26), (.t 27)],
   ⟨some 29, none, (.un .not (.t 28))⟩])
 (.cond (.t 29)
 (.seq
 (.reg [⟨some 4, none, (.mv (.c (.slice none 0 0 none)))⟩,
   zk 5 1]) .ret) .skip))
 (.seq
 (.seq
 (.reg [zm 30 0,
   ⟨some 31, none, (.bin .eql .num (.t 30) (.c (.int .u16 48862)))⟩])
 (.cond (.t 31)
 (.reg [zm 32 6,
   zf 33 0 1 8,
   zl 34 33,
   ⟨some 35, none, (.bin .shl .num (.t 34) (.c (.int .u64 4)))⟩,
   zf 36 1 1 8,
   zl 37 36,
   zs 38 37,
   zd 39 .sub 38 1,
   zb 40 .or 35 39,
   ⟨some 41, none, (.conv (.int .u8) (.t 40))⟩,
   ⟨some 42, none, (.buildSlice 1 [(.int .u8 0)] 1 [(0, (1, (.t 41)))])⟩,
   ⟨some 43, none, (.append 1 1 (.t 32) (.t 42))⟩,
   zm 6 43])
 (.reg [zm 44 6,
   zf 45 0 1 8,
   zl 46 45,
   ⟨some 47, none, (.conv (.int .u8) (.t 46))⟩,
   zf 48 1 1 8,
   zl 49 48,
   zs 50 49,
   ⟨some 51, none, (.conv (.int .u8) (.t 50))⟩,
   ⟨some 52, none, (.buildSlice 1 [(.int .u8 0)] 2 [(0, (1, (.t 47))), (1, (1, (.t 51)))])⟩,
   ⟨some 53, none, (.append 1 1 (.t 44) (.t 52))⟩,
   zm 6 53])))
 (.reg [zm 54 6,
   zf 55 1 1 8,
   zl 56 55,
   ⟨some 57, none, (.append 1 1 (.t 54) (.t 56))⟩,
   zm 6 57])))))
 (.reg [zd 58 .add 22 1,
   zm 22 58]))))
/-- limelight/ext.Bytes -/
def af30 : AFunc := ⟨61, [(.tmp 4), (.tmp 5)],
 (.seq
 (.reg [⟨some 4, none, (.mv (.c (.slice none 0 0 none)))⟩,
   zk 5 0])
 (.seq
 (.block 0
 (.seq
 (.reg [zm 10 0,
   ⟨some 11, none, (.bin .neq .num (.t 10) (.c (.int .u16 48862)))⟩,
   zm 12 11,
   ⟨(some 13), (some (12, true)), (.mv (.t 0))⟩,
   ⟨(some 14), (some (12, true)), (.bin .neq .num (.t 13) (.c (.int .u16 4096)))⟩,
   ⟨some 15, none, (.pick (.t 12) (.t 14) (.c (.bool false)))⟩,
   zm 9 15])
 (.cond (.t 9)
 (.seq
 (.reg [⟨some 4, none, (.mv (.c (.slice none 0 0 none)))⟩,
   zk 5 1]) .ret)
 (.seq
 (.reg [zm 17 1,
   zs 18 17,
   zd 19 .gtr 18 8,
   zm 16 19])
 (.cond (.t 16)
 (.seq
 (.reg [⟨some 4, none, (.mv (.c (.slice none 0 0 none)))⟩,
   zk 5 3]) .ret) .skip)))))
 (.seq
 (.reg [⟨some 6, none, (.mv (.c (.slice none 0 0 none)))⟩])
 (.seq
 (.seq
 (.reg [zm 20 1,
   zs 21 20,
   zk 22 0])
 (.block 1
 (.loop af30_l0)))
 (.seq
 (.reg [zm 59 6,
   zc 60 56 [(.t 59), (.c (.int .i64 4))],
   zm 4 60,
   zk 5 0]) .ret)))))⟩
theorem caf30 : cFunc Tryz.prog Tryz.f30 = some af30 := by kernel_rfl
def af31_l0 : AC :=
 (.seq
 (.reg [zb 52 .lss 51 50])
 (.seq
 (.cond (.t 52) .skip (.exit 0))
 (.seq
 (.block 1
 (.seq
 (.reg [za 53 1 49 51,
   zl 54 53,
   zm 9 54])
 (.reg [zm 55 7,
   zm 56 9,
   ⟨some 57, none, (.conv (.int .u64) (.t 56))⟩,
   zc 58 58 [(.t 55), (.t 57), (.c (.int .i64 4))],
   zm 7 58])))
 (.reg [zd 59 .add 51 1,
   zm 51 59]))))
/-- limelight/rtp.Bytes -/
def af31 : AFunc := ⟨83, [(.tmp 2), (.tmp 3)],
 (.seq
 (.reg [⟨some 1, none, (.box (.t 0))⟩,
   ⟨some 2, none, (.mv (.c (.slice none 0 0 none)))⟩,
   zk 3 0])
 (.seq
 (.seq
 (.reg [⟨some 10, none, (.loadN 9 (.t 1))⟩,
   zc 11 57 [(.t 10)],
   zm 4 11])
 (.seq
 (.reg [zm 12 4,
   zd 13 .neq 12 0])
 (.cond (.t 13)
 (.seq
 (.reg [zm 14 4,
   ⟨some 2, none, (.mv (.c (.slice none 0 0 none)))⟩,
   zm 3 14]) .ret) .skip)))
 (.seq
 (.dreg [zf 15 5 1 1,
   zl 16 15,
   zs 17 16,
   ⟨some 18, none, (.bin .or .num (.c (.int .i64 128)) (.t 17))⟩,
   ⟨some 19, none, (.conv (.int .u8) (.t 18))⟩,
   zf 20 1 1 1,
   zl 21 20,
   ⟨some 22, none, (.conv (.int .u8) (.t 21))⟩,
   zm 5 19,
   zm 6 22] [])
 (.seq
 (.seq
 (.reg [zf 23 6 1 1,
   zl 24 23,
   ⟨some 25, none, (.bin .neq .num (.t 24) (.c (.int .u16 0)))⟩])
 (.cond (.t 25)
 (.reg [zm 26 5,
   ⟨some 27, none, (.bin .or .num (.t 26) (.c (.int .u8 16)))⟩,
   zm 5 27]) .skip))
 (.seq
 (.seq
 (.reg [zf 28 0 1 1,
   zl 29 28])
 (.cond (.t 29)
 (.reg [zm 30 6,
   ⟨some 31, none, (.bin .or .num (.t 30) (.c (.int .u8 128)))⟩,
   zm 6 31]) .skip))
 (.seq
 (.reg [zm 32 5,
   zm 33 6,
   ⟨some 34, none, (.buildSlice 1 [(.int .u8 0)] 2 [(0, (1, (.t 32))), (1, (1, (.t 33)))])⟩,
   zf 35 2 1 1,
   zl 36 35,
   ⟨some 37, none, (.conv (.int .u64) (.t 36))⟩,
   zc 38 58 [(.t 34), (.t 37), (.c (.int .i64 2))],
   zm 7 38])
 (.seq
 (.dreg [zm 39 7,
   zf 40 3 1 1,
   zl 41 40,
   ⟨some 42, none, (.conv (.int .u64) (.t 41))⟩,
   zc 43 58 [(.t 39), (.t 42), (.c (.int .i64 4))],
   zf 44 4 1 1,
   zl 45 44,
   ⟨some 46, none, (.conv (.int .u64) (.t 45))⟩,
   zc 47 58 [(.t 43), (.t 46), (.c (.int .i64 4))],
   zm 7 47] [(6, 4)])
 (.seq
 (.seq
 (.reg [zf 48 5 1 1,
   zl 49 48,
   zs 50 49,
   zk 51 0])
 (.block 0
 (.loop af31_l0)))
 (.seq
 (.seq
 (.reg [zf 60 6 1 1,
   zl 61 60,
   ⟨some 62, none, (.bin .neq .num (.t 61) (.c (.int .u16 0)))⟩])
 (.cond (.t 62)
 (.seq
 (.dreg [zm 63 7,
   zf 64 6 1 1,
   zl 65 64,
   ⟨some 66, none, (.conv (.int .u64) (.t 65))⟩,
   zc 67 58 [(.t 63), (.t 66), (.c (.int .i64 2))],
   zf 68 7 1 1,
   zl 69 68,
   zs 70 69,
   zd 71 .quo 70 4,
   ⟨some 72, none, (.conv (.int .u64) (.t 71))⟩,
   zc 73 58 [(.t 67), (.t 72), (.c (.int .i64 2))],
   zm 7 73] [(6, 4)])
 (.reg [zm 74 7,
   zf 75 7 1 1,
   zl 76 75,
   ⟨some 77, none, (.append 1 1 (.t 74) (.t 76))⟩,
   zm 7 77])) .skip))
 (.seq
 (.reg [zm 78 7,
   zf 79 8 1 1,
   zl 80 79,
   ⟨some 81, none, (.buildSlice 1 [(.slice none 0 0 none)] 2 [(0, (1, (.t 78))), (1, (1, (.t 80)))])⟩,
   zc 82 59 [(.t 81)],
   zm 2 82,
   zk 3 0]) .ret))))))))))⟩
theorem caf31 : cFunc Tryz.prog Tryz.f31 = some af31 := by kernel_rfl
/-- limelight/room.New -/
def af32 : AFunc := ⟨3, [(.tmp 0)],
 (.seq
 (.reg [⟨some 0, none, (.mv (.c (.ptr none)))⟩])
 (.seq
 (.reg [⟨some 1, none, (.build [(.bool false), (.int .i64 0), (.slice none 0 0 none), (.slice none 0 0 none), (.bool false), (.int .i64 0), (.slice none 0 0 none), (.slice none 0 0 none), (.bool false), (.int .i64 0), (.slice none 0 0 none), (.slice none 0 0 none), (.bool false), (.int .i64 0), (.slice none 0 0 none), (.slice none 0 0 none), (.bool false), (.int .i64 0), (.slice none 0 0 none), (.slice none 0 0 none), (.bool false), (.int .i64 0), (.slice none 0 0 none), (.slice none 0 0 none)] [])⟩,
   ⟨some 2, none, (.box (.t 1))⟩,
   zm 0 2]) .ret))⟩
theorem caf32 : cFunc Tryz.prog Tryz.f32 = some af32 := by kernel_rfl
/-- limelight/calm.asks -/
def af33 : AFunc := ⟨35, [(.tmp 6)],
 (.seq
 (.reg [⟨some 4, none, (.box (.t 1))⟩,
   ⟨some 5, none, (.box (.t 2))⟩,
   ⟨some 6, none, (.mv (.c (.bool false)))⟩])
 (.seq
 (.reg [⟨some 10, none, (.loadN 8 (.t 5))⟩,
   zc 11 45 [(.t 10)],
   zm 9 11,
   ze 12 0 9,
   ze 13 1 9,
   zm 7 12,
   zm 8 13])
 (.seq
 (.seq
 (.reg [zm 14 0,
   ⟨some 15, none, (.bin .eql .ptr (.t 14) (.c (.ptr none)))⟩,
   zm 16 15,
   ⟨(some 17), (some (16, false)), (.mv (.t 8))⟩,
   ⟨(some 18), (some (16, false)), (.bin .neq .num (.t 17) (.c (.int .i64 0)))⟩,
   ⟨some 19, none, (.pick (.t 16) (.c (.bool true)) (.t 18))⟩,
   zm 20 19,
   ⟨(some 21), (some (20, false)), (.load1 (.t 4))⟩,
   ⟨(some 22), (some (20, false)), (.bin .lss .num (.t 21) (.c (.int .i64 0)))⟩,
   ⟨some 23, none, (.pick (.t 20) (.c (.bool true)) (.t 22))⟩,
   zm 24 23,
   ⟨(some 25), (some (24, false)), (.load1 (.t 4))⟩,
   ⟨(some 26), (some (24, false)), (.bin .geq .num (.t 25) (.c (.int .i64 6)))⟩,
   ⟨some 27, none, (.pick (.t 24) (.c (.bool true)) (.t 26))⟩])
 (.cond (.t 27)
 (.seq
 (.reg [⟨some 6, none, (.mv (.c (.bool false)))⟩]) .ret) .skip))
 (.seq
 (.reg [zm 28 0,
   zl 29 4,
   zm 30 7,
   zc 31 46 [(.t 28), (.t 29), (.t 30)],
   ⟨some 32, none, (.mkFunc 61 [(.t 4)])⟩,
   zc 33 60 [(.t 31), (.t 32)],
   ⟨some 34, none, (.un .not (.t 33))⟩,
   zm 6 34]) .ret))))⟩
theorem caf33 : cFunc Tryz.prog Tryz.f33 = some af33 := by kernel_rfl
/-- (*limelight/sfu.House).Room -/
def af34 : AFunc := ⟨7, [(.tmp 2)],
 (.seq
 (.reg [⟨some 2, none, (.mv (.c (.ptr none)))⟩])
 (.seq
 (.reg [zm 3 0,
   zn 4 3,
   zf 5 0 1 4,
   zl 6 5,
   zm 2 6]) .ret))⟩
theorem caf34 : cFunc Tryz.prog Tryz.f34 = some af34 := by kernel_rfl
/-- (*limelight/room.Room).Layers -/
def af35 : AFunc := ⟨17, [(.tmp 4)],
 (.seq
 (.reg [⟨some 4, none, (.mv (.c (.slice none 0 0 none)))⟩])
 (.seq
 (.seq
 (.reg [zm 5 1,
   zc 6 63 [(.t 5)],
   ⟨some 7, none, (.un .not (.t 6))⟩])
 (.cond (.t 7)
 (.seq
 (.reg [⟨some 4, none, (.mv (.c (.slice none 0 0 none)))⟩]) .ret) .skip))
 (.seq
 (.reg [zm 8 0,
   zm 9 1,
   zn 10 8,
   zf 11 0 24 10,
   ⟨some 12, none, (.ixArr 6 4 (.t 11) (.t 9))⟩,
   zf 13 2 1 12,
   zl 14 13,
   zc 15 65 [(.t 14)],
   zc 16 64 [(.t 15)],
   zm 4 16]) .ret)))⟩
theorem caf35 : cFunc Tryz.prog Tryz.f35 = some af35 := by kernel_rfl
/-- (*limelight/pace.Queue).Tick -/
def af36 : AFunc := ⟨10, [],
 (.reg [zm 4 0,
   zn 5 4,
   zf 6 1 1 5,
   zl 7 6,
   zm 8 1,
   zc 9 66 [(.t 7), (.t 8)]])⟩
theorem caf36 : cFunc Tryz.prog Tryz.f36 = some af36 := by kernel_rfl
def af37_l0 : AC :=
 (.seq
 (.reg [zb 99 .lss 98 97])
 (.seq
 (.cond (.t 99) .skip (.exit 8))
 (.seq
 (.block 9
 (.seq
 (.reg [za 100 1 96 98,
   zl 101 100,
   zm 12 101])
 (.reg [zm 102 0,
   zm 103 0,
   zn 104 103,
   zf 105 13 1 104,
   zl 106 105,
   zm 107 9,
   zm 108 12,
   ⟨some 109, none, (.build [(.int .i64 0), (.bool false), (.slice none 0 0 none)] [(0, (1, (.t 107))), (2, (1, (.t 108)))])⟩,
   ⟨some 110, none, (.buildSlice 3 [(.int .i64 0), (.bool false), (.slice none 0 0 none)] 1 [(0, (3, (.t 109)))])⟩,
   ⟨some 111, none, (.append 3 40 (.t 106) (.t 110))⟩,
   zn 112 102,
   zf 113 13 1 112,
   ⟨none, none, (.store 1 (.t 113) (.t 111))⟩])))
 (.reg [zd 114 .add 98 1,
   zm 98 114]))))
def af37_l1 : AC :=
 (.seq
 (.reg [zd 87 .lss 86 6])
 (.seq
 (.cond (.t 87) .skip (.exit 6))
 (.seq
 (.block 7
 (.seq
 (.reg [zm 88 86,
   ⟨some 89, none, (.ixAgg1 6 (.t 85) (.t 86))⟩,
   zm 9 88,
   zm 10 89])
 (.seq
 (.seq
 (.reg [zm 90 10,
   ⟨some 91, none, (.bin .eql .ptr (.t 90) (.c (.ptr none)))⟩])
 (.cond (.t 91) (.exit 7) .skip))
 (.seq
 (.reg [zm 92 10,
   zn 93 92,
   zf 94 1 1 93,
   zl 95 94,
   zc 96 73 [(.t 95)],
   zs 97 96,
   zk 98 0])
 (.block 8
 (.loop af37_l0))))))
 (.reg [zd 115 .add 86 1,
   zm 86 115]))))
def af37_l2 : AC :=
 (.seq
 (.reg [zd 63 .lss 62 6])
 (.seq
 (.cond (.t 63) .skip (.exit 4))
 (.seq
 (.block 5
 (.seq
 (.reg [zm 64 62,
   ⟨some 65, none, (.ixAgg1 6 (.t 61) (.t 62))⟩,
   zm 7 64,
   zm 8 65])
 (.seq
 (.reg [zm 66 8,
   ⟨some 67, none, (.bin .neq .ptr (.t 66) (.c (.ptr none)))⟩,
   zm 68 67,
   ⟨(some 69), (some (68, true)), (.mv (.t 8))⟩,
   ⟨(some 70), (some (68, true)), (.nilCheck (.t 69))⟩,
   ⟨(some 71), (some (68, true)), (.fieldAddr 2 1 (.t 70))⟩,
   ⟨(some 72), (some (68, true)), (.load1 (.t 71))⟩,
   ⟨(some 73), (some (68, true)), (.bin .neq .ptr (.t 72) (.c (.ptr none)))⟩,
   ⟨some 74, none, (.pick (.t 68) (.t 73) (.c (.bool false)))⟩])
 (.cond (.t 74)
 (.reg [zm 75 0,
   zm 76 7,
   zm 77 7,
   ⟨some 78, none, (.ixArr 6 3 (.t 6) (.t 77))⟩,
   ⟨some 79, none, (.loadN 3 (.t 78))⟩,
   zc 80 72 [(.t 75), (.t 76), (.t 79)]]) .skip))))
 (.reg [zd 81 .add 62 1,
   zm 62 81]))))
def af37_l3 : AC :=
 (.seq
 (.reg [zd 47 .lss 46 6])
 (.seq
 (.cond (.t 47) .skip (.exit 2))
 (.seq
 (.block 3
 (.seq
 (.reg [zm 48 46,
   ⟨some 49, none, (.ixAgg1 6 (.t 45) (.t 46))⟩,
   zm 4 48,
   zm 5 49])
 (.seq
 (.reg [zm 50 5,
   ⟨some 51, none, (.bin .neq .ptr (.t 50) (.c (.ptr none)))⟩])
 (.cond (.t 51)
 (.reg [zm 52 0,
   zm 53 4,
   zc 54 70 [(.t 52), (.t 53)]]) .skip))))
 (.reg [zd 55 .add 46 1,
   zm 46 55]))))
def af37_l4 : AC :=
 (.seq
 (.reg [zd 18 .lss 17 6])
 (.seq
 (.cond (.t 18) .skip (.exit 0))
 (.seq
 (.block 1
 (.seq
 (.reg [⟨some 19, none, (.ixAgg1 6 (.t 16) (.t 17))⟩,
   zm 3 19])
 (.seq
 (.reg [zm 20 3,
   ⟨some 21, none, (.bin .neq .ptr (.t 20) (.c (.ptr none)))⟩])
 (.cond (.t 21)
 (.seq
 (.dreg [zm 22 3,
   zn 23 22,
   zf 24 0 1 23,
   zl 25 24,
   zm 26 0,
   zn 27 26,
   zf 28 7 1 27,
   zl 29 28,
   zc 30 67 [(.t 25), (.t 29)]] [])
 (.dreg [zm 31 3,
   zn 32 31,
   zf 33 1 1 32,
   zl 34 33,
   zm 35 3,
   zn 36 35,
   zf 37 0 1 36,
   zl 38 37,
   zc 39 69 [(.t 38)],
   zc 40 68 [(.t 34), (.t 39)]] [(3, 9)])) .skip))))
 (.reg [zd 41 .add 17 1,
   zm 17 41]))))
/-- (*limelight/sfu.House).settle -/
def af37 : AFunc := ⟨116, [],
 (.seq
 (.seq
 (.reg [zm 13 0,
   zn 14 13,
   zf 15 1 6 14,
   ⟨some 16, none, (.loadN 6 (.t 15))⟩,
   zk 17 0])
 (.block 0
 (.loop af37_l4)))
 (.seq
 (.seq
 (.reg [zm 42 0,
   zn 43 42,
   zf 44 1 6 43,
   ⟨some 45, none, (.loadN 6 (.t 44))⟩,
   zk 46 0])
 (.block 2
 (.loop af37_l3)))
 (.seq
 (.reg [zm 56 0,
   zc 57 71 [(.t 56)],
   ⟨some 6, none, (.alloc [(.bool false), (.bool false), (.bool false), (.bool false), (.bool false), (.bool false), (.bool false), (.bool false), (.bool false), (.bool false), (.bool false), (.bool false), (.bool false), (.bool false), (.bool false), (.bool false), (.bool false), (.bool false)])⟩,
   ⟨none, none, (.store 18 (.t 6) (.t 57))⟩])
 (.seq
 (.seq
 (.reg [zm 58 0,
   zn 59 58,
   zf 60 1 6 59,
   ⟨some 61, none, (.loadN 6 (.t 60))⟩,
   zk 62 0])
 (.block 4
 (.loop af37_l2)))
 (.seq
 (.reg [zm 82 0,
   zn 83 82,
   zf 84 1 6 83,
   ⟨some 85, none, (.loadN 6 (.t 84))⟩,
   zk 86 0])
 (.block 6
 (.loop af37_l1)))))))⟩
theorem caf37 : cFunc Tryz.prog Tryz.f37 = some af37 := by kernel_rfl
/-- (*limelight/sfu.House).told -/
def af38 : AFunc := ⟨13, [(.tmp 2)],
 (.seq
 (.reg [⟨some 2, none, (.mv (.c (.slice none 0 0 none)))⟩])
 (.seq
 (.reg [zm 4 0,
   zn 5 4,
   zf 6 13 1 5,
   zl 7 6,
   zc 8 44 [(.t 7)],
   zm 3 8])
 (.seq
 (.reg [zm 9 0,
   zn 10 9,
   zf 11 13 1 10,
   ⟨none, none, (.store 1 (.t 11) (.c (.slice none 0 0 none)))⟩])
 (.seq
 (.reg [zm 12 3,
   zm 2 12]) .ret))))⟩
theorem caf38 : cFunc Tryz.prog Tryz.f38 = some af38 := by kernel_rfl
/-- (*limelight/sfu.House).peer -/
def af39 : AFunc := ⟨17, [(.tmp 4)],
 (.seq
 (.reg [⟨some 4, none, (.mv (.c (.ptr none)))⟩])
 (.seq
 (.seq
 (.reg [zm 5 1,
   zd 6 .lss 5 0,
   zm 7 6,
   ⟨(some 8), (some (7, false)), (.mv (.t 1))⟩,
   ⟨(some 9), (some (7, false)), (.bin .geq .num (.t 8) (.c (.int .i64 6)))⟩,
   ⟨some 10, none, (.pick (.t 7) (.c (.bool true)) (.t 9))⟩])
 (.cond (.t 10)
 (.seq
 (.reg [⟨some 4, none, (.mv (.c (.ptr none)))⟩]) .ret) .skip))
 (.seq
 (.reg [zm 11 0,
   zm 12 1,
   zn 13 11,
   zf 14 1 6 13,
   ⟨some 15, none, (.ixArr 6 1 (.t 14) (.t 12))⟩,
   zl 16 15,
   zm 4 16]) .ret)))⟩
theorem caf39 : cFunc Tryz.prog Tryz.f39 = some af39 := by kernel_rfl
def af40_l0 : AC :=
 (.seq
 (.reg [zb 12 .lss 11 10])
 (.seq
 (.cond (.t 12) .skip (.exit 0))
 (.seq
 (.block 1
 (.seq
 (.reg [za 13 1 9 11,
   zl 14 13,
   zm 5 14])
 (.reg [zm 15 3,
   zm 16 5,
   zn 17 16,
   zf 18 5 1 17,
   zl 19 18,
   ⟨some 20, none, (.buildSlice 1 [(.int .i64 0)] 1 [(0, (1, (.t 19)))])⟩,
   ⟨some 21, none, (.append 1 8 (.t 15) (.t 20))⟩,
   zm 3 21])))
 (.reg [zd 22 .add 11 1,
   zm 11 22]))))
/-- (*limelight/sfu.peer).given -/
def af40 : AFunc := ⟨25, [(.tmp 2)],
 (.seq
 (.reg [⟨some 2, none, (.mv (.c (.slice none 0 0 none)))⟩])
 (.seq
 (.reg [⟨some 3, none, (.mv (.c (.slice none 0 0 none)))⟩])
 (.seq
 (.seq
 (.reg [zm 6 0,
   zn 7 6,
   zf 8 4 1 7,
   zl 9 8,
   zs 10 9,
   zk 11 0])
 (.block 0
 (.loop af40_l0)))
 (.seq
 (.reg [zm 23 3,
   zc 24 74 [(.t 23)],
   zm 2 24]) .ret))))⟩
theorem caf40 : cFunc Tryz.prog Tryz.f40 = some af40 := by kernel_rfl
def af41_l0 : AC :=
 (.seq
 (.reg [zb 26 .lss 25 24])
 (.seq
 (.cond (.t 26) .skip (.exit 0))
 (.seq
 (.block 1
 (.seq
 (.reg [zm 27 25,
   zm 7 27])
 (.seq
 (.reg [zm 28 6,
   zn 29 28,
   zf 30 2 1 29,
   zl 31 30,
   zm 32 7,
   zc 33 76 [(.t 31), (.t 32)]])
 (.cond (.t 33)
 (.reg [zm 34 5,
   zm 35 7,
   ⟨some 36, none, (.buildSlice 1 [(.int .i64 0)] 1 [(0, (1, (.t 35)))])⟩,
   ⟨some 37, none, (.append 1 8 (.t 34) (.t 36))⟩,
   zm 5 37]) .skip))))
 (.reg [zd 38 .add 25 1,
   zm 25 38]))))
/-- (*limelight/sfu.House).Resting -/
def af41 : AFunc := ⟨41, [(.tmp 4)],
 (.seq
 (.reg [⟨some 4, none, (.mv (.c (.slice none 0 0 none)))⟩])
 (.seq
 (.reg [⟨some 5, none, (.mv (.c (.slice none 0 0 none)))⟩])
 (.seq
 (.seq
 (.reg [zm 8 0,
   zm 9 1,
   zc 10 39 [(.t 8), (.t 9)],
   zm 6 10])
 (.seq
 (.reg [zm 11 6,
   ⟨some 12, none, (.bin .neq .ptr (.t 11) (.c (.ptr none)))⟩,
   zm 13 12,
   ⟨(some 14), (some (13, true)), (.mv (.t 6))⟩,
   ⟨(some 15), (some (13, true)), (.nilCheck (.t 14))⟩,
   ⟨(some 16), (some (13, true)), (.fieldAddr 2 1 (.t 15))⟩,
   ⟨(some 17), (some (13, true)), (.load1 (.t 16))⟩,
   ⟨(some 18), (some (13, true)), (.bin .neq .ptr (.t 17) (.c (.ptr none)))⟩,
   ⟨some 19, none, (.pick (.t 13) (.t 18) (.c (.bool false)))⟩])
 (.cond (.t 19)
 (.seq
 (.reg [zm 20 6,
   zn 21 20,
   zf 22 2 1 21,
   zl 23 22,
   zc 24 75 [(.t 23)],
   zk 25 0])
 (.block 0
 (.loop af41_l0))) .skip)))
 (.seq
 (.reg [zm 39 5,
   zc 40 74 [(.t 39)],
   zm 4 40]) .ret))))⟩
theorem caf41 : cFunc Tryz.prog Tryz.f41 = some af41 := by kernel_rfl
/-- (*limelight/sfu.House).Now -/
def af42 : AFunc := ⟨7, [(.tmp 2)],
 (.seq
 (.reg [zk 2 0])
 (.seq
 (.reg [zm 3 0,
   zn 4 3,
   zf 5 7 1 4,
   zl 6 5,
   zm 2 6]) .ret))⟩
theorem caf42 : cFunc Tryz.prog Tryz.f42 = some af42 := by kernel_rfl
/-- slices.Contains[[]int,int] -/
def af43 : AFunc := ⟨9, [(.tmp 4)],
 (.seq
 (.reg [⟨some 4, none, (.mv (.c (.bool false)))⟩])
 (.seq
 (.reg [zm 5 0,
   zm 6 1,
   zc 7 77 [(.t 5), (.t 6)],
   zd 8 .geq 7 0,
   zm 4 8]) .ret))⟩
theorem caf43 : cFunc Tryz.prog Tryz.f43 = some af43 := by kernel_rfl
/-- slices.Clip[[]limelight/api.Sent,limelight/api.Sent] -/
def af44 : AFunc := ⟨9, [(.tmp 2)],
 (.seq
 (.reg [⟨some 2, none, (.mv (.c (.slice none 0 0 none)))⟩])
 (.seq
 (.reg [zm 3 0,
   zm 4 0,
   zs 5 4,
   zm 6 0,
   zs 7 6,
   ⟨some 8, none, (.cut 3 (.t 3) none (some (.t 5)) (some (.t 7)))⟩,
   zm 2 8]) .ret))⟩
theorem caf44 : cFunc Tryz.prog Tryz.f44 = some af44 := by kernel_rfl
def af45_l0 : AC :=
 (.seq
 (.reg [zb 57 .lss 56 55])
 (.seq
 (.cond (.t 57) .skip (.exit 2))
 (.seq
 (.block 3
 (.seq
 (.reg [za 58 3 54 56,
   ⟨some 59, none, (.loadN 3 (.t 58))⟩,
   ⟨some 9, none, (.alloc [(.int .i64 0), (.int .i64 0), (.int .i64 0)])⟩,
   ⟨none, none, (.store 3 (.t 9) (.t 59))⟩])
 (.seq
 (.reg [zf 60 0 1 1,
   zl 61 60,
   zf 62 0 1 9,
   zl 63 62,
   zc 64 80 [(.t 61), (.t 63)]])
 (.cond (.t 64)
 (.dreg [zm 65 5,
   zf 66 0 1 9,
   zl 67 66,
   zf 68 2 1 9,
   zl 69 68,
   ⟨some 70, none, (.conv (.int .u64) (.t 69))⟩,
   zf 71 1 1 9,
   zl 72 71,
   zc 73 58 [(.c (.slice none 0 0 none)), (.t 70), (.t 72)],
   zc 74 79 [(.t 65), (.t 67), (.t 73)],
   zm 5 74] [(2, 9)]) .skip))))
 (.reg [zd 75 .add 56 1,
   zm 56 75]))))
def af45_l1 : AC :=
 (.seq
 (.reg [zb 19 .lss 18 17])
 (.seq
 (.cond (.t 19) .skip (.exit 0))
 (.seq
 (.block 1
 (.seq
 (.reg [za 20 3 16 18,
   ⟨some 21, none, (.loadN 3 (.t 20))⟩,
   ⟨some 7, none, (.alloc [(.str []), (.int .u32 0), (.int .i64 0)])⟩,
   ⟨none, none, (.store 3 (.t 7) (.t 21))⟩])
 (.dreg [zm 22 5,
   zf 23 1 1 7,
   zl 24 23,
   ⟨some 25, none, (.conv (.int .u64) (.t 24))⟩,
   zc 26 58 [(.c (.slice none 0 0 none)), (.t 25), (.c (.int .i64 4))],
   zf 27 2 1 7,
   zl 28 27,
   ⟨some 29, none, (.conv (.int .u64) (.t 28))⟩,
   zc 30 58 [(.t 26), (.t 29), (.c (.int .i64 2))],
   zf 31 0 1 7,
   zl 32 31,
   ⟨some 33, none, (.appendS 1 (.t 30) (.t 32))⟩,
   zc 34 79 [(.t 22), (.c (.int .i64 2)), (.t 33)],
   zm 5 34] [(6, 4), (10, 4), (10, 8)])))
 (.reg [zd 35 .add 18 1,
   zm 18 35]))))
/-- limelight/ctl.Bytes -/
def af45 : AFunc := ⟨87, [(.tmp 2), (.tmp 3)],
 (.seq
 (.reg [⟨some 1, none, (.box (.t 0))⟩,
   ⟨some 2, none, (.mv (.c (.slice none 0 0 none)))⟩,
   zk 3 0])
 (.seq
 (.seq
 (.reg [⟨some 10, none, (.loadN 8 (.t 1))⟩,
   zc 11 78 [(.t 10)],
   zm 4 11])
 (.seq
 (.reg [zm 12 4,
   zd 13 .neq 12 0])
 (.cond (.t 13)
 (.seq
 (.reg [zm 14 4,
   ⟨some 2, none, (.mv (.c (.slice none 0 0 none)))⟩,
   zm 3 14]) .ret) .skip)))
 (.seq
 (.reg [⟨some 5, none, (.mv (.c (.slice none 0 0 none)))⟩])
 (.seq
 (.seq
 (.reg [zf 15 2 1 1,
   zl 16 15,
   zs 17 16,
   zk 18 0])
 (.block 0
 (.loop af45_l1)))
 (.seq
 (.seq
 (.reg [zf 36 1 1 1,
   zl 37 36,
   ⟨some 38, none, (.build [(.int .i64 0), (.int .i64 0), (.int .i64 0)] [(0, (1, (.c (.int .i64 1)))), (1, (1, (.c (.int .i64 8)))), (2, (1, (.t 37)))])⟩,
   zf 39 3 1 1,
   zl 40 39,
   ⟨some 41, none, (.build [(.int .i64 0), (.int .i64 0), (.int .i64 0)] [(0, (1, (.c (.int .i64 3)))), (1, (1, (.c (.int .i64 1)))), (2, (1, (.t 40)))])⟩,
   zf 42 4 1 1,
   zl 43 42,
   ⟨some 44, none, (.build [(.int .i64 0), (.int .i64 0), (.int .i64 0)] [(0, (1, (.c (.int .i64 4)))), (1, (1, (.c (.int .i64 2)))), (2, (1, (.t 43)))])⟩,
   zf 45 5 1 1,
   zl 46 45,
   ⟨some 47, none, (.build [(.int .i64 0), (.int .i64 0), (.int .i64 0)] [(0, (1, (.c (.int .i64 5)))), (1, (1, (.c (.int .i64 1)))), (2, (1, (.t 46)))])⟩,
   zf 48 6 1 1,
   zl 49 48,
   ⟨some 50, none, (.build [(.int .i64 0), (.int .i64 0), (.int .i64 0)] [(0, (1, (.c (.int .i64 6)))), (1, (1, (.c (.int .i64 1)))), (2, (1, (.t 49)))])⟩,
   zf 51 7 1 1,
   zl 52 51,
   ⟨some 53, none, (.build [(.int .i64 0), (.int .i64 0), (.int .i64 0)] [(0, (1, (.c (.int .i64 7)))), (1, (1, (.c (.int .i64 1)))), (2, (1, (.t 52)))])⟩,
   ⟨some 54, none, (.buildSlice 3 [(.int .i64 0), (.int .i64 0), (.int .i64 0)] 6 [(0, (3, (.t 38))), (3, (3, (.t 41))), (6, (3, (.t 44))), (9, (3, (.t 47))), (12, (3, (.t 50))), (15, (3, (.t 53)))])⟩,
   zs 55 54,
   zk 56 0])
 (.block 2
 (.loop af45_l0)))
 (.seq
 (.reg [zf 76 0 1 1,
   zl 77 76,
   ⟨some 78, none, (.conv (.int .u8) (.t 77))⟩,
   ⟨some 79, none, (.buildSlice 1 [(.int .u8 0)] 1 [(0, (1, (.t 78)))])⟩,
   zm 80 5,
   zs 81 80,
   ⟨some 82, none, (.conv (.int .u64) (.t 81))⟩,
   zc 83 58 [(.t 79), (.t 82), (.c (.int .i64 2))],
   zm 84 5,
   ⟨some 85, none, (.buildSlice 1 [(.slice none 0 0 none)] 2 [(0, (1, (.t 83))), (1, (1, (.t 84)))])⟩,
   zc 86 59 [(.t 85)],
   zm 2 86,
   zk 3 0]) .ret))))))⟩
theorem caf45 : cFunc Tryz.prog Tryz.f45 = some af45 := by kernel_rfl
/-- (*limelight/sfu.House).Control -/
def af46 : AFunc := ⟨87, [(.tmp 6)],
 (.seq
 (.reg [⟨some 6, none, (.mv (.c (.slice none 0 0 none)))⟩])
 (.seq
 (.reg [zm 11 2,
   zc 12 62 [(.t 11)],
   zm 10 12,
   ze 13 0 10,
   ze 14 1 10,
   ⟨some 7, none, (.alloc [(.int .i64 0), (.int .i64 0), (.slice none 0 0 none), (.int .i64 0), (.int .i64 0), (.int .i64 0), (.int .i64 0), (.int .i64 0)])⟩,
   ⟨none, none, (.store 8 (.t 7) (.t 13))⟩,
   zm 8 14])
 (.seq
 (.seq
 (.reg [zm 15 8,
   zd 16 .eql 15 0])
 (.cond (.t 16)
 (.dreg [zm 17 0,
   zn 18 17,
   zf 19 0 1 18,
   zl 20 19,
   zm 21 1,
   ⟨some 22, none, (.loadN 8 (.t 7))⟩,
   zc 23 81 [(.t 20), (.t 21), (.t 22)],
   zm 8 23] []) .skip))
 (.seq
 (.seq
 (.reg [zm 24 8,
   zd 25 .neq 24 0])
 (.cond (.t 25)
 (.seq
 (.reg [zm 26 0,
   zm 27 1,
   zm 28 8,
   ⟨some 29, none, (.build [(.int .i64 0), (.int .i64 0), (.slice none 0 0 none), (.int .i64 0), (.int .i64 0), (.int .i64 0), (.int .i64 0), (.int .i64 0)] [(0, (1, (.c (.int .i64 10)))), (7, (1, (.t 28)))])⟩,
   zc 30 82 [(.t 26), (.t 27), (.t 29)]])
 (.seq
 (.reg [zm 31 0,
   zc 32 38 [(.t 31)],
   zm 6 32]) .ret)) .skip))
 (.seq
 (.seq
 (.reg [zf 33 0 1 7,
   zl 34 33])
 (.block 0
 (.seq
 (.reg [zd 36 .eql 34 1,
   zm 35 36])
 (.cond (.t 35)
 (.seq
 (.reg [zf 37 1 1 7,
   zl 38 37,
   zc 39 83 [(.t 38)],
   zm 9 39])
 (.dreg [zm 40 0,
   zm 41 1,
   zm 42 9,
   zm 43 9,
   zc 44 69 [(.t 43)],
   zc 45 84 [(.t 44), (.c (.int .i64 6000))],
   ⟨some 46, none, (.build [(.ptr none), (.ptr none), (.ptr none), (.ptr none), (.slice none 0 0 none), (.bool false)] [(0, (1, (.t 42))), (1, (1, (.t 45)))])⟩,
   ⟨some 47, none, (.box (.t 46))⟩,
   zn 48 40,
   zf 49 1 6 48,
   ⟨some 50, none, (.ixArr 6 1 (.t 49) (.t 41))⟩,
   ⟨none, none, (.store 1 (.t 50) (.t 47))⟩] []))
 (.seq
 (.reg [zd 52 .eql 34 2,
   zm 51 52])
 (.cond (.t 51)
 (.reg [zm 53 0,
   zm 54 1,
   zc 55 85 [(.t 53), (.t 54)]])
 (.seq
 (.reg [zd 57 .eql 34 3,
   zm 56 57])
 (.cond (.t 56)
 (.reg [zm 58 0,
   zm 59 1,
   zf 60 2 1 7,
   zl 61 60,
   zc 62 86 [(.t 58), (.t 59), (.t 61)]])
 (.seq
 (.reg [zd 64 .eql 34 4,
   zm 63 64])
 (.cond (.t 63)
 (.reg [zm 65 0,
   zm 66 1,
   ⟨some 67, none, (.loadN 8 (.t 7))⟩,
   zc 68 87 [(.t 65), (.t 66), (.t 67)]])
 (.seq
 (.reg [zd 70 .eql 34 5,
   zm 69 70])
 (.cond (.t 69)
 (.reg [zm 71 0,
   zm 72 1,
   zf 73 3 1 7,
   zl 74 73,
   zc 75 88 [(.t 71), (.t 72), (.t 74)]])
 (.seq
 (.seq
 (.reg [zd 77 .eql 34 6,
   zm 76 77])
 (.cond (.t 76) .skip
 (.reg [zd 78 .eql 34 7,
   zm 76 78])))
 (.cond (.t 76)
 (.reg [zm 79 0,
   zm 80 1,
   ⟨some 81, none, (.loadN 8 (.t 7))⟩,
   zc 82 89 [(.t 79), (.t 80), (.t 81)]]) .skip))))))))))))))
 (.seq
 (.reg [zm 83 0,
   zc 84 37 [(.t 83)]])
 (.seq
 (.reg [zm 85 0,
   zc 86 38 [(.t 85)],
   zm 6 86]) .ret)))))))⟩
theorem caf46 : cFunc Tryz.prog Tryz.f46 = some af46 := by kernel_rfl
/-- limelight/rtcp.Is -/
def af47 : AFunc := ⟨18, [(.tmp 2)],
 (.seq
 (.reg [⟨some 2, none, (.mv (.c (.bool false)))⟩])
 (.seq
 (.reg [zm 3 0,
   zs 4 3,
   zd 5 .geq 4 2,
   zm 6 5,
   ⟨(some 7), (some (6, true)), (.mv (.t 0))⟩,
   ⟨(some 8), (some (6, true)), (.ixSlice 1 (.t 7) (.c (.int .i64 1)))⟩,
   ⟨(some 9), (some (6, true)), (.load1 (.t 8))⟩,
   ⟨(some 10), (some (6, true)), (.bin .geq .num (.t 9) (.c (.int .u8 192)))⟩,
   ⟨some 11, none, (.pick (.t 6) (.t 10) (.c (.bool false)))⟩,
   zm 12 11,
   ⟨(some 13), (some (12, true)), (.mv (.t 0))⟩,
   ⟨(some 14), (some (12, true)), (.ixSlice 1 (.t 13) (.c (.int .i64 1)))⟩,
   ⟨(some 15), (some (12, true)), (.load1 (.t 14))⟩,
   ⟨(some 16), (some (12, true)), (.bin .leq .num (.t 15) (.c (.int .u8 223)))⟩,
   ⟨some 17, none, (.pick (.t 12) (.t 16) (.c (.bool false)))⟩,
   zm 2 17]) .ret))⟩
theorem caf47 : cFunc Tryz.prog Tryz.f47 = some af47 := by kernel_rfl
def af48_l0 : AC :=
 (.seq
 (.reg [zb 52 .lss 51 50])
 (.seq
 (.cond (.t 52) .skip (.exit 1))
 (.seq
 (.block 2
 (.dreg [zf 53 5 1 7,
   zl 54 53,
   zm 55 4,
   zc 56 90 [(.t 55), (.c (.int .i64 4))],
   ⟨some 57, none, (.conv (.int .u32) (.t 56))⟩,
   ⟨some 58, none, (.buildSlice 1 [(.int .u32 0)] 1 [(0, (1, (.t 57)))])⟩,
   ⟨some 59, none, (.append 1 4 (.t 54) (.t 58))⟩,
   zf 60 5 1 7,
   ⟨none, none, (.store 1 (.t 60) (.t 59))⟩] [(1, 4), (1, 6)]))
 (.reg [⟨some 61, none, (.bin .add .num (.t 51) (.c (.int .u64 1)))⟩,
   zm 51 61]))))
/-- limelight/rtp.Read -/
def af48 : AFunc := ⟨127, [(.cellN 2 9), (.tmp 3)],
 (.seq
 (.reg [⟨some 2, none, (.alloc [(.bool false), (.int .i64 0), (.int .u16 0), (.int .u32 0), (.int .u32 0), (.slice none 0 0 none), (.int .u16 0), (.slice none 0 0 none), (.slice none 0 0 none)])⟩,
   zk 3 0])
 (.seq
 (.block 0
 (.seq
 (.reg [zm 11 0,
   zs 12 11,
   zd 13 .gtr 12 1500,
   zm 10 13])
 (.cond (.t 10)
 (.seq
 (.reg [⟨some 14, none, (.build [(.bool false), (.int .i64 0), (.int .u16 0), (.int .u32 0), (.int .u32 0), (.slice none 0 0 none), (.int .u16 0), (.slice none 0 0 none), (.slice none 0 0 none)] [])⟩,
   ⟨none, none, (.store 9 (.t 2) (.t 14))⟩,
   zk 3 3]) .ret)
 (.seq
 (.reg [zm 16 0,
   zs 17 16,
   zd 18 .eql 17 0,
   zm 15 18])
 (.cond (.t 15)
 (.seq
 (.reg [⟨some 19, none, (.build [(.bool false), (.int .i64 0), (.int .u16 0), (.int .u32 0), (.int .u32 0), (.slice none 0 0 none), (.int .u16 0), (.slice none 0 0 none), (.slice none 0 0 none)] [])⟩,
   ⟨none, none, (.store 9 (.t 2) (.t 19))⟩,
   zk 3 13]) .ret)
 (.seq
 (.reg [zm 21 0,
   ⟨some 22, none, (.ixSlice 1 (.t 21) (.c (.int .i64 0)))⟩,
   zl 23 22,
   ⟨some 24, none, (.bin .and .num (.t 23) (.c (.int .u8 192)))⟩,
   ⟨some 25, none, (.bin .neq .num (.t 24) (.c (.int .u8 128)))⟩,
   zm 20 25])
 (.cond (.t 20)
 (.seq
 (.reg [⟨some 26, none, (.build [(.bool false), (.int .i64 0), (.int .u16 0), (.int .u32 0), (.int .u32 0), (.slice none 0 0 none), (.int .u16 0), (.slice none 0 0 none), (.slice none 0 0 none)] [])⟩,
   ⟨none, none, (.store 9 (.t 2) (.t 26))⟩,
   zk 3 12]) .ret) .skip)))))))
 (.seq
 (.reg [zm 27 0,
   ⟨some 28, none, (.build [(.slice none 0 0 none), (.int .i64 0), (.bool false)] [(0, (1, (.t 27)))])⟩,
   ⟨some 29, none, (.box (.t 28))⟩,
   zm 4 29])
 (.seq
 (.reg [zm 30 4,
   zc 31 90 [(.t 30), (.c (.int .i64 1))],
   zm 32 4,
   zc 33 90 [(.t 32), (.c (.int .i64 1))],
   zm 5 31,
   zm 6 33])
 (.seq
 (.reg [zm 34 6,
   ⟨some 35, none, (.bin .geq .num (.t 34) (.c (.int .u64 128)))⟩,
   zm 36 6,
   ⟨some 37, none, (.bin .rem .num (.t 36) (.c (.int .u64 128)))⟩,
   ⟨some 38, none, (.conv (.int .i64) (.t 37))⟩,
   zm 39 4,
   zc 40 90 [(.t 39), (.c (.int .i64 2))],
   ⟨some 41, none, (.conv (.int .u16) (.t 40))⟩,
   zm 42 4,
   zc 43 90 [(.t 42), (.c (.int .i64 4))],
   ⟨some 44, none, (.conv (.int .u32) (.t 43))⟩,
   zm 45 4,
   zc 46 90 [(.t 45), (.c (.int .i64 4))],
   ⟨some 47, none, (.conv (.int .u32) (.t 46))⟩,
   ⟨some 48, none, (.build [(.bool false), (.int .i64 0), (.int .u16 0), (.int .u32 0), (.int .u32 0), (.slice none 0 0 none), (.int .u16 0), (.slice none 0 0 none), (.slice none 0 0 none)] [(0, (1, (.t 35))), (1, (1, (.t 38))), (2, (1, (.t 41))), (3, (1, (.t 44))), (4, (1, (.t 47)))])⟩,
   ⟨some 7, none, (.alloc [(.bool false), (.int .i64 0), (.int .u16 0), (.int .u32 0), (.int .u32 0), (.slice none 0 0 none), (.int .u16 0), (.slice none 0 0 none), (.slice none 0 0 none)])⟩,
   ⟨none, none, (.store 9 (.t 7) (.t 48))⟩])
 (.seq
 (.seq
 (.reg [zm 49 5,
   ⟨some 50, none, (.bin .and .num (.t 49) (.c (.int .u64 15)))⟩,
   ⟨some 51, none, (.mv (.c (.int .u64 0)))⟩])
 (.block 1
 (.loop af48_l0)))
 (.seq
 (.seq
 (.reg [zm 62 5,
   ⟨some 63, none, (.bin .and .num (.t 62) (.c (.int .u64 16)))⟩,
   ⟨some 64, none, (.bin .neq .num (.t 63) (.c (.int .u64 0)))⟩])
 (.cond (.t 64)
 (.seq
 (.reg [zm 65 4,
   zc 66 90 [(.t 65), (.c (.int .i64 2))],
   ⟨some 67, none, (.conv (.int .u16) (.t 66))⟩,
   zf 68 6 1 7,
   ⟨none, none, (.store 1 (.t 68) (.t 67))⟩])
 (.reg [zm 69 4,
   zm 70 4,
   zc 71 90 [(.t 70), (.c (.int .i64 2))],
   ⟨some 72, none, (.conv (.int .i64) (.t 71))⟩,
   ⟨some 73, none, (.bin .mul .num (.c (.int .i64 4)) (.t 72))⟩,
   zc 74 91 [(.t 69), (.t 73)],
   zf 75 7 1 7,
   ⟨none, none, (.store 1 (.t 75) (.t 74))⟩])) .skip))
 (.seq
 (.seq
 (.reg [zm 76 4,
   zn 77 76,
   zf 78 2 1 77,
   zl 79 78])
 (.cond (.t 79)
 (.seq
 (.reg [⟨some 80, none, (.build [(.bool false), (.int .i64 0), (.int .u16 0), (.int .u32 0), (.int .u32 0), (.slice none 0 0 none), (.int .u16 0), (.slice none 0 0 none), (.slice none 0 0 none)] [])⟩,
   ⟨none, none, (.store 9 (.t 2) (.t 80))⟩,
   zk 3 13]) .ret) .skip))
 (.seq
 (.reg [zm 81 0,
   zs 82 81,
   zm 8 82])
 (.seq
 (.seq
 (.reg [zm 83 5,
   ⟨some 84, none, (.bin .and .num (.t 83) (.c (.int .u64 32)))⟩,
   ⟨some 85, none, (.bin .neq .num (.t 84) (.c (.int .u64 0)))⟩])
 (.cond (.t 85)
 (.seq
 (.reg [zm 86 0,
   zm 87 8,
   zd 88 .sub 87 1,
   za 89 1 86 88,
   zl 90 89,
   ⟨some 91, none, (.conv (.int .i64) (.t 90))⟩,
   zm 9 91])
 (.seq
 (.seq
 (.reg [zm 92 9,
   zd 93 .eql 92 0,
   zm 94 93,
   ⟨(some 95), (some (94, false)), (.mv (.t 9))⟩,
   ⟨(some 96), (some (94, false)), (.mv (.t 8))⟩,
   ⟨(some 97), (some (94, false)), (.mv (.t 4))⟩,
   ⟨(some 98), (some (94, false)), (.nilCheck (.t 97))⟩,
   ⟨(some 99), (some (94, false)), (.fieldAddr 1 1 (.t 98))⟩,
   ⟨(some 100), (some (94, false)), (.load1 (.t 99))⟩,
   ⟨(some 101), (some (94, false)), (.bin .sub .num (.t 96) (.t 100))⟩,
   ⟨(some 102), (some (94, false)), (.bin .gtr .num (.t 95) (.t 101))⟩,
   ⟨some 103, none, (.pick (.t 94) (.c (.bool true)) (.t 102))⟩])
 (.cond (.t 103)
 (.seq
 (.reg [⟨some 104, none, (.build [(.bool false), (.int .i64 0), (.int .u16 0), (.int .u32 0), (.int .u32 0), (.slice none 0 0 none), (.int .u16 0), (.slice none 0 0 none), (.slice none 0 0 none)] [])⟩,
   ⟨none, none, (.store 9 (.t 2) (.t 104))⟩,
   zk 3 13]) .ret) .skip))
 (.reg [zm 105 8,
   zm 106 9,
   zb 107 .sub 105 106,
   zm 8 107]))) .skip))
 (.seq
 (.seq
 (.reg [zm 108 5,
   ⟨some 109, none, (.bin .and .num (.t 108) (.c (.int .u64 16)))⟩,
   ⟨some 110, none, (.bin .neq .num (.t 109) (.c (.int .u64 0)))⟩,
   zm 111 110,
   ⟨(some 112), (some (111, true)), (.fieldAddr 6 1 (.t 7))⟩,
   ⟨(some 113), (some (111, true)), (.load1 (.t 112))⟩,
   ⟨(some 114), (some (111, true)), (.bin .eql .num (.t 113) (.c (.int .u16 0)))⟩,
   ⟨some 115, none, (.pick (.t 111) (.t 114) (.c (.bool false)))⟩])
 (.cond (.t 115)
 (.seq
 (.reg [⟨some 116, none, (.build [(.bool false), (.int .i64 0), (.int .u16 0), (.int .u32 0), (.int .u32 0), (.slice none 0 0 none), (.int .u16 0), (.slice none 0 0 none), (.slice none 0 0 none)] [])⟩,
   ⟨none, none, (.store 9 (.t 2) (.t 116))⟩,
   zk 3 12]) .ret) .skip))
 (.seq
 (.reg [zm 117 4,
   zm 118 8,
   zm 119 4,
   zn 120 119,
   zf 121 1 1 120,
   zl 122 121,
   zb 123 .sub 118 122,
   zc 124 91 [(.t 117), (.t 123)],
   zf 125 8 1 7,
   ⟨none, none, (.store 1 (.t 125) (.t 124))⟩])
 (.seq
 (.reg [⟨some 126, none, (.loadN 9 (.t 7))⟩,
   ⟨none, none, (.store 9 (.t 2) (.t 126))⟩,
   zk 3 0]) .ret)))))))))))))⟩
theorem caf48 : cFunc Tryz.prog Tryz.f48 = some af48 := by kernel_rfl
/-- slices.Clip[[]limelight/api.Rtp,limelight/api.Rtp] -/
def af49 : AFunc := ⟨9, [(.tmp 2)],
 (.seq
 (.reg [⟨some 2, none, (.mv (.c (.slice none 0 0 none)))⟩])
 (.seq
 (.reg [zm 3 0,
   zm 4 0,
   zs 5 4,
   zm 6 0,
   zs 7 6,
   ⟨some 8, none, (.cut 9 (.t 3) none (some (.t 5)) (some (.t 7)))⟩,
   zm 2 8]) .ret))⟩
theorem caf49 : cFunc Tryz.prog Tryz.f49 = some af49 := by kernel_rfl
def af51_l0 : AC :=
 (.seq
 (.reg [zd 73 .lss 72 6])
 (.seq
 (.cond (.t 73) .skip (.exit 0))
 (.seq
 (.block 1
 (.seq
 (.reg [zm 74 72,
   ⟨some 75, none, (.ixAgg1 6 (.t 71) (.t 72))⟩,
   zm 13 74,
   zm 14 75])
 (.seq
 (.reg [zm 76 14,
   ⟨some 77, none, (.bin .neq .ptr (.t 76) (.c (.ptr none)))⟩])
 (.cond (.t 77)
 (.reg [zm 78 0,
   zm 79 13,
   zm 80 1,
   zm 81 10,
   zm 82 11,
   ⟨some 83, none, (.loadN 9 (.t 8))⟩,
   zc 84 96 [(.t 78), (.t 79), (.t 80), (.t 81), (.t 82), (.t 83)]]) .skip))))
 (.reg [zd 85 .add 72 1,
   zm 72 85]))))
/-- (*limelight/sfu.House).packet -/
def af51 : AFunc := ⟨86, [(.tmp 6)],
 (.seq
 (.reg [⟨some 6, none, (.mv (.c (.bool false)))⟩])
 (.seq
 (.reg [zm 15 0,
   zm 16 1,
   zn 17 15,
   zf 18 1 6 17,
   ⟨some 19, none, (.ixArr 6 1 (.t 18) (.t 16))⟩,
   zl 20 19,
   zn 21 20,
   zf 22 2 1 21,
   zl 23 22,
   zm 7 23])
 (.seq
 (.reg [zm 25 2,
   zc 26 48 [(.t 25)],
   zm 24 26,
   ze 27 0 24,
   ze 28 1 24,
   ⟨some 8, none, (.alloc [(.bool false), (.int .i64 0), (.int .u16 0), (.int .u32 0), (.int .u32 0), (.slice none 0 0 none), (.int .u16 0), (.slice none 0 0 none), (.slice none 0 0 none)])⟩,
   ⟨none, none, (.store 9 (.t 8) (.t 27))⟩,
   zm 9 28])
 (.seq
 (.seq
 (.reg [zm 29 9,
   zd 30 .neq 29 0,
   zm 31 30,
   ⟨(some 32), (some (31, false)), (.mv (.t 7))⟩,
   ⟨(some 33), (some (31, false)), (.bin .eql .ptr (.t 32) (.c (.ptr none)))⟩,
   ⟨some 34, none, (.pick (.t 31) (.c (.bool true)) (.t 33))⟩,
   zm 35 34,
   ⟨(some 36), (some (35, false)), (.mv (.t 7))⟩,
   ⟨(some 37), (some (35, false)), (.loadN 9 (.t 8))⟩,
   ⟨(some 38), (some (35, false)), (.call 94 [(.t 36), (.t 37)])⟩,
   ⟨(some 39), (some (35, false)), (.bin .lss .num (.t 38) (.c (.int .i64 0)))⟩,
   ⟨some 40, none, (.pick (.t 35) (.c (.bool true)) (.t 39))⟩])
 (.cond (.t 40)
 (.seq
 (.reg [⟨some 6, none, (.mv (.c (.bool false)))⟩]) .ret) .skip))
 (.seq
 (.reg [zm 41 7,
   ⟨some 42, none, (.loadN 9 (.t 8))⟩,
   zc 43 94 [(.t 41), (.t 42)],
   zm 10 43])
 (.seq
 (.dreg [zm 45 7,
   zm 46 10,
   ⟨some 47, none, (.loadN 9 (.t 8))⟩,
   zm 48 2,
   zs 49 48,
   zm 50 0,
   zn 51 50,
   zf 52 7 1 51,
   zl 53 52,
   zc 54 95 [(.t 45), (.t 46), (.t 47), (.t 49), (.t 53)],
   zm 44 54,
   ze 55 0 44,
   ze 56 1 44,
   zm 11 55,
   zm 12 56] [])
 (.seq
 (.seq
 (.reg [zm 57 12,
   ⟨some 58, none, (.un .not (.t 57))⟩])
 (.cond (.t 58)
 (.seq
 (.reg [zm 59 0,
   zn 60 59,
   zf 61 8 4 60,
   zf 62 1 1 61,
   zl 63 62,
   zd 64 .add 63 1,
   zn 65 59,
   zf 66 8 4 65,
   zf 67 1 1 66,
   ⟨none, none, (.store 1 (.t 67) (.t 64))⟩])
 (.seq
 (.reg [⟨some 6, none, (.mv (.c (.bool true)))⟩]) .ret)) .skip))
 (.seq
 (.seq
 (.reg [zm 68 0,
   zn 69 68,
   zf 70 1 6 69,
   ⟨some 71, none, (.loadN 6 (.t 70))⟩,
   zk 72 0])
 (.block 0
 (.loop af51_l0)))
 (.seq
 (.reg [⟨some 6, none, (.mv (.c (.bool true)))⟩]) .ret)))))))))⟩
theorem caf51 : cFunc Tryz.prog Tryz.f51 = some af51 := by kernel_rfl
/-- limelight/seq.Extend -/
def af52 : AFunc := ⟨9, [(.tmp 4)],
 (.seq
 (.reg [zk 4 0])
 (.seq
 (.reg [zm 5 0,
   zm 6 1,
   ⟨some 7, none, (.conv (.int .i64) (.t 6))⟩,
   zc 8 97 [(.t 5), (.t 7), (.c (.int .i64 16))],
   zm 4 8]) .ret))⟩
theorem caf52 : cFunc Tryz.prog Tryz.f52 = some af52 := by kernel_rfl
/-- limelight/seq.Stamp -/
def af53 : AFunc := ⟨9, [(.tmp 4)],
 (.seq
 (.reg [zk 4 0])
 (.seq
 (.reg [zm 5 0,
   zm 6 1,
   ⟨some 7, none, (.conv (.int .i64) (.t 6))⟩,
   zc 8 97 [(.t 5), (.t 7), (.c (.int .i64 32))],
   zm 4 8]) .ret))⟩
theorem caf53 : cFunc Tryz.prog Tryz.f53 = some af53 := by kernel_rfl
/-- limelight/clock.Add -/
def af54 : AFunc := ⟨12, [(.tmp 4)],
 (.seq
 (.reg [zk 4 0])
 (.seq
 (.reg [zm 5 0,
   zc 6 98 [(.t 5)],
   zm 7 1,
   zc 8 98 [(.t 7)],
   zb 9 .add 6 8,
   ⟨some 10, none, (.mn [(.t 9), (.c (.int .u64 9223372036854775807))])⟩,
   ⟨some 11, none, (.conv (.int .i64) (.t 10))⟩,
   zm 4 11]) .ret))⟩
theorem caf54 : cFunc Tryz.prog Tryz.f54 = some af54 := by kernel_rfl
/-- limelight/ext.right -/
def af55 : AFunc := ⟨41, [(.tmp 4)],
 (.seq
 (.reg [⟨some 3, none, (.box (.t 1))⟩,
   ⟨some 4, none, (.mv (.c (.bool false)))⟩])
 (.seq
 (.seq
 (.reg [zm 5 0,
   ⟨some 6, none, (.bin .eql .num (.t 5) (.c (.int .u16 48862)))⟩])
 (.cond (.t 6)
 (.seq
 (.reg [zf 7 0 1 3,
   zl 8 7,
   zd 9 .geq 8 1,
   zm 10 9,
   ⟨(some 11), (some (10, true)), (.fieldAddr 0 1 (.t 3))⟩,
   ⟨(some 12), (some (10, true)), (.load1 (.t 11))⟩,
   ⟨(some 13), (some (10, true)), (.bin .leq .num (.t 12) (.c (.int .i64 14)))⟩,
   ⟨some 14, none, (.pick (.t 10) (.t 13) (.c (.bool false)))⟩,
   zm 15 14,
   ⟨(some 16), (some (15, true)), (.fieldAddr 1 1 (.t 3))⟩,
   ⟨(some 17), (some (15, true)), (.load1 (.t 16))⟩,
   ⟨(some 18), (some (15, true)), (.len (.t 17))⟩,
   ⟨(some 19), (some (15, true)), (.bin .geq .num (.t 18) (.c (.int .i64 1)))⟩,
   ⟨some 20, none, (.pick (.t 15) (.t 19) (.c (.bool false)))⟩,
   zm 21 20,
   ⟨(some 22), (some (21, true)), (.fieldAddr 1 1 (.t 3))⟩,
   ⟨(some 23), (some (21, true)), (.load1 (.t 22))⟩,
   ⟨(some 24), (some (21, true)), (.len (.t 23))⟩,
   ⟨(some 25), (some (21, true)), (.bin .leq .num (.t 24) (.c (.int .i64 16)))⟩,
   ⟨some 26, none, (.pick (.t 21) (.t 25) (.c (.bool false)))⟩,
   zm 4 26]) .ret) .skip))
 (.seq
 (.reg [zf 27 0 1 3,
   zl 28 27,
   zd 29 .geq 28 1,
   zm 30 29,
   ⟨(some 31), (some (30, true)), (.fieldAddr 0 1 (.t 3))⟩,
   ⟨(some 32), (some (30, true)), (.load1 (.t 31))⟩,
   ⟨(some 33), (some (30, true)), (.bin .leq .num (.t 32) (.c (.int .i64 255)))⟩,
   ⟨some 34, none, (.pick (.t 30) (.t 33) (.c (.bool false)))⟩,
   zm 35 34,
   ⟨(some 36), (some (35, true)), (.fieldAddr 1 1 (.t 3))⟩,
   ⟨(some 37), (some (35, true)), (.load1 (.t 36))⟩,
   ⟨(some 38), (some (35, true)), (.len (.t 37))⟩,
   ⟨(some 39), (some (35, true)), (.bin .leq .num (.t 38) (.c (.int .i64 255)))⟩,
   ⟨some 40, none, (.pick (.t 35) (.t 39) (.c (.bool false)))⟩,
   zm 4 40]) .ret)))⟩
theorem caf55 : cFunc Tryz.prog Tryz.f55 = some af55 := by kernel_rfl
def af56_l0 : AC :=
 (.seq
 (.seq
 (.reg [zm 15 5,
   zs 16 15,
   zm 17 1,
   zb 18 .rem 16 17,
   zd 19 .neq 18 0])
 (.cond (.t 19) .skip (.exit 0)))
 (.block 1
 (.reg [zm 20 5,
   ⟨some 21, none, (.buildSlice 1 [(.int .u8 0)] 1 [(0, (1, (.c (.int .u8 0))))])⟩,
   ⟨some 22, none, (.append 1 1 (.t 20) (.t 21))⟩,
   zm 5 22])))
/-- limelight/octet.Pad -/
def af56 : AFunc := ⟨25, [(.tmp 4)],
 (.seq
 (.reg [⟨some 4, none, (.mv (.c (.slice none 0 0 none)))⟩])
 (.seq
 (.reg [zm 6 0,
   zc 7 99 [(.t 6)],
   zm 5 7])
 (.seq
 (.seq
 (.reg [zm 8 1,
   zd 9 .lss 8 1,
   zm 10 9,
   ⟨(some 11), (some (10, false)), (.mv (.t 1))⟩,
   ⟨(some 12), (some (10, false)), (.bin .gtr .num (.t 11) (.c (.int .i64 64)))⟩,
   ⟨some 13, none, (.pick (.t 10) (.c (.bool true)) (.t 12))⟩])
 (.cond (.t 13)
 (.seq
 (.reg [zm 14 5,
   zm 4 14]) .ret) .skip))
 (.seq
 (.block 0
 (.loop af56_l0))
 (.seq
 (.reg [zm 23 5,
   zc 24 100 [(.t 23)],
   zm 4 24]) .ret)))))⟩
theorem caf56 : cFunc Tryz.prog Tryz.f56 = some af56 := by kernel_rfl
/-- limelight/rtp.Right -/
def af57 : AFunc := ⟨40, [(.tmp 2)],
 (.seq
 (.reg [⟨some 1, none, (.box (.t 0))⟩,
   zk 2 0])
 (.seq
 (.block 0
 (.seq
 (.reg [zf 4 1 1 1,
   zl 5 4,
   zd 6 .lss 5 0,
   zm 7 6,
   ⟨(some 8), (some (7, false)), (.fieldAddr 1 1 (.t 1))⟩,
   ⟨(some 9), (some (7, false)), (.load1 (.t 8))⟩,
   ⟨(some 10), (some (7, false)), (.bin .gtr .num (.t 9) (.c (.int .i64 127)))⟩,
   ⟨some 11, none, (.pick (.t 7) (.c (.bool true)) (.t 10))⟩,
   zm 12 11,
   ⟨(some 13), (some (12, false)), (.fieldAddr 5 1 (.t 1))⟩,
   ⟨(some 14), (some (12, false)), (.load1 (.t 13))⟩,
   ⟨(some 15), (some (12, false)), (.len (.t 14))⟩,
   ⟨(some 16), (some (12, false)), (.bin .gtr .num (.t 15) (.c (.int .i64 15)))⟩,
   ⟨some 17, none, (.pick (.t 12) (.c (.bool true)) (.t 16))⟩,
   zm 18 17,
   ⟨(some 19), (some (18, false)), (.fieldAddr 7 1 (.t 1))⟩,
   ⟨(some 20), (some (18, false)), (.load1 (.t 19))⟩,
   ⟨(some 21), (some (18, false)), (.len (.t 20))⟩,
   ⟨(some 22), (some (18, false)), (.bin .rem .num (.t 21) (.c (.int .i64 4)))⟩,
   ⟨(some 23), (some (18, false)), (.bin .neq .num (.t 22) (.c (.int .i64 0)))⟩,
   ⟨some 24, none, (.pick (.t 18) (.c (.bool true)) (.t 23))⟩,
   zm 25 24,
   ⟨(some 26), (some (25, false)), (.fieldAddr 6 1 (.t 1))⟩,
   ⟨(some 27), (some (25, false)), (.load1 (.t 26))⟩,
   ⟨(some 28), (some (25, false)), (.bin .eql .num (.t 27) (.c (.int .u16 0)))⟩,
   ⟨(some 29), (some (25, false)), (.mv (.t 28))⟩,
   ⟨(some 30), (some (29, true)), (.fieldAddr 7 1 (.t 1))⟩,
   ⟨(some 31), (some (29, true)), (.load1 (.t 30))⟩,
   ⟨(some 32), (some (29, true)), (.len (.t 31))⟩,
   ⟨(some 33), (some (29, true)), (.bin .gtr .num (.t 32) (.c (.int .i64 0)))⟩,
   ⟨(some 34), (some (25, false)), (.pick (.t 29) (.t 33) (.c (.bool false)))⟩,
   ⟨some 35, none, (.pick (.t 25) (.c (.bool true)) (.t 34))⟩,
   zm 3 35])
 (.cond (.t 3)
 (.seq
 (.reg [zk 2 1]) .ret)
 (.seq
 (.reg [⟨some 37, none, (.loadN 9 (.t 1))⟩,
   zc 38 101 [(.t 37)],
   zd 39 .gtr 38 1500,
   zm 36 39])
 (.cond (.t 36)
 (.seq
 (.reg [zk 2 3]) .ret) .skip)))))
 (.seq
 (.reg [zk 2 0]) .ret)))⟩
theorem caf57 : cFunc Tryz.prog Tryz.f57 = some af57 := by kernel_rfl
def af58_l0 : AC :=
 (.seq
 (.seq
 (.reg [zm 20 8,
   zd 21 .geq 20 0])
 (.cond (.t 21) .skip (.exit 0)))
 (.seq
 (.block 1
 (.reg [zm 24 7,
   zm 25 1,
   zm 26 8,
   zd 27 .mul 26 8,
   zb 28 .shr 25 27,
   ⟨some 29, none, (.conv (.int .u8) (.t 28))⟩,
   ⟨some 30, none, (.buildSlice 1 [(.int .u8 0)] 1 [(0, (1, (.t 29)))])⟩,
   ⟨some 31, none, (.append 1 1 (.t 24) (.t 30))⟩,
   zm 7 31]))
 (.reg [zm 22 8,
   zd 23 .sub 22 1,
   zm 8 23])))
/-- limelight/octet.Put -/
def af58 : AFunc := ⟨34, [(.tmp 6)],
 (.seq
 (.reg [⟨some 6, none, (.mv (.c (.slice none 0 0 none)))⟩])
 (.seq
 (.reg [zm 9 0,
   zc 10 99 [(.t 9)],
   zm 7 10])
 (.seq
 (.seq
 (.reg [zm 11 2,
   zd 12 .lss 11 1,
   zm 13 12,
   ⟨(some 14), (some (13, false)), (.mv (.t 2))⟩,
   ⟨(some 15), (some (13, false)), (.bin .gtr .num (.t 14) (.c (.int .i64 8)))⟩,
   ⟨some 16, none, (.pick (.t 13) (.c (.bool true)) (.t 15))⟩])
 (.cond (.t 16)
 (.seq
 (.reg [zm 17 7,
   zm 6 17]) .ret) .skip))
 (.seq
 (.seq
 (.reg [zm 18 2,
   zd 19 .sub 18 1,
   zm 8 19])
 (.block 0
 (.loop af58_l0)))
 (.seq
 (.reg [zm 32 7,
   zc 33 100 [(.t 32)],
   zm 6 33]) .ret)))))⟩
theorem caf58 : cFunc Tryz.prog Tryz.f58 = some af58 := by kernel_rfl
def af59_l0 : AC :=
 (.seq
 (.reg [zb 28 .lss 27 26])
 (.seq
 (.cond (.t 28) .skip (.exit 2))
 (.seq
 (.block 3
 (.seq
 (.reg [za 29 1 25 27,
   zl 30 29,
   zm 8 30])
 (.reg [zm 31 6,
   zm 32 8,
   ⟨some 33, none, (.append 1 1 (.t 31) (.t 32))⟩,
   zm 6 33])))
 (.reg [zd 34 .add 27 1,
   zm 27 34]))))
def af59_l1 : AC :=
 (.seq
 (.reg [zb 12 .lss 11 10])
 (.seq
 (.cond (.t 12) .skip (.exit 0))
 (.seq
 (.block 1
 (.seq
 (.reg [za 13 1 9 11,
   zl 14 13,
   zm 5 14])
 (.seq
 (.reg [zm 15 3,
   zm 16 5,
   zs 17 16,
   zb 18 .add 15 17,
   zm 3 18])
 (.seq
 (.reg [zm 19 3,
   zd 20 .lss 19 0])
 (.cond (.t 20)
 (.reg [⟨some 21, none, (.mkIface 9 (.c (.str [108, 101, 110, 32, 111, 117, 116, 32, 111, 102, 32, 114, 97, 110, 103, 101])))⟩,
   ⟨none, none, .stop⟩]) .skip)))))
 (.reg [zd 22 .add 11 1,
   zm 11 22]))))
/-- slices.Concat[[]byte,byte] -/
def af59 : AFunc := ⟨36, [(.tmp 2)],
 (.seq
 (.reg [⟨some 2, none, (.mv (.c (.slice none 0 0 none)))⟩])
 (.seq
 (.reg [zk 3 0])
 (.seq
 (.seq
 (.reg [zm 9 0,
   zs 10 9,
   zk 11 0])
 (.block 0
 (.loop af59_l1)))
 (.seq
 (.reg [zm 23 3,
   zc 24 102 [(.c (.slice none 0 0 none)), (.t 23)],
   zm 6 24])
 (.seq
 (.seq
 (.reg [zm 25 0,
   zs 26 25,
   zk 27 0])
 (.block 2
 (.loop af59_l0)))
 (.seq
 (.reg [zm 35 6,
   zm 2 35]) .ret))))))⟩
theorem caf59 : cFunc Tryz.prog Tryz.f59 = some af59 := by kernel_rfl
/-- slices.ContainsFunc[[]limelight/api.Sent,limelight/api.Sent] -/
def af60 : AFunc := ⟨9, [(.tmp 4)],
 (.seq
 (.reg [⟨some 4, none, (.mv (.c (.bool false)))⟩])
 (.seq
 (.reg [zm 5 0,
   zm 6 1,
   zc 7 103 [(.t 5), (.t 6)],
   zd 8 .geq 7 0,
   zm 4 8]) .ret))⟩
theorem caf60 : cFunc Tryz.prog Tryz.f60 = some af60 := by kernel_rfl
def af62_l0 : AC :=
 (.seq
 (.seq
 (.reg [zm 34 7,
   zd 35 .add 34 1,
   zm 36 0,
   zs 37 36,
   zb 38 .lss 35 37])
 (.cond (.t 38) .skip (.exit 0)))
 (.block 1
 (.seq
 (.reg [zm 40 0,
   zm 41 7,
   zd 42 .add 41 2,
   zm 43 0,
   zm 44 7,
   zd 45 .add 44 1,
   za 46 1 43 45,
   zl 47 46,
   ⟨some 48, none, (.conv (.int .i64) (.t 47))⟩,
   zc 49 105 [(.t 40), (.t 42), (.t 48)],
   zm 39 49,
   ze 50 0 39,
   ze 51 1 39,
   zm 8 50,
   zm 9 51])
 (.seq
 (.seq
 (.reg [zm 52 9,
   ⟨some 53, none, (.un .not (.t 52))⟩])
 (.cond (.t 53)
 (.seq
 (.reg [⟨some 54, none, (.build [(.int .i64 0), (.int .i64 0), (.slice none 0 0 none), (.int .i64 0), (.int .i64 0), (.int .i64 0), (.int .i64 0), (.int .i64 0)] [])⟩,
   ⟨none, none, (.store 8 (.t 2) (.t 54))⟩,
   zk 3 12]) .ret) .skip))
 (.seq
 (.reg [zm 55 0,
   zm 56 7,
   za 57 1 55 56,
   zl 58 57,
   ⟨some 59, none, (.conv (.int .i64) (.t 58))⟩,
   zm 60 8,
   zc 61 106 [(.t 6), (.t 59), (.t 60)]])
 (.reg [zm 62 7,
   zm 63 8,
   zs 64 63,
   ⟨some 65, none, (.bin .add .num (.c (.int .i64 2)) (.t 64))⟩,
   zb 66 .add 62 65,
   zm 7 66]))))))
/-- limelight/ctl.Read -/
def af62 : AFunc := ⟨82, [(.cellN 2 8), (.tmp 3)],
 (.seq
 (.reg [⟨some 2, none, (.alloc [(.int .i64 0), (.int .i64 0), (.slice none 0 0 none), (.int .i64 0), (.int .i64 0), (.int .i64 0), (.int .i64 0), (.int .i64 0)])⟩,
   zk 3 0])
 (.seq
 (.reg [zm 13 0,
   zc 14 104 [(.t 13), (.c (.int .i64 1)), (.c (.int .i64 2))],
   zm 12 14,
   ze 15 0 12,
   ze 16 1 12,
   zm 4 15,
   zm 5 16])
 (.seq
 (.seq
 (.reg [zm 17 0,
   zs 18 17,
   zd 19 .lss 18 3,
   zm 20 19,
   ⟨(some 21), (some (20, false)), (.mv (.t 0))⟩,
   ⟨(some 22), (some (20, false)), (.len (.t 21))⟩,
   ⟨(some 23), (some (20, false)), (.bin .sub .num (.t 22) (.c (.int .i64 3)))⟩,
   ⟨(some 24), (some (20, false)), (.mv (.t 4))⟩,
   ⟨(some 25), (some (20, false)), (.conv (.int .i64) (.t 24))⟩,
   ⟨(some 26), (some (20, false)), (.bin .lss .num (.t 23) (.t 25))⟩,
   ⟨some 27, none, (.pick (.t 20) (.c (.bool true)) (.t 26))⟩])
 (.cond (.t 27)
 (.seq
 (.reg [⟨some 28, none, (.build [(.int .i64 0), (.int .i64 0), (.slice none 0 0 none), (.int .i64 0), (.int .i64 0), (.int .i64 0), (.int .i64 0), (.int .i64 0)] [])⟩,
   ⟨none, none, (.store 8 (.t 2) (.t 28))⟩,
   zk 3 13]) .ret) .skip))
 (.seq
 (.reg [zm 29 0,
   ⟨some 30, none, (.ixSlice 1 (.t 29) (.c (.int .i64 0)))⟩,
   zl 31 30,
   ⟨some 32, none, (.conv (.int .i64) (.t 31))⟩,
   ⟨some 33, none, (.build [(.int .i64 0), (.int .i64 0), (.slice none 0 0 none), (.int .i64 0), (.int .i64 0), (.int .i64 0), (.int .i64 0), (.int .i64 0)] [(0, (1, (.t 32)))])⟩,
   ⟨some 6, none, (.alloc [(.int .i64 0), (.int .i64 0), (.slice none 0 0 none), (.int .i64 0), (.int .i64 0), (.int .i64 0), (.int .i64 0), (.int .i64 0)])⟩,
   ⟨none, none, (.store 8 (.t 6) (.t 33))⟩])
 (.seq
 (.seq
 (.reg [zk 7 3])
 (.block 0
 (.loop af62_l0)))
 (.seq
 (.seq
 (.reg [⟨some 68, none, (.loadN 8 (.t 6))⟩,
   zc 69 45 [(.t 68)],
   zm 67 69,
   ze 70 0 67,
   ze 71 1 67,
   zm 10 70,
   zm 11 71])
 (.seq
 (.reg [zm 72 11,
   zd 73 .neq 72 0,
   zm 74 73,
   ⟨(some 75), (some (74, false)), (.mv (.t 10))⟩,
   ⟨(some 76), (some (74, false)), (.mv (.t 0))⟩,
   ⟨(some 77), (some (74, false)), (.call 107 [(.t 75), (.t 76)])⟩,
   ⟨(some 78), (some (74, false)), (.un .not (.t 77))⟩,
   ⟨some 79, none, (.pick (.t 74) (.c (.bool true)) (.t 78))⟩])
 (.cond (.t 79)
 (.seq
 (.reg [⟨some 80, none, (.build [(.int .i64 0), (.int .i64 0), (.slice none 0 0 none), (.int .i64 0), (.int .i64 0), (.int .i64 0), (.int .i64 0), (.int .i64 0)] [])⟩,
   ⟨none, none, (.store 8 (.t 2) (.t 80))⟩,
   zk 3 12]) .ret) .skip)))
 (.seq
 (.reg [⟨some 81, none, (.loadN 8 (.t 6))⟩,
   ⟨none, none, (.store 8 (.t 2) (.t 81))⟩,
   zk 3 0]) .ret)))))))⟩
theorem caf62 : cFunc Tryz.prog Tryz.f62 = some af62 := by kernel_rfl
/-- limelight/room.is -/
def af63 : AFunc := ⟨9, [(.tmp 2)],
 (.seq
 (.reg [⟨some 2, none, (.mv (.c (.bool false)))⟩])
 (.seq
 (.reg [zm 3 0,
   zd 4 .geq 3 0,
   zm 5 4,
   ⟨(some 6), (some (5, true)), (.mv (.t 0))⟩,
   ⟨(some 7), (some (5, true)), (.bin .lss .num (.t 6) (.c (.int .i64 6)))⟩,
   ⟨some 8, none, (.pick (.t 5) (.t 7) (.c (.bool false)))⟩,
   zm 2 8]) .ret))⟩
theorem caf63 : cFunc Tryz.prog Tryz.f63 = some af63 := by kernel_rfl
/-- slices.Clip[[]limelight/api.Layer,limelight/api.Layer] -/
def af64 : AFunc := ⟨9, [(.tmp 2)],
 (.seq
 (.reg [⟨some 2, none, (.mv (.c (.slice none 0 0 none)))⟩])
 (.seq
 (.reg [zm 3 0,
   zm 4 0,
   zs 5 4,
   zm 6 0,
   zs 7 6,
   ⟨some 8, none, (.cut 3 (.t 3) none (some (.t 5)) (some (.t 7)))⟩,
   zm 2 8]) .ret))⟩
theorem caf64 : cFunc Tryz.prog Tryz.f64 = some af64 := by kernel_rfl
/-- slices.Clone[[]limelight/api.Layer,limelight/api.Layer] -/
def af65 : AFunc := ⟨8, [(.tmp 2)],
 (.seq
 (.reg [⟨some 2, none, (.mv (.c (.slice none 0 0 none)))⟩])
 (.seq
 (.seq
 (.reg [zm 3 0,
   ⟨some 4, none, (.bin .eql .slc (.t 3) (.c (.slice none 0 0 none)))⟩])
 (.cond (.t 4)
 (.seq
 (.reg [⟨some 2, none, (.mv (.c (.slice none 0 0 none)))⟩]) .ret) .skip))
 (.seq
 (.reg [⟨some 5, none, (.buildSlice 3 [(.str []), (.int .u32 0), (.int .i64 0)] 0 [])⟩,
   zm 6 0,
   ⟨some 7, none, (.append 3 32 (.t 5) (.t 6))⟩,
   zm 2 7]) .ret)))⟩
theorem caf65 : cFunc Tryz.prog Tryz.f65 = some af65 := by kernel_rfl
/-- (*limelight/bucket.Bucket).Tick -/
def af66 : AFunc := ⟨24, [],
 (.dreg [zm 4 0,
   zm 5 0,
   zn 6 5,
   zf 7 2 1 6,
   zl 8 7,
   zm 9 0,
   zn 10 9,
   zf 11 0 1 10,
   zl 12 11,
   zm 13 1,
   zc 14 108 [(.t 12), (.t 13)],
   zc 15 54 [(.t 8), (.t 14)],
   zm 16 0,
   zn 17 16,
   zf 18 1 1 17,
   zl 19 18,
   zc 20 108 [(.t 19), (.c (.int .i64 1000000))],
   ⟨some 21, none, (.mn [(.t 15), (.t 20)])⟩,
   zn 22 4,
   zf 23 2 1 22,
   ⟨none, none, (.store 1 (.t 23) (.t 21))⟩] [(4, 11), (15, 10), (15, 11)])⟩
theorem caf66 : cFunc Tryz.prog Tryz.f66 = some af66 := by kernel_rfl
def af67_l0 : AC :=
 (.seq
 (.reg [zb 17 .lss 16 15])
 (.seq
 (.cond (.t 17) .skip (.exit 0))
 (.seq
 (.block 1
 (.seq
 (.reg [za 18 2 14 16,
   ⟨some 19, none, (.loadN 2 (.t 18))⟩,
   ⟨some 7, none, (.alloc [(.int .i64 0), (.int .u64 0)])⟩,
   ⟨none, none, (.store 2 (.t 7) (.t 19))⟩])
 (.reg [zm 20 0,
   zm 21 0,
   zn 22 21,
   zf 23 3 1 22,
   zl 24 23,
   ⟨some 25, none, (.mkFunc 111 [(.t 7)])⟩,
   zc 26 110 [(.t 24), (.t 25)],
   zn 27 20,
   zf 28 3 1 27,
   ⟨none, none, (.store 1 (.t 28) (.t 26))⟩])))
 (.reg [zd 29 .add 16 1,
   zm 16 29]))))
/-- (*limelight/limit.Limit).Tick -/
def af67 : AFunc := ⟨32, [(.tmp 4)],
 (.seq
 (.reg [zk 4 0])
 (.seq
 (.reg [zm 8 0,
   zn 9 8,
   zf 10 4 1 9,
   zl 11 10,
   zm 12 1,
   zc 13 109 [(.t 11), (.t 12)],
   zm 5 13])
 (.seq
 (.seq
 (.reg [zm 14 5,
   zs 15 14,
   zk 16 0])
 (.block 0
 (.loop af67_l0)))
 (.seq
 (.reg [zm 30 5,
   zs 31 30,
   zm 4 31]) .ret))))⟩
theorem caf67 : cFunc Tryz.prog Tryz.f67 = some af67 := by kernel_rfl
/-- (*limelight/pace.Queue).Rate -/
def af68 : AFunc := ⟨10, [],
 (.reg [zm 4 0,
   zn 5 4,
   zf 6 1 1 5,
   zl 7 6,
   zm 8 1,
   zc 9 112 [(.t 7), (.t 8)]])⟩
theorem caf68 : cFunc Tryz.prog Tryz.f68 = some af68 := by kernel_rfl
/-- (*limelight/limit.Limit).Rate -/
def af69 : AFunc := ⟨35, [(.tmp 2)],
 (.seq
 (.reg [zk 2 0])
 (.seq
 (.reg [zm 6 0,
   zn 7 6,
   zf 8 0 1 7,
   zl 9 8,
   zm 3 9])
 (.seq
 (.seq
 (.reg [zm 10 0,
   zn 11 10,
   zf 12 2 1 11,
   zl 13 12])
 (.cond (.t 13)
 (.reg [zm 14 3,
   zm 15 0,
   zn 16 15,
   zf 17 1 1 16,
   zl 18 17,
   zc 19 113 [(.t 18)],
   ⟨some 20, none, (.mn [(.t 14), (.t 19)])⟩,
   zm 3 20]) .skip))
 (.seq
 (.seq
 (.reg [zm 22 0,
   zn 23 22,
   zf 24 3 1 23,
   zl 25 24,
   zc 26 114 [(.t 25)],
   zm 21 26,
   ze 27 0 21,
   ze 28 1 21,
   zm 4 27,
   zm 5 28])
 (.seq
 (.reg [zm 29 5])
 (.cond (.t 29)
 (.reg [zm 30 3,
   zm 31 4,
   zc 32 113 [(.t 31)],
   ⟨some 33, none, (.mn [(.t 30), (.t 32)])⟩,
   zm 3 33]) .skip)))
 (.seq
 (.reg [zm 34 3,
   zm 2 34]) .ret)))))⟩
theorem caf69 : cFunc Tryz.prog Tryz.f69 = some af69 := by kernel_rfl
def af70_l0 : AC :=
 (.seq
 (.reg [zb 33 .lss 32 31])
 (.seq
 (.cond (.t 33) .skip (.exit 0))
 (.seq
 (.block 1
 (.seq
 (.reg [zm 34 32,
   za 35 1 30 32,
   zl 36 35,
   zm 6 34,
   zm 7 36])
 (.seq
 (.reg [zm 37 4,
   zn 38 37,
   zf 39 4 1 38,
   zl 40 39,
   zm 41 6,
   za 42 1 40 41,
   zl 43 42,
   zm 8 43])
 (.seq
 (.reg [zm 44 8,
   zm 45 7,
   zn 46 44,
   zf 47 5 1 46,
   ⟨none, none, (.store 1 (.t 47) (.t 45))⟩])
 (.seq
 (.seq
 (.reg [zm 48 8,
   zn 49 48,
   zf 50 2 1 49,
   zl 51 50,
   zm 52 7,
   zc 53 118 [(.t 51), (.t 52)]])
 (.cond (.t 53)
 (.reg [zm 54 0,
   zm 55 8,
   zn 56 55,
   zf 57 0 1 56,
   zl 58 57,
   zm 59 7,
   zc 60 119 [(.t 54), (.t 58), (.t 59)]]) .skip))
 (.seq
 (.reg [zm 61 7,
   zd 62 .geq 61 0])
 (.cond (.t 62)
 (.dreg [zm 63 0,
   zm 64 8,
   zn 65 64,
   zf 66 0 1 65,
   zl 67 66,
   zn 68 63,
   zf 69 1 6 68,
   ⟨some 70, none, (.ixArr 6 1 (.t 69) (.t 67))⟩,
   zl 71 70,
   zn 72 71,
   zf 73 3 1 72,
   zl 74 73,
   zm 75 7,
   zm 76 0,
   zn 77 76,
   zf 78 7 1 77,
   zl 79 78,
   zc 80 120 [(.t 74), (.t 75), (.t 79)]] []) .skip)))))))
 (.reg [zd 81 .add 32 1,
   zm 32 81]))))
/-- (*limelight/sfu.House).give -/
def af70 : AFunc := ⟨82, [],
 (.seq
 (.reg [zm 9 0,
   zm 10 1,
   zn 11 9,
   zf 12 1 6 11,
   ⟨some 13, none, (.ixArr 6 1 (.t 12) (.t 10))⟩,
   zl 14 13,
   zm 4 14])
 (.seq
 (.reg [zm 15 4,
   zc 16 40 [(.t 15)],
   zm 5 16])
 (.seq
 (.seq
 (.reg [zm 17 4,
   zn 18 17,
   zf 19 5 1 18,
   zl 20 19])
 (.cond (.t 20)
 (.reg [⟨some 5, none, (.mv (.c (.slice none 0 0 none)))⟩]) .skip))
 (.seq
 (.reg [zm 21 4,
   zn 22 21,
   zf 23 5 1 22,
   ⟨none, none, (.store 1 (.t 23) (.c (.bool false)))⟩])
 (.seq
 (.reg [zm 24 0,
   zm 25 1,
   zc 26 116 [(.t 24), (.t 25), (.c (.bool false))],
   zm 27 4,
   zc 28 117 [(.t 27)],
   zm 29 5,
   zc 30 115 [(.t 26), (.t 28), (.t 29)],
   zs 31 30,
   zk 32 0])
 (.block 0
 (.loop af70_l0)))))))⟩
theorem caf70 : cFunc Tryz.prog Tryz.f70 = some af70 := by kernel_rfl
def af71_l0 : AC :=
 (.seq
 (.reg [zb 28 .lss 27 26])
 (.seq
 (.cond (.t 28) .skip (.exit 2))
 (.seq
 (.block 3
 (.seq
 (.reg [zm 29 27,
   za 30 1 25 27,
   zl 31 30,
   zm 6 29,
   zm 7 31])
 (.seq
 (.reg [zm 32 7,
   zd 33 .geq 32 0])
 (.cond (.t 33)
 (.reg [zm 34 5,
   zn 35 34,
   zf 36 4 1 35,
   zl 37 36,
   zm 38 6,
   za 39 1 37 38,
   zl 40 39,
   zn 41 40,
   zf 42 0 1 41,
   zl 43 42,
   zm 44 7,
   ⟨some 45, none, (.ixArr 6 3 (.t 3) (.t 43))⟩,
   ⟨some 46, none, (.ixArr 3 1 (.t 45) (.t 44))⟩,
   ⟨none, none, (.store 1 (.t 46) (.c (.bool true)))⟩]) .skip))))
 (.reg [zd 47 .add 27 1,
   zm 27 47]))))
def af71_l1 : AC :=
 (.seq
 (.reg [zd 13 .lss 12 6])
 (.seq
 (.cond (.t 13) .skip (.exit 0))
 (.seq
 (.block 1
 (.seq
 (.reg [zm 14 12,
   ⟨some 15, none, (.ixAgg1 6 (.t 11) (.t 12))⟩,
   zm 4 14,
   zm 5 15])
 (.seq
 (.seq
 (.reg [zm 16 5,
   ⟨some 17, none, (.bin .eql .ptr (.t 16) (.c (.ptr none)))⟩])
 (.cond (.t 17) (.exit 1) .skip))
 (.seq
 (.reg [zm 18 0,
   zm 19 4,
   zc 20 116 [(.t 18), (.t 19), (.c (.bool true))],
   zm 21 5,
   zc 22 117 [(.t 21)],
   zm 23 5,
   zc 24 40 [(.t 23)],
   zc 25 115 [(.t 20), (.t 22), (.t 24)],
   zs 26 25,
   zk 27 0])
 (.block 2
 (.loop af71_l0))))))
 (.reg [zd 48 .add 12 1,
   zm 12 48]))))
/-- (*limelight/sfu.House).wanted -/
def af71 : AFunc := ⟨50, [(.cellN 2 18)],
 (.seq
 (.reg [⟨some 2, none, (.alloc [(.bool false), (.bool false), (.bool false), (.bool false), (.bool false), (.bool false), (.bool false), (.bool false), (.bool false), (.bool false), (.bool false), (.bool false), (.bool false), (.bool false), (.bool false), (.bool false), (.bool false), (.bool false)])⟩])
 (.seq
 (.reg [⟨some 3, none, (.alloc [(.bool false), (.bool false), (.bool false), (.bool false), (.bool false), (.bool false), (.bool false), (.bool false), (.bool false), (.bool false), (.bool false), (.bool false), (.bool false), (.bool false), (.bool false), (.bool false), (.bool false), (.bool false)])⟩])
 (.seq
 (.seq
 (.reg [zm 8 0,
   zn 9 8,
   zf 10 1 6 9,
   ⟨some 11, none, (.loadN 6 (.t 10))⟩,
   zk 12 0])
 (.block 0
 (.loop af71_l1)))
 (.seq
 (.reg [⟨some 49, none, (.loadN 18 (.t 3))⟩,
   ⟨none, none, (.store 18 (.t 2) (.t 49))⟩]) .ret))))⟩
theorem caf71 : cFunc Tryz.prog Tryz.f71 = some af71 := by kernel_rfl
def af72_l0 : AC :=
 (.seq
 (.reg [zb 66 .lss 65 64])
 (.seq
 (.cond (.t 66) .skip (.exit 2))
 (.seq
 (.block 3
 (.seq
 (.reg [za 67 1 63 65,
   zl 68 67,
   zm 9 68])
 (.seq
 (.reg [zm 69 6,
   zn 70 69,
   zf 71 3 1 70,
   zl 72 71,
   zm 73 9,
   zc 74 124 [(.t 72), (.t 73)]])
 (.seq
 (.dreg [zm 75 6,
   zn 76 75,
   zf 77 2 1 76,
   zl 78 77,
   zm 79 9,
   zm 80 0,
   zn 81 80,
   zf 82 7 1 81,
   zl 83 82,
   zc 84 122 [(.t 78), (.t 79), (.c (.bool true)), (.t 83)]] [])
 (.reg [zm 85 0,
   zm 86 1,
   zm 87 9,
   ⟨some 88, none, (.build [(.int .i64 0), (.int .i64 0), (.slice none 0 0 none), (.int .i64 0), (.int .i64 0), (.int .i64 0), (.int .i64 0), (.int .i64 0)] [(0, (1, (.c (.int .i64 8)))), (6, (1, (.t 87)))])⟩,
   zc 89 82 [(.t 85), (.t 86), (.t 88)]])))))
 (.reg [zd 90 .add 65 1,
   zm 65 90]))))
def af72_l1 : AC :=
 (.seq
 (.reg [zb 22 .lss 21 20])
 (.seq
 (.cond (.t 22) .skip (.exit 0))
 (.seq
 (.block 1
 (.seq
 (.reg [zm 23 21,
   zm 7 23])
 (.seq
 (.dreg [zm 24 7,
   ⟨some 25, none, (.ixArr 3 1 (.t 5) (.t 24))⟩,
   zl 26 25,
   zm 27 26,
   ⟨(some 28), (some (27, true)), (.mv (.t 6))⟩,
   ⟨(some 29), (some (27, true)), (.nilCheck (.t 28))⟩,
   ⟨(some 30), (some (27, true)), (.fieldAddr 3 1 (.t 29))⟩,
   ⟨(some 31), (some (27, true)), (.load1 (.t 30))⟩,
   ⟨(some 32), (some (27, true)), (.mv (.t 7))⟩,
   ⟨(some 33), (some (27, true)), (.mv (.t 0))⟩,
   ⟨(some 34), (some (27, true)), (.nilCheck (.t 33))⟩,
   ⟨(some 35), (some (27, true)), (.fieldAddr 7 1 (.t 34))⟩,
   ⟨(some 36), (some (27, true)), (.load1 (.t 35))⟩,
   ⟨(some 37), (some (27, true)), (.call 121 [(.t 31), (.t 32), (.t 36)])⟩,
   ⟨some 38, none, (.pick (.t 27) (.t 37) (.c (.bool false)))⟩] [])
 (.cond (.t 38)
 (.seq
 (.dreg [zm 39 6,
   zn 40 39,
   zf 41 2 1 40,
   zl 42 41,
   zm 43 7,
   zm 44 0,
   zn 45 44,
   zf 46 7 1 45,
   zl 47 46,
   zc 48 122 [(.t 42), (.t 43), (.c (.bool false)), (.t 47)]] [])
 (.reg [zm 49 0,
   zm 50 1,
   zm 51 7,
   ⟨some 52, none, (.build [(.int .i64 0), (.int .i64 0), (.slice none 0 0 none), (.int .i64 0), (.int .i64 0), (.int .i64 0), (.int .i64 0), (.int .i64 0)] [(0, (1, (.c (.int .i64 9)))), (6, (1, (.t 51)))])⟩,
   zc 53 82 [(.t 49), (.t 50), (.t 52)]])) .skip))))
 (.reg [zd 54 .add 21 1,
   zm 21 54]))))
/-- (*limelight/sfu.House).rest -/
def af72 : AFunc := ⟨91, [],
 (.seq
 (.reg [⟨some 5, none, (.box (.t 2))⟩])
 (.seq
 (.reg [zm 10 0,
   zm 11 1,
   zn 12 10,
   zf 13 1 6 12,
   ⟨some 14, none, (.ixArr 6 1 (.t 13) (.t 11))⟩,
   zl 15 14,
   zm 6 15])
 (.seq
 (.seq
 (.reg [zm 16 6,
   zn 17 16,
   zf 18 2 1 17,
   zl 19 18,
   zc 20 75 [(.t 19)],
   zk 21 0])
 (.block 0
 (.loop af72_l1)))
 (.seq
 (.dreg [zm 55 6,
   zn 56 55,
   zf 57 3 1 56,
   zl 58 57,
   zm 59 0,
   zn 60 59,
   zf 61 7 1 60,
   zl 62 61,
   zc 63 123 [(.t 58), (.t 62)],
   zs 64 63,
   zk 65 0] [])
 (.block 2
 (.loop af72_l0))))))⟩
theorem caf72 : cFunc Tryz.prog Tryz.f72 = some af72 := by kernel_rfl
def af73_l0 : AC :=
 (.seq
 (.seq
 (.dreg [zm 4 0,
   zn 5 4,
   zf 6 0 1 5,
   zl 7 6,
   zs 8 7,
   zd 9 .gtr 8 0,
   zm 10 9,
   ⟨(some 11), (some (10, true)), (.mv (.t 0))⟩,
   ⟨(some 12), (some (10, true)), (.nilCheck (.t 11))⟩,
   ⟨(some 13), (some (10, true)), (.fieldAddr 1 1 (.t 12))⟩,
   ⟨(some 14), (some (10, true)), (.load1 (.t 13))⟩,
   ⟨(some 15), (some (10, true)), (.mv (.t 0))⟩,
   ⟨(some 16), (some (10, true)), (.nilCheck (.t 15))⟩,
   ⟨(some 17), (some (10, true)), (.fieldAddr 0 1 (.t 16))⟩,
   ⟨(some 18), (some (10, true)), (.load1 (.t 17))⟩,
   ⟨(some 19), (some (10, true)), (.ixSlice 1 (.t 18) (.c (.int .i64 0)))⟩,
   ⟨(some 20), (some (10, true)), (.load1 (.t 19))⟩,
   ⟨(some 21), (some (10, true)), (.call 126 [(.t 20)])⟩,
   ⟨(some 22), (some (10, true)), (.call 125 [(.t 14), (.t 21)])⟩,
   ⟨some 23, none, (.pick (.t 10) (.t 22) (.c (.bool false)))⟩] [(10, 18)])
 (.cond (.t 23) .skip (.exit 0)))
 (.block 1
 (.seq
 (.reg [zm 24 3,
   zm 25 0,
   zn 26 25,
   zf 27 0 1 26,
   zl 28 27,
   ⟨some 29, none, (.ixSlice 1 (.t 28) (.c (.int .i64 0)))⟩,
   zl 30 29,
   ⟨some 31, none, (.buildSlice 1 [(.slice none 0 0 none)] 1 [(0, (1, (.t 30)))])⟩,
   ⟨some 32, none, (.append 1 24 (.t 24) (.t 31))⟩,
   zm 3 32])
 (.reg [zm 33 0,
   zm 34 0,
   zn 35 34,
   zf 36 0 1 35,
   zl 37 36,
   ⟨some 38, none, (.cut 1 (.t 37) (some (.c (.int .i64 1))) none none)⟩,
   zn 39 33,
   zf 40 0 1 39,
   ⟨none, none, (.store 1 (.t 40) (.t 38))⟩]))))
/-- (*limelight/pace.Queue).Go -/
def af73 : AFunc := ⟨43, [(.tmp 2)],
 (.seq
 (.reg [⟨some 2, none, (.mv (.c (.slice none 0 0 none)))⟩])
 (.seq
 (.reg [⟨some 3, none, (.mv (.c (.slice none 0 0 none)))⟩])
 (.seq
 (.block 0
 (.loop af73_l0))
 (.seq
 (.reg [zm 41 3,
   zc 42 127 [(.t 41)],
   zm 2 42]) .ret))))⟩
theorem caf73 : cFunc Tryz.prog Tryz.f73 = some af73 := by kernel_rfl
/-- slices.Clip[[]int,int] -/
def af74 : AFunc := ⟨9, [(.tmp 2)],
 (.seq
 (.reg [⟨some 2, none, (.mv (.c (.slice none 0 0 none)))⟩])
 (.seq
 (.reg [zm 3 0,
   zm 4 0,
   zs 5 4,
   zm 6 0,
   zs 7 6,
   ⟨some 8, none, (.cut 1 (.t 3) none (some (.t 5)) (some (.t 7)))⟩,
   zm 2 8]) .ret))⟩
theorem caf74 : cFunc Tryz.prog Tryz.f74 = some af74 := by kernel_rfl
/-- (*limelight/layer.Layers).Len -/
def af75 : AFunc := ⟨8, [(.tmp 2)],
 (.seq
 (.reg [zk 2 0])
 (.seq
 (.reg [zm 3 0,
   zn 4 3,
   zf 5 0 1 4,
   zl 6 5,
   zs 7 6,
   zm 2 7]) .ret))⟩
theorem caf75 : cFunc Tryz.prog Tryz.f75 = some af75 := by kernel_rfl
/-- (*limelight/layer.Layers).Resting -/
def af76 : AFunc := ⟨18, [(.tmp 4)],
 (.seq
 (.reg [⟨some 4, none, (.mv (.c (.bool false)))⟩])
 (.seq
 (.reg [zm 5 0,
   zm 6 1,
   zc 7 128 [(.t 5), (.t 6)],
   zm 8 7,
   ⟨(some 9), (some (8, true)), (.mv (.t 0))⟩,
   ⟨(some 10), (some (8, true)), (.nilCheck (.t 9))⟩,
   ⟨(some 11), (some (8, true)), (.fieldAddr 0 1 (.t 10))⟩,
   ⟨(some 12), (some (8, true)), (.load1 (.t 11))⟩,
   ⟨(some 13), (some (8, true)), (.mv (.t 1))⟩,
   ⟨(some 14), (some (8, true)), (.ixSlice 10 (.t 12) (.t 13))⟩,
   ⟨(some 15), (some (8, true)), (.fieldAddr 7 1 (.t 14))⟩,
   ⟨(some 16), (some (8, true)), (.load1 (.t 15))⟩,
   ⟨some 17, none, (.pick (.t 8) (.t 16) (.c (.bool false)))⟩,
   zm 4 17]) .ret))⟩
theorem caf76 : cFunc Tryz.prog Tryz.f76 = some af76 := by kernel_rfl
def af77_l0 : AC :=
 (.seq
 (.reg [zb 9 .lss 8 7])
 (.seq
 (.cond (.t 9) .skip (.exit 0))
 (.seq
 (.block 1
 (.seq
 (.reg [zm 10 8,
   zm 5 10])
 (.seq
 (.reg [zm 11 1,
   zm 12 0,
   zm 13 5,
   za 14 1 12 13,
   zl 15 14,
   zb 16 .eql 11 15])
 (.cond (.t 16)
 (.seq
 (.reg [zm 17 5,
   zm 4 17]) .ret) .skip))))
 (.reg [zd 18 .add 8 1,
   zm 8 18]))))
/-- slices.Index[[]int,int] -/
def af77 : AFunc := ⟨19, [(.tmp 4)],
 (.seq
 (.reg [zk 4 0])
 (.seq
 (.seq
 (.reg [zm 6 0,
   zs 7 6,
   zk 8 0])
 (.block 0
 (.loop af77_l0)))
 (.seq
 (.reg [⟨some 4, none, (.mv (.c (.int .i64 (-1))))⟩]) .ret)))⟩
theorem caf77 : cFunc Tryz.prog Tryz.f77 = some af77 := by kernel_rfl
/-- limelight/ctl.Right -/
def af78 : AFunc := ⟨28, [(.tmp 2)],
 (.seq
 (.reg [⟨some 1, none, (.box (.t 0))⟩,
   zk 2 0])
 (.seq
 (.block 0
 (.seq
 (.reg [zf 4 0 1 1,
   zl 5 4,
   zd 6 .lss 5 1,
   zm 7 6,
   ⟨(some 8), (some (7, false)), (.fieldAddr 0 1 (.t 1))⟩,
   ⟨(some 9), (some (7, false)), (.load1 (.t 8))⟩,
   ⟨(some 10), (some (7, false)), (.bin .gtr .num (.t 9) (.c (.int .i64 10)))⟩,
   ⟨some 11, none, (.pick (.t 7) (.c (.bool true)) (.t 10))⟩,
   zm 12 11,
   ⟨(some 13), (some (12, false)), (.loadN 8 (.t 1))⟩,
   ⟨(some 14), (some (12, false)), (.call 129 [(.t 13)])⟩,
   ⟨(some 15), (some (12, false)), (.un .not (.t 14))⟩,
   ⟨some 16, none, (.pick (.t 12) (.c (.bool true)) (.t 15))⟩,
   zm 3 16])
 (.cond (.t 3)
 (.seq
 (.reg [zk 2 12]) .ret)
 (.seq
 (.reg [⟨some 18, none, (.loadN 8 (.t 1))⟩,
   zc 19 130 [(.t 18)],
   ⟨some 20, none, (.un .not (.t 19))⟩,
   zm 17 20])
 (.cond (.t 17)
 (.seq
 (.reg [zk 2 1]) .ret)
 (.seq
 (.reg [zf 22 0 1 1,
   zl 23 22,
   zd 24 .eql 23 3,
   zm 21 24])
 (.cond (.t 21)
 (.seq
 (.reg [zf 25 2 1 1,
   zl 26 25,
   zc 27 131 [(.t 26)],
   zm 2 27]) .ret) .skip)))))))
 (.seq
 (.reg [zk 2 0]) .ret)))⟩
theorem caf78 : cFunc Tryz.prog Tryz.f78 = some af78 := by kernel_rfl
/-- limelight/ctl.field -/
def af79 : AFunc := ⟨17, [(.tmp 6)],
 (.seq
 (.reg [⟨some 6, none, (.mv (.c (.slice none 0 0 none)))⟩])
 (.seq
 (.reg [zm 7 0,
   zm 8 1,
   ⟨some 9, none, (.conv (.int .u8) (.t 8))⟩,
   zm 10 2,
   zs 11 10,
   ⟨some 12, none, (.conv (.int .u8) (.t 11))⟩,
   ⟨some 13, none, (.buildSlice 1 [(.int .u8 0)] 2 [(0, (1, (.t 9))), (1, (1, (.t 12)))])⟩,
   ⟨some 14, none, (.append 1 1 (.t 7) (.t 13))⟩,
   zm 15 2,
   ⟨some 16, none, (.append 1 1 (.t 14) (.t 15))⟩,
   zm 6 16]) .ret))⟩
theorem caf79 : cFunc Tryz.prog Tryz.f79 = some af79 := by kernel_rfl
/-- limelight/ctl.has -/
def af80 : AFunc := ⟨56, [(.tmp 4)],
 (.seq
 (.reg [⟨some 4, none, (.mv (.c (.bool false)))⟩])
 (.seq
 (.seq
 (.reg [zm 5 1])
 (.block 0
 (.seq
 (.reg [zd 7 .eql 5 1,
   zm 6 7])
 (.cond (.t 6)
 (.seq
 (.reg [zm 8 0,
   zd 9 .eql 8 1,
   zm 4 9]) .ret)
 (.seq
 (.reg [zd 11 .eql 5 2,
   zm 10 11])
 (.cond (.t 10)
 (.seq
 (.reg [zm 12 0,
   zd 13 .eql 12 3,
   zm 4 13]) .ret)
 (.seq
 (.reg [zd 15 .eql 5 3,
   zm 14 15])
 (.cond (.t 14)
 (.seq
 (.reg [zm 16 0,
   zd 17 .eql 16 4,
   zm 18 17,
   ⟨(some 19), (some (18, false)), (.mv (.t 0))⟩,
   ⟨(some 20), (some (18, false)), (.bin .eql .num (.t 19) (.c (.int .i64 5)))⟩,
   ⟨some 21, none, (.pick (.t 18) (.c (.bool true)) (.t 20))⟩,
   zm 22 21,
   ⟨(some 23), (some (22, false)), (.mv (.t 0))⟩,
   ⟨(some 24), (some (22, false)), (.bin .eql .num (.t 23) (.c (.int .i64 6)))⟩,
   ⟨some 25, none, (.pick (.t 22) (.c (.bool true)) (.t 24))⟩,
   zm 26 25,
   ⟨(some 27), (some (26, false)), (.mv (.t 0))⟩,
   ⟨(some 28), (some (26, false)), (.bin .eql .num (.t 27) (.c (.int .i64 7)))⟩,
   ⟨some 29, none, (.pick (.t 26) (.c (.bool true)) (.t 28))⟩,
   zm 4 29]) .ret)
 (.seq
 (.reg [zd 31 .eql 5 4,
   zm 30 31])
 (.cond (.t 30)
 (.seq
 (.reg [zm 32 0,
   zd 33 .eql 32 4,
   zm 34 33,
   ⟨(some 35), (some (34, false)), (.mv (.t 0))⟩,
   ⟨(some 36), (some (34, false)), (.bin .eql .num (.t 35) (.c (.int .i64 6)))⟩,
   ⟨some 37, none, (.pick (.t 34) (.c (.bool true)) (.t 36))⟩,
   zm 4 37]) .ret)
 (.seq
 (.reg [zd 39 .eql 5 5,
   zm 38 39])
 (.cond (.t 38)
 (.seq
 (.reg [zm 40 0,
   zd 41 .eql 40 4,
   zm 42 41,
   ⟨(some 43), (some (42, false)), (.mv (.t 0))⟩,
   ⟨(some 44), (some (42, false)), (.bin .eql .num (.t 43) (.c (.int .i64 7)))⟩,
   ⟨some 45, none, (.pick (.t 42) (.c (.bool true)) (.t 44))⟩,
   zm 4 45]) .ret)
 (.seq
 (.reg [zd 47 .eql 5 6,
   zm 46 47])
 (.cond (.t 46)
 (.seq
 (.reg [zm 48 0,
   zd 49 .eql 48 8,
   zm 50 49,
   ⟨(some 51), (some (50, false)), (.mv (.t 0))⟩,
   ⟨(some 52), (some (50, false)), (.bin .eql .num (.t 51) (.c (.int .i64 9)))⟩,
   ⟨some 53, none, (.pick (.t 50) (.c (.bool true)) (.t 52))⟩,
   zm 4 53]) .ret) .skip))))))))))))))
 (.seq
 (.reg [zm 54 0,
   zd 55 .eql 54 10,
   zm 4 55]) .ret)))⟩
theorem caf80 : cFunc Tryz.prog Tryz.f80 = some af80 := by kernel_rfl
/-- (*limelight/room.Room).Do -/
def af81 : AFunc := ⟨70, [(.tmp 6)],
 (.seq
 (.reg [⟨some 5, none, (.box (.t 2))⟩,
   zk 6 0])
 (.seq
 (.seq
 (.reg [zm 9 1,
   zc 10 63 [(.t 9)],
   ⟨some 11, none, (.un .not (.t 10))⟩])
 (.cond (.t 11)
 (.seq
 (.reg [zk 6 25]) .ret) .skip))
 (.seq
 (.seq
 (.reg [⟨some 12, none, (.loadN 8 (.t 5))⟩,
   zc 13 78 [(.t 12)],
   zm 7 13])
 (.seq
 (.reg [zm 14 7,
   zd 15 .neq 14 0])
 (.cond (.t 15)
 (.seq
 (.reg [zm 16 7,
   zm 6 16]) .ret) .skip)))
 (.seq
 (.reg [zm 17 0,
   zm 18 1,
   zn 19 17,
   zf 20 0 24 19,
   ⟨some 21, none, (.ixArr 6 4 (.t 20) (.t 18))⟩,
   zm 8 21])
 (.seq
 (.block 0
 (.seq
 (.reg [zf 23 0 1 5,
   zl 24 23,
   zd 25 .gtr 24 7,
   zm 22 25])
 (.cond (.t 22)
 (.seq
 (.reg [zk 6 12]) .ret)
 (.seq
 (.reg [zf 27 0 1 5,
   zl 28 27,
   zd 29 .eql 28 1,
   zm 30 29,
   ⟨(some 31), (some (30, true)), (.mv (.t 8))⟩,
   ⟨(some 32), (some (30, true)), (.nilCheck (.t 31))⟩,
   ⟨(some 33), (some (30, true)), (.fieldAddr 0 1 (.t 32))⟩,
   ⟨(some 34), (some (30, true)), (.load1 (.t 33))⟩,
   ⟨some 35, none, (.pick (.t 30) (.t 34) (.c (.bool false)))⟩,
   zm 26 35])
 (.cond (.t 26)
 (.seq
 (.reg [zk 6 23]) .ret)
 (.seq
 (.reg [zf 37 0 1 5,
   zl 38 37,
   zd 39 .eql 38 1,
   zm 36 39])
 (.cond (.t 36)
 (.seq
 (.reg [zm 40 8,
   zf 41 1 1 5,
   zl 42 41,
   ⟨some 43, none, (.build [(.bool false), (.int .i64 0), (.slice none 0 0 none), (.slice none 0 0 none)] [(0, (1, (.c (.bool true)))), (1, (1, (.t 42)))])⟩,
   zn 44 40,
   ⟨none, none, (.store 4 (.t 44) (.t 43))⟩])
 (.seq
 (.reg [zk 6 0]) .ret))
 (.seq
 (.reg [zm 46 8,
   zn 47 46,
   zf 48 0 1 47,
   zl 49 48,
   ⟨some 50, none, (.un .not (.t 49))⟩,
   zm 45 50])
 (.cond (.t 45)
 (.seq
 (.reg [zk 6 22]) .ret)
 (.seq
 (.reg [zf 52 0 1 5,
   zl 53 52,
   zd 54 .eql 53 2,
   zm 51 54])
 (.cond (.t 51)
 (.seq
 (.reg [zm 55 0,
   zm 56 1,
   zc 57 132 [(.t 55), (.t 56)]])
 (.seq
 (.reg [zk 6 0]) .ret))
 (.seq
 (.reg [zf 59 0 1 5,
   zl 60 59,
   zd 61 .eql 60 3,
   zm 58 61])
 (.cond (.t 58)
 (.seq
 (.reg [zm 62 8,
   zf 63 2 1 5,
   zl 64 63,
   zc 65 133 [(.t 62), (.t 64)],
   zm 6 65]) .ret) .skip)))))))))))))
 (.seq
 (.reg [zm 66 0,
   zm 67 1,
   ⟨some 68, none, (.loadN 8 (.t 5))⟩,
   zc 69 134 [(.t 66), (.t 67), (.t 68)],
   zm 6 69]) .ret))))))⟩
theorem caf81 : cFunc Tryz.prog Tryz.f81 = some af81 := by kernel_rfl
/-- (*limelight/sfu.House).control -/
def af82 : AFunc := ⟨35, [],
 (.seq
 (.reg [⟨some 5, none, (.box (.t 2))⟩])
 (.seq
 (.reg [⟨some 9, none, (.loadN 8 (.t 5))⟩,
   zc 10 45 [(.t 9)],
   zm 8 10,
   ze 11 0 8,
   ze 12 1 8,
   zm 6 11,
   zm 7 12])
 (.seq
 (.reg [zm 13 7,
   zd 14 .eql 13 0,
   zm 15 14,
   ⟨(some 16), (some (15, true)), (.mv (.t 1))⟩,
   ⟨(some 17), (some (15, true)), (.bin .geq .num (.t 16) (.c (.int .i64 0)))⟩,
   ⟨some 18, none, (.pick (.t 15) (.t 17) (.c (.bool false)))⟩,
   zm 19 18,
   ⟨(some 20), (some (19, true)), (.mv (.t 1))⟩,
   ⟨(some 21), (some (19, true)), (.bin .lss .num (.t 20) (.c (.int .i64 6)))⟩,
   ⟨some 22, none, (.pick (.t 19) (.t 21) (.c (.bool false)))⟩])
 (.cond (.t 22)
 (.reg [zm 23 0,
   zm 24 0,
   zn 25 24,
   zf 26 13 1 25,
   zl 27 26,
   zm 28 1,
   zm 29 6,
   ⟨some 30, none, (.build [(.int .i64 0), (.bool false), (.slice none 0 0 none)] [(0, (1, (.t 28))), (1, (1, (.c (.bool true)))), (2, (1, (.t 29)))])⟩,
   ⟨some 31, none, (.buildSlice 3 [(.int .i64 0), (.bool false), (.slice none 0 0 none)] 1 [(0, (3, (.t 30)))])⟩,
   ⟨some 32, none, (.append 3 40 (.t 27) (.t 31))⟩,
   zn 33 23,
   zf 34 13 1 33,
   ⟨none, none, (.store 1 (.t 34) (.t 32))⟩]) .skip))))⟩
theorem caf82 : cFunc Tryz.prog Tryz.f82 = some af82 := by kernel_rfl
/-- limelight/limit.New -/
def af83 : AFunc := ⟨9, [(.tmp 2)],
 (.seq
 (.reg [⟨some 2, none, (.mv (.c (.ptr none)))⟩])
 (.seq
 (.reg [zm 3 0,
   ⟨some 4, none, (.mn [(.t 3), (.c (.int .i64 1099511627776))])⟩,
   ⟨some 5, none, (.mx [(.c (.int .i64 1)), (.t 4)])⟩,
   zc 6 135 [],
   ⟨some 7, none, (.build [(.int .i64 0), (.int .u64 0), (.bool false), (.slice none 0 0 none), (.ptr none)] [(0, (1, (.t 5))), (4, (1, (.t 6)))])⟩,
   ⟨some 8, none, (.box (.t 7))⟩,
   zm 2 8]) .ret))⟩
theorem caf83 : cFunc Tryz.prog Tryz.f83 = some af83 := by kernel_rfl
/-- limelight/pace.New -/
def af84 : AFunc := ⟨10, [(.tmp 4)],
 (.seq
 (.reg [⟨some 4, none, (.mv (.c (.ptr none)))⟩])
 (.seq
 (.reg [zm 5 0,
   zm 6 1,
   zc 7 136 [(.t 5), (.t 6)],
   ⟨some 8, none, (.build [(.slice none 0 0 none), (.ptr none), (.int .i64 0)] [(1, (1, (.t 7)))])⟩,
   ⟨some 9, none, (.box (.t 8))⟩,
   zm 4 9]) .ret))⟩
theorem caf84 : cFunc Tryz.prog Tryz.f84 = some af84 := by kernel_rfl
def af86_l0 : AC :=
 (.seq
 (.reg [zb 28 .lss 27 26])
 (.seq
 (.cond (.t 28) .skip (.exit 0))
 (.seq
 (.block 1
 (.seq
 (.reg [zm 29 27,
   zm 7 29])
 (.dreg [zm 30 6,
   zn 31 30,
   zf 32 3 1 31,
   zl 33 32,
   zm 34 7,
   zm 35 0,
   zn 36 35,
   zf 37 7 1 36,
   zl 38 37,
   zc 39 120 [(.t 33), (.t 34), (.t 38)]] [])))
 (.reg [zd 40 .add 27 1,
   zm 27 40]))))
/-- (*limelight/sfu.House).publish -/
def af86 : AFunc := ⟨41, [],
 (.seq
 (.reg [zm 8 0,
   zm 9 1,
   zn 10 8,
   zf 11 1 6 10,
   ⟨some 12, none, (.ixArr 6 1 (.t 11) (.t 9))⟩,
   zl 13 12,
   zm 6 13])
 (.seq
 (.reg [zm 14 6,
   zm 15 6,
   zm 16 2,
   zc 17 138 [(.t 16)],
   zm 18 2,
   zs 19 18,
   zc 20 139 [(.t 19)],
   zn 21 14,
   zf 22 2 1 21,
   ⟨none, none, (.store 1 (.t 22) (.t 17))⟩,
   zn 23 15,
   zf 24 3 1 23,
   ⟨none, none, (.store 1 (.t 24) (.t 20))⟩])
 (.seq
 (.reg [zm 25 2,
   zs 26 25,
   zk 27 0])
 (.block 0
 (.loop af86_l0)))))⟩
theorem caf86 : cFunc Tryz.prog Tryz.f86 = some af86 := by kernel_rfl
/-- (*limelight/sfu.House).subscribe -/
def af87 : AFunc := ⟨50, [],
 (.seq
 (.reg [⟨some 5, none, (.box (.t 2))⟩])
 (.seq
 (.reg [zm 8 0,
   zm 9 1,
   zn 10 8,
   zf 11 1 6 10,
   ⟨some 12, none, (.ixArr 6 1 (.t 11) (.t 9))⟩,
   zl 13 12,
   zm 6 13])
 (.seq
 (.reg [zf 14 3 1 5,
   zl 15 14,
   ⟨some 16, none, (.conv (.int .u32) (.t 15))⟩,
   ⟨some 17, none, (.bin .shl .num (.t 16) (.c (.int .u64 16)))⟩,
   zm 18 1,
   ⟨some 19, none, (.conv (.int .u32) (.t 18))⟩,
   zb 20 .add 17 19,
   ⟨some 21, none, (.bin .add .num (.t 20) (.c (.int .u32 1)))⟩,
   zm 7 21])
 (.seq
 (.dreg [zm 22 6,
   zm 23 6,
   zn 24 23,
   zf 25 4 1 24,
   zl 26 25,
   zf 27 3 1 5,
   zl 28 27,
   zm 29 7,
   zm 30 7,
   zc 31 140 [(.t 30)],
   zf 32 4 1 5,
   zl 33 32,
   zf 34 5 1 5,
   zl 35 34,
   ⟨some 36, none, (.build [(.int .i64 0), (.int .u32 0), (.ptr none), (.int .i64 0), (.int .i64 0), (.int .i64 0)] [(0, (1, (.t 28))), (1, (1, (.t 29))), (2, (1, (.t 31))), (3, (1, (.t 33))), (4, (1, (.t 35))), (5, (1, (.c (.int .i64 (-1)))))])⟩,
   ⟨some 37, none, (.box (.t 36))⟩,
   ⟨some 38, none, (.buildSlice 1 [(.ptr none)] 1 [(0, (1, (.t 37)))])⟩,
   ⟨some 39, none, (.append 1 8 (.t 26) (.t 38))⟩,
   zn 40 22,
   zf 41 4 1 40,
   ⟨none, none, (.store 1 (.t 41) (.t 39))⟩] [(4, 10), (4, 16), (4, 17), (6, 10), (11, 9), (13, 9)])
 (.seq
 (.reg [zm 42 6,
   zn 43 42,
   zf 44 4 1 43,
   zl 45 44,
   zc 46 141 [(.t 45), (.c (.func 142 []))]])
 (.reg [zm 47 6,
   zn 48 47,
   zf 49 5 1 48,
   ⟨none, none, (.store 1 (.t 49) (.c (.bool true)))⟩]))))))⟩
theorem caf87 : cFunc Tryz.prog Tryz.f87 = some af87 := by kernel_rfl
/-- (*limelight/rtp.reader).num -/
def af90 : AFunc := ⟨40, [(.tmp 4)],
 (.seq
 (.reg [⟨some 4, none, (.mv (.c (.int .u64 0)))⟩])
 (.seq
 (.dreg [zm 8 0,
   zn 9 8,
   zf 10 0 1 9,
   zl 11 10,
   zm 12 0,
   zn 13 12,
   zf 14 1 1 13,
   zl 15 14,
   zm 16 1,
   zc 17 104 [(.t 11), (.t 15), (.t 16)],
   zm 7 17,
   ze 18 0 7,
   ze 19 1 7,
   zm 5 18,
   zm 6 19] [])
 (.seq
 (.reg [zm 20 0,
   zm 21 0,
   zn 22 21,
   zf 23 2 1 22,
   zl 24 23,
   zm 25 24,
   ⟨(some 26), (some (25, false)), (.mv (.t 6))⟩,
   ⟨(some 27), (some (25, false)), (.un .not (.t 26))⟩,
   ⟨some 28, none, (.pick (.t 25) (.c (.bool true)) (.t 27))⟩,
   zn 29 20,
   zf 30 2 1 29,
   ⟨none, none, (.store 1 (.t 30) (.t 28))⟩])
 (.seq
 (.reg [zm 31 0,
   zn 32 31,
   zf 33 1 1 32,
   zl 34 33,
   zm 35 1,
   zb 36 .add 34 35,
   zn 37 31,
   zf 38 1 1 37,
   ⟨none, none, (.store 1 (.t 38) (.t 36))⟩])
 (.seq
 (.reg [zm 39 5,
   zm 4 39]) .ret)))))⟩
theorem caf90 : cFunc Tryz.prog Tryz.f90 = some af90 := by kernel_rfl
/-- (*limelight/rtp.reader).cut -/
def af91 : AFunc := ⟨40, [(.tmp 4)],
 (.seq
 (.reg [⟨some 4, none, (.mv (.c (.slice none 0 0 none)))⟩])
 (.seq
 (.dreg [zm 8 0,
   zn 9 8,
   zf 10 0 1 9,
   zl 11 10,
   zm 12 0,
   zn 13 12,
   zf 14 1 1 13,
   zl 15 14,
   zm 16 1,
   zc 17 105 [(.t 11), (.t 15), (.t 16)],
   zm 7 17,
   ze 18 0 7,
   ze 19 1 7,
   zm 5 18,
   zm 6 19] [])
 (.seq
 (.reg [zm 20 0,
   zm 21 0,
   zn 22 21,
   zf 23 2 1 22,
   zl 24 23,
   zm 25 24,
   ⟨(some 26), (some (25, false)), (.mv (.t 6))⟩,
   ⟨(some 27), (some (25, false)), (.un .not (.t 26))⟩,
   ⟨some 28, none, (.pick (.t 25) (.c (.bool true)) (.t 27))⟩,
   zn 29 20,
   zf 30 2 1 29,
   ⟨none, none, (.store 1 (.t 30) (.t 28))⟩])
 (.seq
 (.reg [zm 31 0,
   zn 32 31,
   zf 33 1 1 32,
   zl 34 33,
   zm 35 1,
   zb 36 .add 34 35,
   zn 37 31,
   zf 38 1 1 37,
   ⟨none, none, (.store 1 (.t 38) (.t 36))⟩])
 (.seq
 (.reg [zm 39 5,
   zm 4 39]) .ret)))))⟩
theorem caf91 : cFunc Tryz.prog Tryz.f91 = some af91 := by kernel_rfl
/-- (*limelight/layer.Layers).Find -/
def af94 : AFunc := ⟨18, [(.tmp 4)],
 (.seq
 (.reg [⟨some 3, none, (.box (.t 1))⟩,
   zk 4 0])
 (.seq
 (.reg [⟨some 8, none, (.loadN 9 (.t 3))⟩,
   zc 9 152 [(.t 8)],
   zm 7 9,
   ze 10 0 7,
   ze 11 1 7,
   ⟨some 5, none, (.alloc [(.str [])])⟩,
   ⟨some 6, none, (.alloc [(.bool false)])⟩,
   ⟨none, none, (.store 1 (.t 5) (.t 10))⟩,
   ⟨none, none, (.store 1 (.t 6) (.t 11))⟩])
 (.seq
 (.reg [zm 12 0,
   zn 13 12,
   zf 14 0 1 13,
   zl 15 14,
   ⟨some 16, none, (.mkFunc 154 [(.t 6), (.t 3), (.t 5)])⟩,
   zc 17 153 [(.t 15), (.t 16)],
   zm 4 17]) .ret)))⟩
theorem caf94 : cFunc Tryz.prog Tryz.f94 = some af94 := by kernel_rfl
/-- (*limelight/layer.Layers).Packet -/
def af95 : AFunc := ⟨57, [(.tmp 10), (.tmp 11)],
 (.seq
 (.reg [⟨some 7, none, (.box (.t 2))⟩,
   zk 10 0,
   ⟨some 11, none, (.mv (.c (.bool false)))⟩])
 (.seq
 (.seq
 (.reg [zm 15 0,
   zm 16 1,
   zc 17 128 [(.t 15), (.t 16)],
   ⟨some 18, none, (.un .not (.t 17))⟩])
 (.cond (.t 18)
 (.seq
 (.reg [zk 10 0,
   ⟨some 11, none, (.mv (.c (.bool false)))⟩]) .ret) .skip))
 (.seq
 (.reg [zm 19 0,
   zn 20 19,
   zf 21 0 1 20,
   zl 22 21,
   zm 23 1,
   za 24 10 22 23,
   zm 12 24])
 (.seq
 (.dreg [zm 26 12,
   zn 27 26,
   zf 28 3 1 27,
   zl 29 28,
   zf 30 2 1 7,
   zl 31 30,
   zc 32 156 [(.t 29), (.t 31)],
   zm 25 32,
   ze 33 0 25,
   ze 34 1 25,
   zm 13 33,
   zm 14 34] [])
 (.seq
 (.seq
 (.reg [zm 35 14,
   ⟨some 36, none, (.un .not (.t 35))⟩])
 (.cond (.t 36)
 (.seq
 (.reg [zk 10 0,
   ⟨some 11, none, (.mv (.c (.bool false)))⟩]) .ret) .skip))
 (.seq
 (.reg [zm 37 12,
   zn 38 37,
   zf 39 4 1 38,
   zl 40 39,
   zm 41 3,
   zd 42 .add 41 28,
   zm 43 4,
   zc 44 157 [(.t 40), (.t 42), (.t 43)]])
 (.seq
 (.reg [zm 45 12,
   zm 46 12,
   zm 47 12,
   zm 48 4,
   zc 49 158 [(.t 48)],
   zn 50 45,
   zf 51 5 1 50,
   ⟨none, none, (.store 1 (.t 51) (.c (.bool true)))⟩,
   zn 52 46,
   zf 53 6 1 52,
   ⟨none, none, (.store 1 (.t 53) (.t 49))⟩,
   zn 54 47,
   zf 55 8 1 54,
   ⟨none, none, (.store 1 (.t 55) (.c (.bool false)))⟩])
 (.seq
 (.reg [zm 56 13,
   zm 10 56,
   ⟨some 11, none, (.mv (.c (.bool true)))⟩]) .ret))))))))⟩
theorem caf95 : cFunc Tryz.prog Tryz.f95 = some af95 := by kernel_rfl
def af96_l0 : AC :=
 (.seq
 (.reg [zb 29 .lss 28 27])
 (.seq
 (.cond (.t 29) .skip (.exit 0))
 (.seq
 (.block 1
 (.seq
 (.reg [za 30 1 26 28,
   zl 31 30,
   zm 13 31])
 (.seq
 (.seq
 (.reg [zm 32 13,
   zn 33 32,
   zf 34 0 1 33,
   zl 35 34,
   zm 36 2,
   zb 37 .neq 35 36])
 (.cond (.t 37) (.exit 1) .skip))
 (.seq
 (.dreg [zm 39 13,
   zn 40 39,
   zf 41 2 1 40,
   zl 42 41,
   zm 43 3,
   zm 44 4,
   zm 45 0,
   zm 46 2,
   zn 47 45,
   zf 48 1 6 47,
   ⟨some 49, none, (.ixArr 6 1 (.t 48) (.t 46))⟩,
   zl 50 49,
   zn 51 50,
   zf 52 2 1 51,
   zl 53 52,
   ⟨some 54, none, (.loadN 9 (.t 11))⟩,
   zc 55 160 [(.t 53), (.t 54)],
   ⟨some 56, none, (.loadN 9 (.t 11))⟩,
   zc 57 159 [(.t 42), (.t 43), (.t 44), (.t 55), (.t 56)],
   zm 38 57,
   ze 58 0 38,
   ze 59 1 38,
   ⟨some 14, none, (.alloc [(.bool false), (.int .i64 0), (.int .u16 0), (.int .u32 0), (.int .u32 0), (.slice none 0 0 none), (.int .u16 0), (.slice none 0 0 none), (.slice none 0 0 none)])⟩,
   ⟨none, none, (.store 9 (.t 14) (.t 58))⟩,
   zm 15 59] [(22, 22), (3, 17), (3, 23), (11, 23), (14, 23), (15, 23), (17, 16), (17, 23)])
 (.seq
 (.seq
 (.reg [zm 60 15,
   ⟨some 61, none, (.un .not (.t 60))⟩])
 (.cond (.t 61) (.exit 1) .skip))
 (.seq
 (.reg [⟨some 63, none, (.loadN 9 (.t 14))⟩,
   zc 64 31 [(.t 63)],
   zm 62 64,
   ze 65 0 62,
   ze 66 1 62,
   zm 16 65,
   zm 17 66])
 (.seq
 (.reg [zm 67 0,
   zm 68 1,
   zm 69 16,
   zc 70 161 [(.t 67), (.t 68), (.t 69)],
   ⟨some 71, none, (.un .not (.t 70))⟩])
 (.cond (.t 71)
 (.seq
 (.reg [zm 72 13,
   zn 73 72,
   zf 74 2 1 73,
   zl 75 74,
   zc 76 162 [(.t 75)]])
 (.reg [zm 77 0,
   zm 78 2,
   zm 79 3,
   zc 80 119 [(.t 77), (.t 78), (.t 79)]])) .skip))))))))
 (.reg [zd 81 .add 28 1,
   zm 28 81]))))
/-- (*limelight/sfu.House).forward -/
def af96 : AFunc := ⟨82, [],
 (.seq
 (.reg [⟨some 11, none, (.box (.t 5))⟩])
 (.seq
 (.reg [zm 18 0,
   zm 19 1,
   zn 20 18,
   zf 21 1 6 20,
   ⟨some 22, none, (.ixArr 6 1 (.t 21) (.t 19))⟩,
   zl 23 22,
   zn 24 23,
   zf 25 4 1 24,
   zl 26 25,
   zs 27 26,
   zk 28 0])
 (.block 0
 (.loop af96_l0))))⟩
theorem caf96 : cFunc Tryz.prog Tryz.f96 = some af96 := by kernel_rfl
/-- limelight/seq.extend -/
def af97 : AFunc := ⟨46, [(.tmp 6)],
 (.seq
 (.reg [zk 6 0])
 (.seq
 (.reg [zm 9 2,
   ⟨some 10, none, (.bin .shl .num (.c (.int .i64 1)) (.t 9))⟩,
   zm 7 10])
 (.seq
 (.seq
 (.reg [zm 11 0,
   zd 12 .lss 11 0])
 (.cond (.t 12)
 (.seq
 (.reg [zm 13 1,
   zm 6 13]) .ret) .skip))
 (.seq
 (.reg [zm 14 1,
   zm 15 0,
   zm 16 7,
   zd 17 .sub 16 1,
   zb 18 .and 15 17,
   zb 19 .sub 14 18,
   zm 20 7,
   zb 21 .add 19 20,
   zm 22 7,
   zd 23 .sub 22 1,
   zb 24 .and 21 23,
   zm 8 24])
 (.seq
 (.seq
 (.reg [zm 25 8,
   zm 26 7,
   zd 27 .quo 26 2,
   zb 28 .gtr 25 27,
   zm 29 28,
   ⟨(some 30), (some (29, false)), (.mv (.t 0))⟩,
   ⟨(some 31), (some (29, false)), (.mv (.t 8))⟩,
   ⟨(some 32), (some (29, false)), (.bin .sub .num (.c (.int .i64 9223372036854775807)) (.t 31))⟩,
   ⟨(some 33), (some (29, false)), (.bin .gtr .num (.t 30) (.t 32))⟩,
   ⟨some 34, none, (.pick (.t 29) (.c (.bool true)) (.t 33))⟩])
 (.cond (.t 34)
 (.reg [zm 35 8,
   zm 36 7,
   zb 37 .sub 35 36,
   zm 8 37]) .skip))
 (.seq
 (.seq
 (.reg [zm 38 0,
   zm 39 8,
   zb 40 .add 38 39,
   zd 41 .lss 40 0])
 (.cond (.t 41)
 (.seq
 (.reg [zm 42 1,
   zm 6 42]) .ret) .skip))
 (.seq
 (.reg [zm 43 0,
   zm 44 8,
   zb 45 .add 43 44,
   zm 6 45]) .ret)))))))⟩
theorem caf97 : cFunc Tryz.prog Tryz.f97 = some af97 := by kernel_rfl
/-- limelight/clock.up -/
def af98 : AFunc := ⟨6, [(.tmp 2)],
 (.seq
 (.reg [⟨some 2, none, (.mv (.c (.int .u64 0)))⟩])
 (.seq
 (.reg [zm 3 0,
   ⟨some 4, none, (.mx [(.c (.int .i64 0)), (.t 3)])⟩,
   ⟨some 5, none, (.conv (.int .u64) (.t 4))⟩,
   zm 2 5]) .ret))⟩
theorem caf98 : cFunc Tryz.prog Tryz.f98 = some af98 := by kernel_rfl
/-- slices.Clone[[]byte,byte] -/
def af99 : AFunc := ⟨8, [(.tmp 2)],
 (.seq
 (.reg [⟨some 2, none, (.mv (.c (.slice none 0 0 none)))⟩])
 (.seq
 (.seq
 (.reg [zm 3 0,
   ⟨some 4, none, (.bin .eql .slc (.t 3) (.c (.slice none 0 0 none)))⟩])
 (.cond (.t 4)
 (.seq
 (.reg [⟨some 2, none, (.mv (.c (.slice none 0 0 none)))⟩]) .ret) .skip))
 (.seq
 (.reg [⟨some 5, none, (.buildSlice 1 [(.int .u8 0)] 0 [])⟩,
   zm 6 0,
   ⟨some 7, none, (.append 1 1 (.t 5) (.t 6))⟩,
   zm 2 7]) .ret)))⟩
theorem caf99 : cFunc Tryz.prog Tryz.f99 = some af99 := by kernel_rfl
/-- slices.Clip[[]byte,byte] -/
def af100 : AFunc := ⟨9, [(.tmp 2)],
 (.seq
 (.reg [⟨some 2, none, (.mv (.c (.slice none 0 0 none)))⟩])
 (.seq
 (.reg [zm 3 0,
   zm 4 0,
   zs 5 4,
   zm 6 0,
   zs 7 6,
   ⟨some 8, none, (.cut 1 (.t 3) none (some (.t 5)) (some (.t 7)))⟩,
   zm 2 8]) .ret))⟩
theorem caf100 : cFunc Tryz.prog Tryz.f100 = some af100 := by kernel_rfl
/-- limelight/rtp.size -/
def af101 : AFunc := ⟨23, [(.tmp 2)],
 (.seq
 (.reg [⟨some 1, none, (.box (.t 0))⟩,
   zk 2 0])
 (.seq
 (.reg [zf 4 5 1 1,
   zl 5 4,
   zs 6 5,
   ⟨some 7, none, (.bin .mul .num (.c (.int .i64 4)) (.t 6))⟩,
   ⟨some 8, none, (.bin .add .num (.c (.int .i64 12)) (.t 7))⟩,
   zf 9 8 1 1,
   zl 10 9,
   zs 11 10,
   zb 12 .add 8 11,
   zm 3 12])
 (.seq
 (.seq
 (.reg [zf 13 6 1 1,
   zl 14 13,
   ⟨some 15, none, (.bin .neq .num (.t 14) (.c (.int .u16 0)))⟩])
 (.cond (.t 15)
 (.reg [zm 16 3,
   zf 17 7 1 1,
   zl 18 17,
   zs 19 18,
   ⟨some 20, none, (.bin .add .num (.c (.int .i64 4)) (.t 19))⟩,
   zb 21 .add 16 20,
   zm 3 21]) .skip))
 (.seq
 (.reg [zm 22 3,
   zm 2 22]) .ret))))⟩
theorem caf101 : cFunc Tryz.prog Tryz.f101 = some af101 := by kernel_rfl
/-- slices.Grow[[]byte,byte] -/
def af102 : AFunc := ⟨27, [(.tmp 4)],
 (.seq
 (.reg [⟨some 4, none, (.mv (.c (.slice none 0 0 none)))⟩])
 (.seq
 (.seq
 (.reg [zm 5 1,
   zd 6 .lss 5 0])
 (.cond (.t 6)
 (.reg [⟨some 7, none, (.mkIface 9 (.c (.str [99, 97, 110, 110, 111, 116, 32, 98, 101, 32, 110, 101, 103, 97, 116, 105, 118, 101])))⟩,
   ⟨none, none, .stop⟩]) .skip))
 (.seq
 (.seq
 (.reg [zm 8 1,
   zm 9 0,
   ⟨some 10, none, (.cap (.t 9))⟩,
   zm 11 0,
   zs 12 11,
   zb 13 .sub 10 12,
   zb 14 .sub 8 13,
   zm 1 14])
 (.seq
 (.reg [zm 15 1,
   zd 16 .gtr 15 0])
 (.cond (.t 16)
 (.reg [zm 17 0,
   zm 18 0,
   ⟨some 19, none, (.cap (.t 18))⟩,
   ⟨some 20, none, (.cut 1 (.t 17) none (some (.t 19)) none)⟩,
   zm 21 1,
   ⟨some 22, none, (.appendZ 1 1 [(.int .u8 0)] (.t 20) (.t 21))⟩,
   zm 23 0,
   zs 24 23,
   ⟨some 25, none, (.cut 1 (.t 22) none (some (.t 24)) none)⟩,
   zm 0 25]) .skip)))
 (.seq
 (.reg [zm 26 0,
   zm 4 26]) .ret))))⟩
theorem caf102 : cFunc Tryz.prog Tryz.f102 = some af102 := by kernel_rfl
def af103_l0 : AC :=
 (.seq
 (.reg [zb 9 .lss 8 7])
 (.seq
 (.cond (.t 9) .skip (.exit 0))
 (.seq
 (.block 1
 (.seq
 (.reg [zm 10 8,
   zm 5 10])
 (.seq
 (.reg [zm 11 1,
   zm 12 0,
   zm 13 5,
   za 14 3 12 13,
   ⟨some 15, none, (.loadN 3 (.t 14))⟩,
   ⟨some 16, none, (.callV (.t 11) [(.t 15)])⟩])
 (.cond (.t 16)
 (.seq
 (.reg [zm 17 5,
   zm 4 17]) .ret) .skip))))
 (.reg [zd 18 .add 8 1,
   zm 8 18]))))
/-- slices.IndexFunc[[]limelight/api.Sent,limelight/api.Sent] -/
def af103 : AFunc := ⟨19, [(.tmp 4)],
 (.seq
 (.reg [zk 4 0])
 (.seq
 (.seq
 (.reg [zm 6 0,
   zs 7 6,
   zk 8 0])
 (.block 0
 (.loop af103_l0)))
 (.seq
 (.reg [⟨some 4, none, (.mv (.c (.int .i64 (-1))))⟩]) .ret)))⟩
theorem caf103 : cFunc Tryz.prog Tryz.f103 = some af103 := by kernel_rfl
def af104_l0 : AC :=
 (.seq
 (.reg [zb 33 .lss 32 31])
 (.seq
 (.cond (.t 33) .skip (.exit 0))
 (.seq
 (.block 1
 (.seq
 (.reg [za 34 1 30 32,
   zl 35 34,
   zm 12 35])
 (.reg [zm 36 10,
   ⟨some 37, none, (.bin .shl .num (.t 36) (.c (.int .u64 8)))⟩,
   zm 38 12,
   ⟨some 39, none, (.conv (.int .u64) (.t 38))⟩,
   zb 40 .or 37 39,
   zm 10 40])))
 (.reg [zd 41 .add 32 1,
   zm 32 41]))))
/-- limelight/octet.Get -/
def af104 : AFunc := ⟨43, [(.tmp 6), (.tmp 7)],
 (.seq
 (.reg [⟨some 6, none, (.mv (.c (.int .u64 0)))⟩,
   ⟨some 7, none, (.mv (.c (.bool false)))⟩])
 (.seq
 (.reg [zm 14 0,
   zm 15 1,
   zm 16 2,
   zc 17 105 [(.t 14), (.t 15), (.t 16)],
   zm 13 17,
   ze 18 0 13,
   ze 19 1 13,
   zm 8 18,
   zm 9 19])
 (.seq
 (.seq
 (.reg [zm 20 9,
   ⟨some 21, none, (.un .not (.t 20))⟩,
   zm 22 21,
   ⟨(some 23), (some (22, false)), (.mv (.t 2))⟩,
   ⟨(some 24), (some (22, false)), (.bin .lss .num (.t 23) (.c (.int .i64 1)))⟩,
   ⟨some 25, none, (.pick (.t 22) (.c (.bool true)) (.t 24))⟩,
   zm 26 25,
   ⟨(some 27), (some (26, false)), (.mv (.t 2))⟩,
   ⟨(some 28), (some (26, false)), (.bin .gtr .num (.t 27) (.c (.int .i64 8)))⟩,
   ⟨some 29, none, (.pick (.t 26) (.c (.bool true)) (.t 28))⟩])
 (.cond (.t 29)
 (.seq
 (.reg [⟨some 6, none, (.mv (.c (.int .u64 0)))⟩,
   ⟨some 7, none, (.mv (.c (.bool false)))⟩]) .ret) .skip))
 (.seq
 (.reg [⟨some 10, none, (.mv (.c (.int .u64 0)))⟩])
 (.seq
 (.seq
 (.reg [zm 30 8,
   zs 31 30,
   zk 32 0])
 (.block 0
 (.loop af104_l0)))
 (.seq
 (.reg [zm 42 10,
   zm 6 42,
   ⟨some 7, none, (.mv (.c (.bool true)))⟩]) .ret))))))⟩
theorem caf104 : cFunc Tryz.prog Tryz.f104 = some af104 := by kernel_rfl
/-- limelight/octet.Cut -/
def af105 : AFunc := ⟨35, [(.tmp 6), (.tmp 7)],
 (.seq
 (.reg [⟨some 6, none, (.mv (.c (.slice none 0 0 none)))⟩,
   ⟨some 7, none, (.mv (.c (.bool false)))⟩])
 (.seq
 (.seq
 (.reg [zm 8 1,
   zd 9 .lss 8 0,
   zm 10 9,
   ⟨(some 11), (some (10, false)), (.mv (.t 2))⟩,
   ⟨(some 12), (some (10, false)), (.bin .lss .num (.t 11) (.c (.int .i64 0)))⟩,
   ⟨some 13, none, (.pick (.t 10) (.c (.bool true)) (.t 12))⟩,
   zm 14 13,
   ⟨(some 15), (some (14, false)), (.mv (.t 1))⟩,
   ⟨(some 16), (some (14, false)), (.mv (.t 0))⟩,
   ⟨(some 17), (some (14, false)), (.len (.t 16))⟩,
   ⟨(some 18), (some (14, false)), (.bin .gtr .num (.t 15) (.t 17))⟩,
   ⟨some 19, none, (.pick (.t 14) (.c (.bool true)) (.t 18))⟩,
   zm 20 19,
   ⟨(some 21), (some (20, false)), (.mv (.t 2))⟩,
   ⟨(some 22), (some (20, false)), (.mv (.t 0))⟩,
   ⟨(some 23), (some (20, false)), (.len (.t 22))⟩,
   ⟨(some 24), (some (20, false)), (.mv (.t 1))⟩,
   ⟨(some 25), (some (20, false)), (.bin .sub .num (.t 23) (.t 24))⟩,
   ⟨(some 26), (some (20, false)), (.bin .gtr .num (.t 21) (.t 25))⟩,
   ⟨some 27, none, (.pick (.t 20) (.c (.bool true)) (.t 26))⟩])
 (.cond (.t 27)
 (.seq
 (.reg [⟨some 6, none, (.mv (.c (.slice none 0 0 none)))⟩,
   ⟨some 7, none, (.mv (.c (.bool false)))⟩]) .ret) .skip))
 (.seq
 (.reg [zm 28 0,
   zm 29 1,
   zm 30 1,
   zm 31 2,
   zb 32 .add 30 31,
   ⟨some 33, none, (.cut 1 (.t 28) (some (.t 29)) (some (.t 32)) none)⟩,
   zc 34 99 [(.t 33)],
   zm 6 34,
   ⟨some 7, none, (.mv (.c (.bool true)))⟩]) .ret)))⟩
theorem caf105 : cFunc Tryz.prog Tryz.f105 = some af105 := by kernel_rfl
/-- limelight/ctl.take -/
def af106 : AFunc := ⟨105, [],
 (.seq
 (.reg [zm 15 2,
   zm 16 2,
   zs 17 16,
   zc 18 104 [(.t 15), (.c (.int .i64 0)), (.t 17)],
   zm 14 18,
   ze 19 0 14,
   ze 20 1 14,
   zm 6 19,
   zm 7 20])
 (.seq
 (.reg [zm 21 1])
 (.block 0
 (.seq
 (.reg [zd 23 .eql 21 1,
   zm 22 23])
 (.cond (.t 22)
 (.reg [zm 24 0,
   zm 25 6,
   ⟨some 26, none, (.conv (.int .i64) (.t 25))⟩,
   zn 27 24,
   zf 28 1 1 27,
   ⟨none, none, (.store 1 (.t 28) (.t 26))⟩])
 (.seq
 (.reg [zd 30 .eql 21 2,
   zm 29 30])
 (.cond (.t 29)
 (.seq
 (.reg [zm 32 2,
   zc 33 104 [(.t 32), (.c (.int .i64 0)), (.c (.int .i64 4))],
   zm 31 33,
   ze 34 0 31,
   ze 35 1 31,
   zm 8 34,
   zm 9 35])
 (.seq
 (.reg [zm 37 2,
   zc 38 104 [(.t 37), (.c (.int .i64 4)), (.c (.int .i64 2))],
   zm 36 38,
   ze 39 0 36,
   ze 40 1 36,
   zm 10 39,
   zm 11 40])
 (.seq
 (.reg [zm 42 2,
   zm 43 2,
   zs 44 43,
   ⟨some 45, none, (.mn [(.c (.int .i64 6)), (.t 44)])⟩,
   zm 46 2,
   zs 47 46,
   zd 48 .sub 47 4,
   zd 49 .sub 48 2,
   ⟨some 50, none, (.mx [(.c (.int .i64 0)), (.t 49)])⟩,
   zc 51 105 [(.t 42), (.t 45), (.t 50)],
   zm 41 51,
   ze 52 0 41,
   ze 53 1 41,
   zm 12 52,
   zm 13 53])
 (.dreg [zm 54 0,
   zm 55 0,
   zn 56 55,
   zf 57 2 1 56,
   zl 58 57,
   zm 59 12,
   ⟨some 60, none, (.conv .bytesStr (.t 59))⟩,
   zm 61 8,
   ⟨some 62, none, (.conv (.int .u32) (.t 61))⟩,
   zm 63 10,
   ⟨some 64, none, (.conv (.int .i64) (.t 63))⟩,
   ⟨some 65, none, (.build [(.str []), (.int .u32 0), (.int .i64 0)] [(0, (1, (.t 60))), (1, (1, (.t 62))), (2, (1, (.t 64)))])⟩,
   ⟨some 66, none, (.buildSlice 3 [(.str []), (.int .u32 0), (.int .i64 0)] 1 [(0, (3, (.t 65)))])⟩,
   ⟨some 67, none, (.append 3 32 (.t 58) (.t 66))⟩,
   zn 68 54,
   zf 69 2 1 68,
   ⟨none, none, (.store 1 (.t 69) (.t 67))⟩] [(4, 13)]))))
 (.seq
 (.reg [zd 71 .eql 21 3,
   zm 70 71])
 (.cond (.t 70)
 (.reg [zm 72 0,
   zm 73 6,
   ⟨some 74, none, (.conv (.int .i64) (.t 73))⟩,
   zn 75 72,
   zf 76 3 1 75,
   ⟨none, none, (.store 1 (.t 76) (.t 74))⟩])
 (.seq
 (.reg [zd 78 .eql 21 4,
   zm 77 78])
 (.cond (.t 77)
 (.reg [zm 79 0,
   zm 80 6,
   ⟨some 81, none, (.conv (.int .i64) (.t 80))⟩,
   zn 82 79,
   zf 83 4 1 82,
   ⟨none, none, (.store 1 (.t 83) (.t 81))⟩])
 (.seq
 (.reg [zd 85 .eql 21 5,
   zm 84 85])
 (.cond (.t 84)
 (.reg [zm 86 0,
   zm 87 6,
   ⟨some 88, none, (.conv (.int .i64) (.t 87))⟩,
   zn 89 86,
   zf 90 5 1 89,
   ⟨none, none, (.store 1 (.t 90) (.t 88))⟩])
 (.seq
 (.reg [zd 92 .eql 21 6,
   zm 91 92])
 (.cond (.t 91)
 (.reg [zm 93 0,
   zm 94 6,
   ⟨some 95, none, (.conv (.int .i64) (.t 94))⟩,
   zn 96 93,
   zf 97 6 1 96,
   ⟨none, none, (.store 1 (.t 97) (.t 95))⟩])
 (.seq
 (.reg [zd 99 .eql 21 7,
   zm 98 99])
 (.cond (.t 98)
 (.reg [zm 100 0,
   zm 101 6,
   ⟨some 102, none, (.conv (.int .i64) (.t 101))⟩,
   zn 103 100,
   zf 104 7 1 103,
   ⟨none, none, (.store 1 (.t 104) (.t 102))⟩]) .skip)))))))))))))))))⟩
theorem caf106 : cFunc Tryz.prog Tryz.f106 = some af106 := by kernel_rfl
def af107_l0 : AC :=
 (.seq
 (.reg [zb 14 .lss 13 12])
 (.seq
 (.cond (.t 14) .skip (.exit 0))
 (.seq
 (.block 1
 (.seq
 (.reg [zm 15 13,
   zm 5 15])
 (.seq
 (.dreg [zm 16 0,
   zm 17 5,
   za 18 1 16 17,
   zl 19 18,
   zm 20 1,
   zm 21 5,
   za 22 1 20 21,
   zl 23 22,
   zb 24 .neq 19 23] [])
 (.cond (.t 24)
 (.seq
 (.reg [⟨some 4, none, (.mv (.c (.bool false)))⟩]) .ret) .skip))))
 (.reg [zd 25 .add 13 1,
   zm 13 25]))))
/-- slices.Equal[[]byte,byte] -/
def af107 : AFunc := ⟨26, [(.tmp 4)],
 (.seq
 (.reg [⟨some 4, none, (.mv (.c (.bool false)))⟩])
 (.seq
 (.seq
 (.reg [zm 6 0,
   zs 7 6,
   zm 8 1,
   zs 9 8,
   zb 10 .neq 7 9])
 (.cond (.t 10)
 (.seq
 (.reg [⟨some 4, none, (.mv (.c (.bool false)))⟩]) .ret) .skip))
 (.seq
 (.seq
 (.reg [zm 11 0,
   zs 12 11,
   zk 13 0])
 (.block 0
 (.loop af107_l0)))
 (.seq
 (.reg [⟨some 4, none, (.mv (.c (.bool true)))⟩]) .ret))))⟩
theorem caf107 : cFunc Tryz.prog Tryz.f107 = some af107 := by kernel_rfl
/-- limelight/clock.Mul -/
def af108 : AFunc := ⟨20, [(.tmp 4)],
 (.seq
 (.reg [zk 4 0])
 (.seq
 (.reg [zm 8 0,
   zc 9 98 [(.t 8)],
   zm 10 1,
   zc 11 98 [(.t 10)],
   zc 12 163 [(.t 9), (.t 11)],
   zm 7 12,
   ze 13 0 7,
   ze 14 1 7,
   zm 5 13,
   zm 6 14])
 (.seq
 (.seq
 (.reg [zm 15 5,
   ⟨some 16, none, (.bin .gtr .num (.t 15) (.c (.int .u64 0)))⟩])
 (.cond (.t 16)
 (.seq
 (.reg [zk 4 9223372036854775807]) .ret) .skip))
 (.seq
 (.reg [zm 17 6,
   ⟨some 18, none, (.mn [(.t 17), (.c (.int .u64 9223372036854775807))])⟩,
   ⟨some 19, none, (.conv (.int .i64) (.t 18))⟩,
   zm 4 19]) .ret))))⟩
theorem caf108 : cFunc Tryz.prog Tryz.f108 = some af108 := by kernel_rfl
def af109_l0 : AC :=
 (.seq
 (.seq
 (.reg [zm 7 5,
   zm 8 0,
   zn 9 8,
   zf 10 0 1 9,
   zl 11 10,
   zs 12 11,
   zb 13 .lss 7 12,
   zm 14 13,
   ⟨(some 15), (some (14, true)), (.mv (.t 0))⟩,
   ⟨(some 16), (some (14, true)), (.nilCheck (.t 15))⟩,
   ⟨(some 17), (some (14, true)), (.fieldAddr 0 1 (.t 16))⟩,
   ⟨(some 18), (some (14, true)), (.load1 (.t 17))⟩,
   ⟨(some 19), (some (14, true)), (.mv (.t 5))⟩,
   ⟨(some 20), (some (14, true)), (.ixSlice 2 (.t 18) (.t 19))⟩,
   ⟨(some 21), (some (14, true)), (.fieldAddr 0 1 (.t 20))⟩,
   ⟨(some 22), (some (14, true)), (.load1 (.t 21))⟩,
   ⟨(some 23), (some (14, true)), (.mv (.t 1))⟩,
   ⟨(some 24), (some (14, true)), (.bin .leq .num (.t 22) (.t 23))⟩,
   ⟨some 25, none, (.pick (.t 14) (.t 24) (.c (.bool false)))⟩])
 (.cond (.t 25) .skip (.exit 0)))
 (.block 1
 (.reg [zm 26 5,
   zd 27 .add 26 1,
   zm 5 27])))
/-- (*limelight/alarm.Table).Due -/
def af109 : AFunc := ⟨46, [(.tmp 4)],
 (.seq
 (.reg [⟨some 4, none, (.mv (.c (.slice none 0 0 none)))⟩])
 (.seq
 (.reg [zk 5 0])
 (.seq
 (.block 0
 (.loop af109_l0))
 (.seq
 (.reg [zm 28 0,
   zn 29 28,
   zf 30 0 1 29,
   zl 31 30,
   zm 32 5,
   ⟨some 33, none, (.cut 2 (.t 31) none (some (.t 32)) none)⟩,
   zc 34 164 [(.t 33)],
   zm 6 34])
 (.seq
 (.reg [zm 35 0,
   zm 36 0,
   zn 37 36,
   zf 38 0 1 37,
   zl 39 38,
   zm 40 5,
   ⟨some 41, none, (.cut 2 (.t 39) (some (.t 40)) none none)⟩,
   zc 42 164 [(.t 41)],
   zn 43 35,
   zf 44 0 1 43,
   ⟨none, none, (.store 1 (.t 44) (.t 42))⟩])
 (.seq
 (.reg [zm 45 6,
   zm 4 45]) .ret))))))⟩
theorem caf109 : cFunc Tryz.prog Tryz.f109 = some af109 := by kernel_rfl
/-- (*limelight/bucket.Bucket).Rate -/
def af112 : AFunc := ⟨9, [],
 (.reg [zm 4 0,
   zm 5 1,
   zc 6 166 [(.t 5)],
   zn 7 4,
   zf 8 0 1 7,
   ⟨none, none, (.store 1 (.t 8) (.t 6))⟩])⟩
theorem caf112 : cFunc Tryz.prog Tryz.f112 = some af112 := by kernel_rfl
def af114_l0 : AC :=
 (.seq
 (.reg [zb 10 .lss 9 8])
 (.seq
 (.cond (.t 10) .skip (.exit 0))
 (.seq
 (.block 1
 (.seq
 (.reg [za 11 3 7 9,
   ⟨some 12, none, (.loadN 3 (.t 11))⟩,
   ⟨some 6, none, (.alloc [(.int .u32 0), (.int .u64 0), (.int .i64 0)])⟩,
   ⟨none, none, (.store 3 (.t 6) (.t 12))⟩])
 (.reg [zm 13 4,
   zf 14 1 1 6,
   zl 15 14,
   ⟨some 16, none, (.mn [(.t 13), (.t 15)])⟩,
   zm 4 16])))
 (.reg [zd 17 .add 9 1,
   zm 9 17]))))
/-- limelight/bound.Rate -/
def af114 : AFunc := ⟨22, [(.tmp 2), (.tmp 3)],
 (.seq
 (.reg [⟨some 2, none, (.mv (.c (.int .u64 0)))⟩,
   ⟨some 3, none, (.mv (.c (.bool false)))⟩])
 (.seq
 (.reg [⟨some 4, none, (.mv (.c (.int .u64 1099511627776)))⟩])
 (.seq
 (.seq
 (.reg [zm 7 0,
   zs 8 7,
   zk 9 0])
 (.block 0
 (.loop af114_l0)))
 (.seq
 (.seq
 (.reg [zm 18 0,
   zs 19 18,
   zd 20 .eql 19 0])
 (.cond (.t 20)
 (.seq
 (.reg [⟨some 2, none, (.mv (.c (.int .u64 0)))⟩,
   ⟨some 3, none, (.mv (.c (.bool false)))⟩]) .ret) .skip))
 (.seq
 (.reg [zm 21 4,
   zm 2 21,
   ⟨some 3, none, (.mv (.c (.bool true)))⟩]) .ret)))))⟩
theorem caf114 : cFunc Tryz.prog Tryz.f114 = some af114 := by kernel_rfl
/-- limelight/alloc.Pick -/
def af115 : AFunc := ⟨34, [(.tmp 6)],
 (.seq
 (.reg [⟨some 6, none, (.mv (.c (.slice none 0 0 none)))⟩])
 (.seq
 (.reg [zm 8 0,
   zm 9 1,
   zc 10 167 [(.t 8), (.t 9)],
   zm 7 10])
 (.seq
 (.seq
 (.reg [zm 11 0,
   zm 12 2,
   zm 13 1,
   zc 14 168 [(.t 11), (.t 12), (.t 13)],
   zm 15 14,
   ⟨(some 16), (some (15, true)), (.mv (.t 2))⟩,
   ⟨(some 17), (some (15, true)), (.mv (.t 7))⟩,
   ⟨(some 18), (some (15, true)), (.call 169 [(.t 16), (.t 17)])⟩,
   ⟨(some 19), (some (15, true)), (.un .not (.t 18))⟩,
   ⟨some 20, none, (.pick (.t 15) (.t 19) (.c (.bool false)))⟩,
   zm 21 20,
   ⟨(some 22), (some (21, true)), (.mv (.t 0))⟩,
   ⟨(some 23), (some (21, true)), (.mv (.t 7))⟩,
   ⟨(some 24), (some (21, true)), (.call 170 [(.t 22), (.t 23)])⟩,
   ⟨(some 25), (some (21, true)), (.mv (.t 1))⟩,
   ⟨(some 26), (some (21, true)), (.mv (.t 1))⟩,
   ⟨(some 27), (some (21, true)), (.call 171 [(.t 26)])⟩,
   ⟨(some 28), (some (21, true)), (.bin .sub .num (.t 25) (.t 27))⟩,
   ⟨(some 29), (some (21, true)), (.bin .gtr .num (.t 24) (.t 28))⟩,
   ⟨some 30, none, (.pick (.t 21) (.t 29) (.c (.bool false)))⟩])
 (.cond (.t 30)
 (.seq
 (.reg [zm 31 2,
   zc 32 172 [(.t 31)],
   zm 6 32]) .ret) .skip))
 (.seq
 (.reg [zm 33 7,
   zm 6 33]) .ret))))⟩
theorem caf115 : cFunc Tryz.prog Tryz.f115 = some af115 := by kernel_rfl
def af116_l0 : AC :=
 (.seq
 (.reg [zb 21 .lss 20 19])
 (.seq
 (.cond (.t 21) .skip (.exit 0))
 (.seq
 (.block 1
 (.seq
 (.reg [za 22 1 18 20,
   zl 23 22,
   zm 9 23])
 (.dreg [zm 24 7,
   zm 25 0,
   zm 26 9,
   zn 27 26,
   zf 28 0 1 27,
   zl 29 28,
   zn 30 25,
   zf 31 1 6 30,
   ⟨some 32, none, (.ixArr 6 1 (.t 31) (.t 29))⟩,
   zl 33 32,
   zn 34 33,
   zf 35 2 1 34,
   zl 36 35,
   zm 37 9,
   zn 38 37,
   zf 39 3 1 38,
   zl 40 39,
   zm 41 9,
   zn 42 41,
   zf 43 4 1 42,
   zl 44 43,
   zm 45 0,
   zn 46 45,
   zf 47 7 1 46,
   zl 48 47,
   zm 49 2,
   zc 50 173 [(.t 36), (.t 40), (.t 44), (.t 48), (.t 49)],
   ⟨some 51, none, (.buildSlice 3 [(.int .i64 0), (.slice none 0 0 none), (.slice none 0 0 none)] 1 [(0, (3, (.t 50)))])⟩,
   ⟨some 52, none, (.append 3 56 (.t 24) (.t 51))⟩,
   zm 7 52] [])))
 (.reg [zd 53 .add 20 1,
   zm 20 53]))))
/-- (*limelight/sfu.House).choices -/
def af116 : AFunc := ⟨55, [(.tmp 6)],
 (.seq
 (.reg [⟨some 6, none, (.mv (.c (.slice none 0 0 none)))⟩])
 (.seq
 (.reg [⟨some 7, none, (.mv (.c (.slice none 0 0 none)))⟩])
 (.seq
 (.seq
 (.reg [zm 10 0,
   zm 11 1,
   zn 12 10,
   zf 13 1 6 12,
   ⟨some 14, none, (.ixArr 6 1 (.t 13) (.t 11))⟩,
   zl 15 14,
   zn 16 15,
   zf 17 4 1 16,
   zl 18 17,
   zs 19 18,
   zk 20 0])
 (.block 0
 (.loop af116_l0)))
 (.seq
 (.reg [zm 54 7,
   zm 6 54]) .ret))))⟩
theorem caf116 : cFunc Tryz.prog Tryz.f116 = some af116 := by kernel_rfl
/-- (*limelight/sfu.peer).budget -/
def af117 : AFunc := ⟨9, [(.tmp 2)],
 (.seq
 (.reg [zk 2 0])
 (.seq
 (.reg [zm 3 0,
   zn 4 3,
   zf 5 0 1 4,
   zl 6 5,
   zc 7 69 [(.t 6)],
   zc 8 174 [(.t 7)],
   zm 2 8]) .ret))⟩
theorem caf117 : cFunc Tryz.prog Tryz.f117 = some af117 := by kernel_rfl
/-- (*limelight/write.Writer).Want -/
def af118 : AFunc := ⟨32, [(.tmp 4)],
 (.seq
 (.reg [⟨some 4, none, (.mv (.c (.bool false)))⟩])
 (.seq
 (.reg [zm 6 1,
   ⟨some 7, none, (.mx [(.c (.int .i64 (-1))), (.t 6)])⟩,
   zm 1 7])
 (.seq
 (.reg [zm 8 1,
   zm 9 0,
   zn 10 9,
   zf 11 2 1 10,
   zl 12 11,
   zb 13 .neq 8 12,
   zm 5 13])
 (.seq
 (.reg [zm 14 0,
   zm 15 1,
   zn 16 14,
   zf 17 2 1 16,
   ⟨none, none, (.store 1 (.t 17) (.t 15))⟩])
 (.seq
 (.seq
 (.reg [zm 18 0,
   zn 19 18,
   zf 20 1 1 19,
   zl 21 20,
   zm 22 1,
   zb 23 .neq 21 22])
 (.cond (.t 23)
 (.reg [zm 24 0,
   zn 25 24,
   zf 26 1 1 25,
   ⟨none, none, (.store 1 (.t 26) (.c (.int .i64 (-1))))⟩]) .skip))
 (.seq
 (.reg [zm 27 5,
   zm 28 27,
   ⟨(some 29), (some (28, true)), (.mv (.t 1))⟩,
   ⟨(some 30), (some (28, true)), (.bin .geq .num (.t 29) (.c (.int .i64 0)))⟩,
   ⟨some 31, none, (.pick (.t 28) (.t 30) (.c (.bool false)))⟩,
   zm 4 31]) .ret))))))⟩
theorem caf118 : cFunc Tryz.prog Tryz.f118 = some af118 := by kernel_rfl
/-- (*limelight/sfu.House).key -/
def af119 : AFunc := ⟨24, [],
 (.reg [zm 6 0,
   zm 7 1,
   zm 8 0,
   zm 9 1,
   zn 10 8,
   zf 11 1 6 10,
   ⟨some 12, none, (.ixArr 6 1 (.t 11) (.t 9))⟩,
   zl 13 12,
   zn 14 13,
   zf 15 2 1 14,
   zl 16 15,
   zc 17 175 [(.t 16)],
   zm 18 2,
   za 19 3 17 18,
   zf 20 1 1 19,
   zl 21 20,
   ⟨some 22, none, (.build [(.int .i64 0), (.int .u32 0), (.int .u32 0), (.slice none 0 0 none), (.slice none 0 0 none), (.slice none 0 0 none), (.int .u64 0), (.int .i64 0), (.int .i64 0), (.slice none 0 0 none)] [(0, (1, (.c (.int .i64 3)))), (1, (1, (.c (.int .u32 1)))), (2, (1, (.t 21)))])⟩,
   zc 23 149 [(.t 6), (.t 7), (.t 22)]])⟩
theorem caf119 : cFunc Tryz.prog Tryz.f119 = some af119 := by kernel_rfl
/-- (*limelight/watch.Watch).Seen -/
def af120 : AFunc := ⟨26, [],
 (.seq
 (.reg [zm 6 0,
   zm 7 1,
   zc 8 176 [(.t 6), (.t 7)]])
 (.cond (.t 8)
 (.dreg [zm 9 0,
   zn 10 9,
   zf 11 0 1 10,
   zl 12 11,
   zm 13 1,
   zm 14 0,
   zn 15 14,
   zf 16 0 1 15,
   zl 17 16,
   zm 18 1,
   za 19 2 17 18,
   zf 20 0 1 19,
   zl 21 20,
   zm 22 2,
   ⟨some 23, none, (.mx [(.t 21), (.t 22)])⟩,
   za 24 2 12 13,
   zf 25 0 1 24,
   ⟨none, none, (.store 1 (.t 25) (.t 23))⟩] []) .skip))⟩
theorem caf120 : cFunc Tryz.prog Tryz.f120 = some af120 := by kernel_rfl
/-- (*limelight/watch.Watch).Wake -/
def af121 : AFunc := ⟨33, [(.tmp 6)],
 (.seq
 (.reg [⟨some 6, none, (.mv (.c (.bool false)))⟩])
 (.seq
 (.seq
 (.reg [zm 7 0,
   zm 8 1,
   zc 9 176 [(.t 7), (.t 8)],
   ⟨some 10, none, (.un .not (.t 9))⟩,
   zm 11 10,
   ⟨(some 12), (some (11, false)), (.mv (.t 0))⟩,
   ⟨(some 13), (some (11, false)), (.nilCheck (.t 12))⟩,
   ⟨(some 14), (some (11, false)), (.fieldAddr 0 1 (.t 13))⟩,
   ⟨(some 15), (some (11, false)), (.load1 (.t 14))⟩,
   ⟨(some 16), (some (11, false)), (.mv (.t 1))⟩,
   ⟨(some 17), (some (11, false)), (.ixSlice 2 (.t 15) (.t 16))⟩,
   ⟨(some 18), (some (11, false)), (.fieldAddr 1 1 (.t 17))⟩,
   ⟨(some 19), (some (11, false)), (.load1 (.t 18))⟩,
   ⟨(some 20), (some (11, false)), (.un .not (.t 19))⟩,
   ⟨some 21, none, (.pick (.t 11) (.c (.bool true)) (.t 20))⟩])
 (.cond (.t 21)
 (.seq
 (.reg [⟨some 6, none, (.mv (.c (.bool false)))⟩]) .ret) .skip))
 (.seq
 (.reg [zm 22 0,
   zn 23 22,
   zf 24 0 1 23,
   zl 25 24,
   zm 26 1,
   za 27 2 25 26,
   zf 28 1 1 27,
   ⟨none, none, (.store 1 (.t 28) (.c (.bool false)))⟩])
 (.seq
 (.reg [zm 29 0,
   zm 30 1,
   zm 31 2,
   zc 32 120 [(.t 29), (.t 30), (.t 31)]])
 (.seq
 (.reg [⟨some 6, none, (.mv (.c (.bool true)))⟩]) .ret)))))⟩
theorem caf121 : cFunc Tryz.prog Tryz.f121 = some af121 := by kernel_rfl
/-- (*limelight/layer.Layers).Rest -/
def af122 : AFunc := ⟨53, [],
 (.seq
 (.seq
 (.reg [zm 8 0,
   zm 9 1,
   zc 10 128 [(.t 8), (.t 9)],
   ⟨some 11, none, (.un .not (.t 10))⟩,
   zm 12 11,
   ⟨(some 13), (some (12, false)), (.mv (.t 0))⟩,
   ⟨(some 14), (some (12, false)), (.nilCheck (.t 13))⟩,
   ⟨(some 15), (some (12, false)), (.fieldAddr 0 1 (.t 14))⟩,
   ⟨(some 16), (some (12, false)), (.load1 (.t 15))⟩,
   ⟨(some 17), (some (12, false)), (.mv (.t 1))⟩,
   ⟨(some 18), (some (12, false)), (.ixSlice 10 (.t 16) (.t 17))⟩,
   ⟨(some 19), (some (12, false)), (.fieldAddr 7 1 (.t 18))⟩,
   ⟨(some 20), (some (12, false)), (.load1 (.t 19))⟩,
   ⟨(some 21), (some (12, false)), (.mv (.t 2))⟩,
   ⟨(some 22), (some (12, false)), (.bin .eql .bool (.t 20) (.t 21))⟩,
   ⟨some 23, none, (.pick (.t 12) (.c (.bool true)) (.t 22))⟩])
 (.cond (.t 23) .ret .skip))
 (.seq
 (.seq
 (.reg [zm 24 2])
 (.cond (.t 24)
 (.dreg [zm 25 0,
   zn 26 25,
   zf 27 0 1 26,
   zl 28 27,
   zm 29 1,
   zm 30 0,
   zm 31 1,
   zm 32 3,
   zc 33 177 [(.t 30), (.t 31), (.t 32)],
   za 34 10 28 29,
   zf 35 9 1 34,
   ⟨none, none, (.store 1 (.t 35) (.t 33))⟩] [(3, 9)]) .skip))
 (.dreg [zm 36 0,
   zn 37 36,
   zf 38 0 1 37,
   zl 39 38,
   zm 40 1,
   zm 41 0,
   zn 42 41,
   zf 43 0 1 42,
   zl 44 43,
   zm 45 1,
   zm 46 2,
   zm 47 2,
   ⟨some 48, none, (.un .not (.t 47))⟩,
   za 49 10 39 40,
   zf 50 7 1 49,
   ⟨none, none, (.store 1 (.t 50) (.t 46))⟩,
   za 51 10 44 45,
   zf 52 8 1 51,
   ⟨none, none, (.store 1 (.t 52) (.t 48))⟩] [])))⟩
theorem caf122 : cFunc Tryz.prog Tryz.f122 = some af122 := by kernel_rfl
def af123_l0 : AC :=
 (.seq
 (.reg [zb 14 .lss 13 12])
 (.seq
 (.cond (.t 14) .skip (.exit 0))
 (.seq
 (.block 1
 (.seq
 (.reg [zm 15 13,
   za 16 2 11 13,
   ⟨some 17, none, (.loadN 2 (.t 16))⟩,
   ⟨some 7, none, (.alloc [(.int .i64 0), (.bool false)])⟩,
   zm 6 15,
   ⟨none, none, (.store 2 (.t 7) (.t 17))⟩])
 (.seq
 (.reg [zf 18 1 1 7,
   zl 19 18,
   ⟨some 20, none, (.un .not (.t 19))⟩,
   zm 21 20,
   ⟨(some 22), (some (21, true)), (.fieldAddr 0 1 (.t 7))⟩,
   ⟨(some 23), (some (21, true)), (.load1 (.t 22))⟩,
   ⟨(some 24), (some (21, true)), (.mv (.t 1))⟩,
   ⟨(some 25), (some (21, true)), (.bin .leq .num (.t 23) (.t 24))⟩,
   ⟨some 26, none, (.pick (.t 21) (.t 25) (.c (.bool false)))⟩,
   zm 27 26,
   ⟨(some 28), (some (27, true)), (.mv (.t 1))⟩,
   ⟨(some 29), (some (27, true)), (.conv (.int .u64) (.t 28))⟩,
   ⟨(some 30), (some (27, true)), (.fieldAddr 0 1 (.t 7))⟩,
   ⟨(some 31), (some (27, true)), (.load1 (.t 30))⟩,
   ⟨(some 32), (some (27, true)), (.conv (.int .u64) (.t 31))⟩,
   ⟨(some 33), (some (27, true)), (.bin .sub .num (.t 29) (.t 32))⟩,
   ⟨(some 34), (some (27, true)), (.bin .geq .num (.t 33) (.c (.int .u64 500000)))⟩,
   ⟨some 35, none, (.pick (.t 27) (.t 34) (.c (.bool false)))⟩])
 (.cond (.t 35)
 (.reg [zm 36 5,
   zm 37 6,
   ⟨some 38, none, (.buildSlice 1 [(.int .i64 0)] 1 [(0, (1, (.t 37)))])⟩,
   ⟨some 39, none, (.append 1 8 (.t 36) (.t 38))⟩,
   zm 5 39]) .skip))))
 (.reg [zd 40 .add 13 1,
   zm 13 40]))))
/-- (*limelight/watch.Watch).Idle -/
def af123 : AFunc := ⟨43, [(.tmp 4)],
 (.seq
 (.reg [⟨some 4, none, (.mv (.c (.slice none 0 0 none)))⟩])
 (.seq
 (.reg [⟨some 5, none, (.mv (.c (.slice none 0 0 none)))⟩])
 (.seq
 (.seq
 (.reg [zm 8 0,
   zn 9 8,
   zf 10 0 1 9,
   zl 11 10,
   zs 12 11,
   zk 13 0])
 (.block 0
 (.loop af123_l0)))
 (.seq
 (.reg [zm 41 5,
   zc 42 74 [(.t 41)],
   zm 4 42]) .ret))))⟩
theorem caf123 : cFunc Tryz.prog Tryz.f123 = some af123 := by kernel_rfl
/-- (*limelight/watch.Watch).Rest -/
def af124 : AFunc := ⟨26, [(.tmp 4)],
 (.seq
 (.reg [⟨some 4, none, (.mv (.c (.bool false)))⟩])
 (.seq
 (.seq
 (.reg [zm 5 0,
   zm 6 1,
   zc 7 176 [(.t 5), (.t 6)],
   ⟨some 8, none, (.un .not (.t 7))⟩,
   zm 9 8,
   ⟨(some 10), (some (9, false)), (.mv (.t 0))⟩,
   ⟨(some 11), (some (9, false)), (.nilCheck (.t 10))⟩,
   ⟨(some 12), (some (9, false)), (.fieldAddr 0 1 (.t 11))⟩,
   ⟨(some 13), (some (9, false)), (.load1 (.t 12))⟩,
   ⟨(some 14), (some (9, false)), (.mv (.t 1))⟩,
   ⟨(some 15), (some (9, false)), (.ixSlice 2 (.t 13) (.t 14))⟩,
   ⟨(some 16), (some (9, false)), (.fieldAddr 1 1 (.t 15))⟩,
   ⟨(some 17), (some (9, false)), (.load1 (.t 16))⟩,
   ⟨some 18, none, (.pick (.t 9) (.c (.bool true)) (.t 17))⟩])
 (.cond (.t 18)
 (.seq
 (.reg [⟨some 4, none, (.mv (.c (.bool false)))⟩]) .ret) .skip))
 (.seq
 (.reg [zm 19 0,
   zn 20 19,
   zf 21 0 1 20,
   zl 22 21,
   zm 23 1,
   za 24 2 22 23,
   zf 25 1 1 24,
   ⟨none, none, (.store 1 (.t 25) (.c (.bool true)))⟩])
 (.seq
 (.reg [⟨some 4, none, (.mv (.c (.bool true)))⟩]) .ret))))⟩
theorem caf124 : cFunc Tryz.prog Tryz.f124 = some af124 := by kernel_rfl
/-- (*limelight/bucket.Bucket).Take -/
def af125 : AFunc := ⟨25, [(.tmp 4)],
 (.seq
 (.reg [⟨some 4, none, (.mv (.c (.bool false)))⟩])
 (.seq
 (.seq
 (.dreg [zm 5 1,
   zd 6 .lss 5 0,
   zm 7 6,
   ⟨(some 8), (some (7, false)), (.mv (.t 1))⟩,
   ⟨(some 9), (some (7, false)), (.call 108 [(.t 8), (.c (.int .i64 1000000))])⟩,
   ⟨(some 10), (some (7, false)), (.mv (.t 0))⟩,
   ⟨(some 11), (some (7, false)), (.nilCheck (.t 10))⟩,
   ⟨(some 12), (some (7, false)), (.fieldAddr 2 1 (.t 11))⟩,
   ⟨(some 13), (some (7, false)), (.load1 (.t 12))⟩,
   ⟨(some 14), (some (7, false)), (.bin .gtr .num (.t 9) (.t 13))⟩,
   ⟨some 15, none, (.pick (.t 7) (.c (.bool true)) (.t 14))⟩] [(8, 4)])
 (.cond (.t 15)
 (.seq
 (.reg [⟨some 4, none, (.mv (.c (.bool false)))⟩]) .ret) .skip))
 (.seq
 (.reg [zm 16 0,
   zn 17 16,
   zf 18 2 1 17,
   zl 19 18,
   zm 20 1,
   zd 21 .mul 20 1000000,
   zb 22 .sub 19 21,
   zn 23 16,
   zf 24 2 1 23,
   ⟨none, none, (.store 1 (.t 24) (.t 22))⟩])
 (.seq
 (.reg [⟨some 4, none, (.mv (.c (.bool true)))⟩]) .ret))))⟩
theorem caf125 : cFunc Tryz.prog Tryz.f125 = some af125 := by kernel_rfl
/-- limelight/pace.cost -/
def af126 : AFunc := ⟨6, [(.tmp 2)],
 (.seq
 (.reg [zk 2 0])
 (.seq
 (.reg [zm 3 0,
   zs 4 3,
   zd 5 .add 4 28,
   zm 2 5]) .ret))⟩
theorem caf126 : cFunc Tryz.prog Tryz.f126 = some af126 := by kernel_rfl
/-- slices.Clip[[][]byte,[]byte] -/
def af127 : AFunc := ⟨9, [(.tmp 2)],
 (.seq
 (.reg [⟨some 2, none, (.mv (.c (.slice none 0 0 none)))⟩])
 (.seq
 (.reg [zm 3 0,
   zm 4 0,
   zs 5 4,
   zm 6 0,
   zs 7 6,
   ⟨some 8, none, (.cut 1 (.t 3) none (some (.t 5)) (some (.t 7)))⟩,
   zm 2 8]) .ret))⟩
theorem caf127 : cFunc Tryz.prog Tryz.f127 = some af127 := by kernel_rfl
/-- (*limelight/layer.Layers).is -/
def af128 : AFunc := ⟨16, [(.tmp 4)],
 (.seq
 (.reg [⟨some 4, none, (.mv (.c (.bool false)))⟩])
 (.seq
 (.reg [zm 5 1,
   zd 6 .geq 5 0,
   zm 7 6,
   ⟨(some 8), (some (7, true)), (.mv (.t 1))⟩,
   ⟨(some 9), (some (7, true)), (.mv (.t 0))⟩,
   ⟨(some 10), (some (7, true)), (.nilCheck (.t 9))⟩,
   ⟨(some 11), (some (7, true)), (.fieldAddr 0 1 (.t 10))⟩,
   ⟨(some 12), (some (7, true)), (.load1 (.t 11))⟩,
   ⟨(some 13), (some (7, true)), (.len (.t 12))⟩,
   ⟨(some 14), (some (7, true)), (.bin .lss .num (.t 8) (.t 13))⟩,
   ⟨some 15, none, (.pick (.t 7) (.t 14) (.c (.bool false)))⟩,
   zm 4 15]) .ret))⟩
theorem caf128 : cFunc Tryz.prog Tryz.f128 = some af128 := by kernel_rfl
def af129_l0 : AC :=
 (.seq
 (.reg [zb 32 .lss 31 30])
 (.seq
 (.cond (.t 32) .skip (.exit 0))
 (.seq
 (.block 1
 (.seq
 (.reg [zm 33 31,
   za 34 1 29 31,
   zl 35 34,
   zm 4 33,
   zm 5 35])
 (.seq
 (.reg [zm 36 5,
   ⟨some 37, none, (.un .not (.t 36))⟩,
   zm 38 37,
   ⟨(some 39), (some (38, true)), (.fieldAddr 0 1 (.t 1))⟩,
   ⟨(some 40), (some (38, true)), (.load1 (.t 39))⟩,
   ⟨(some 41), (some (38, true)), (.mv (.t 4))⟩,
   ⟨(some 42), (some (38, true)), (.bin .add .num (.t 41) (.c (.int .i64 1)))⟩,
   ⟨(some 43), (some (38, true)), (.call 80 [(.t 40), (.t 42)])⟩,
   ⟨(some 44), (some (38, true)), (.un .not (.t 43))⟩,
   ⟨some 45, none, (.pick (.t 38) (.t 44) (.c (.bool false)))⟩])
 (.cond (.t 45)
 (.seq
 (.reg [⟨some 2, none, (.mv (.c (.bool false)))⟩]) .ret) .skip))))
 (.reg [zd 46 .add 31 1,
   zm 31 46]))))
/-- limelight/ctl.fields -/
def af129 : AFunc := ⟨47, [(.tmp 2)],
 (.seq
 (.reg [⟨some 1, none, (.box (.t 0))⟩,
   ⟨some 2, none, (.mv (.c (.bool false)))⟩])
 (.seq
 (.reg [zf 6 1 1 1,
   zl 7 6,
   zd 8 .eql 7 0,
   zf 9 2 1 1,
   zl 10 9,
   zs 11 10,
   zd 12 .eql 11 0,
   zf 13 3 1 1,
   zl 14 13,
   zd 15 .eql 14 0,
   zf 16 4 1 1,
   zl 17 16,
   zd 18 .eql 17 0,
   zf 19 5 1 1,
   zl 20 19,
   zd 21 .eql 20 0,
   zf 22 6 1 1,
   zl 23 22,
   zd 24 .eql 23 0,
   zf 25 7 1 1,
   zl 26 25,
   zd 27 .eql 26 0,
   ⟨some 28, none, (.buildSlice 1 [(.bool false)] 7 [(0, (1, (.t 8))), (1, (1, (.t 12))), (2, (1, (.t 15))), (3, (1, (.t 18))), (4, (1, (.t 21))), (5, (1, (.t 24))), (6, (1, (.t 27)))])⟩,
   zm 3 28])
 (.seq
 (.seq
 (.reg [zm 29 3,
   zs 30 29,
   zk 31 0])
 (.block 0
 (.loop af129_l0)))
 (.seq
 (.reg [⟨some 2, none, (.mv (.c (.bool true)))⟩]) .ret))))⟩
theorem caf129 : cFunc Tryz.prog Tryz.f129 = some af129 := by kernel_rfl
/-- limelight/ctl.values -/
def af130 : AFunc := ⟨67, [(.tmp 2)],
 (.seq
 (.reg [⟨some 1, none, (.box (.t 0))⟩,
   ⟨some 2, none, (.mv (.c (.bool false)))⟩])
 (.seq
 (.reg [zf 3 0 1 1,
   zl 4 3,
   zc 5 80 [(.t 4), (.c (.int .i64 1))],
   ⟨some 6, none, (.un .not (.t 5))⟩,
   zm 7 6,
   ⟨(some 8), (some (7, false)), (.fieldAddr 1 1 (.t 1))⟩,
   ⟨(some 9), (some (7, false)), (.load1 (.t 8))⟩,
   ⟨(some 10), (some (7, false)), (.call 178 [(.t 9), (.c (.int .i64 1)), (.c (.int .i64 1099511627776))])⟩,
   ⟨some 11, none, (.pick (.t 7) (.c (.bool true)) (.t 10))⟩,
   zm 12 11,
   ⟨(some 13), (some (12, true)), (.fieldAddr 0 1 (.t 1))⟩,
   ⟨(some 14), (some (12, true)), (.load1 (.t 13))⟩,
   ⟨(some 15), (some (12, true)), (.call 80 [(.t 14), (.c (.int .i64 3))])⟩,
   ⟨(some 16), (some (12, true)), (.un .not (.t 15))⟩,
   ⟨(some 17), (some (12, true)), (.mv (.t 16))⟩,
   ⟨(some 18), (some (17, false)), (.fieldAddr 3 1 (.t 1))⟩,
   ⟨(some 19), (some (17, false)), (.load1 (.t 18))⟩,
   ⟨(some 20), (some (17, false)), (.call 178 [(.t 19), (.c (.int .i64 0)), (.c (.int .i64 5))])⟩,
   ⟨(some 21), (some (12, true)), (.pick (.t 17) (.c (.bool true)) (.t 20))⟩,
   ⟨some 22, none, (.pick (.t 12) (.t 21) (.c (.bool false)))⟩,
   zm 23 22,
   ⟨(some 24), (some (23, true)), (.fieldAddr 0 1 (.t 1))⟩,
   ⟨(some 25), (some (23, true)), (.load1 (.t 24))⟩,
   ⟨(some 26), (some (23, true)), (.call 80 [(.t 25), (.c (.int .i64 4))])⟩,
   ⟨(some 27), (some (23, true)), (.un .not (.t 26))⟩,
   ⟨(some 28), (some (23, true)), (.mv (.t 27))⟩,
   ⟨(some 29), (some (28, false)), (.fieldAddr 4 1 (.t 1))⟩,
   ⟨(some 30), (some (28, false)), (.load1 (.t 29))⟩,
   ⟨(some 31), (some (28, false)), (.call 178 [(.t 30), (.c (.int .i64 1)), (.c (.int .i64 8192))])⟩,
   ⟨(some 32), (some (23, true)), (.pick (.t 28) (.c (.bool true)) (.t 31))⟩,
   ⟨some 33, none, (.pick (.t 23) (.t 32) (.c (.bool false)))⟩,
   zm 34 33,
   ⟨(some 35), (some (34, true)), (.fieldAddr 0 1 (.t 1))⟩,
   ⟨(some 36), (some (34, true)), (.load1 (.t 35))⟩,
   ⟨(some 37), (some (34, true)), (.call 80 [(.t 36), (.c (.int .i64 5))])⟩,
   ⟨(some 38), (some (34, true)), (.un .not (.t 37))⟩,
   ⟨(some 39), (some (34, true)), (.mv (.t 38))⟩,
   ⟨(some 40), (some (39, false)), (.fieldAddr 5 1 (.t 1))⟩,
   ⟨(some 41), (some (39, false)), (.load1 (.t 40))⟩,
   ⟨(some 42), (some (39, false)), (.call 178 [(.t 41), (.c (.int .i64 0)), (.c (.int .i64 3))])⟩,
   ⟨(some 43), (some (34, true)), (.pick (.t 39) (.c (.bool true)) (.t 42))⟩,
   ⟨some 44, none, (.pick (.t 34) (.t 43) (.c (.bool false)))⟩,
   zm 45 44,
   ⟨(some 46), (some (45, true)), (.fieldAddr 0 1 (.t 1))⟩,
   ⟨(some 47), (some (45, true)), (.load1 (.t 46))⟩,
   ⟨(some 48), (some (45, true)), (.call 80 [(.t 47), (.c (.int .i64 6))])⟩,
   ⟨(some 49), (some (45, true)), (.un .not (.t 48))⟩,
   ⟨(some 50), (some (45, true)), (.mv (.t 49))⟩,
   ⟨(some 51), (some (50, false)), (.fieldAddr 6 1 (.t 1))⟩,
   ⟨(some 52), (some (50, false)), (.load1 (.t 51))⟩,
   ⟨(some 53), (some (50, false)), (.call 178 [(.t 52), (.c (.int .i64 0)), (.c (.int .i64 2))])⟩,
   ⟨(some 54), (some (45, true)), (.pick (.t 50) (.c (.bool true)) (.t 53))⟩,
   ⟨some 55, none, (.pick (.t 45) (.t 54) (.c (.bool false)))⟩,
   zm 56 55,
   ⟨(some 57), (some (56, true)), (.fieldAddr 0 1 (.t 1))⟩,
   ⟨(some 58), (some (56, true)), (.load1 (.t 57))⟩,
   ⟨(some 59), (some (56, true)), (.call 80 [(.t 58), (.c (.int .i64 7))])⟩,
   ⟨(some 60), (some (56, true)), (.un .not (.t 59))⟩,
   ⟨(some 61), (some (56, true)), (.mv (.t 60))⟩,
   ⟨(some 62), (some (61, false)), (.fieldAddr 7 1 (.t 1))⟩,
   ⟨(some 63), (some (61, false)), (.load1 (.t 62))⟩,
   ⟨(some 64), (some (61, false)), (.call 178 [(.t 63), (.c (.int .i64 0)), (.c (.int .i64 255))])⟩,
   ⟨(some 65), (some (56, true)), (.pick (.t 61) (.c (.bool true)) (.t 64))⟩,
   ⟨some 66, none, (.pick (.t 56) (.t 65) (.c (.bool false)))⟩,
   zm 2 66]) .ret))⟩
theorem caf130 : cFunc Tryz.prog Tryz.f130 = some af130 := by kernel_rfl
def af131_l0 : AC :=
 (.seq
 (.reg [zb 16 .lss 15 14])
 (.seq
 (.cond (.t 16) .skip (.exit 0))
 (.seq
 (.block 1
 (.seq
 (.reg [zm 17 15,
   za 18 3 13 15,
   ⟨some 19, none, (.loadN 3 (.t 18))⟩,
   ⟨some 4, none, (.alloc [(.str []), (.int .u32 0), (.int .i64 0)])⟩,
   zm 3 17,
   ⟨none, none, (.store 3 (.t 4) (.t 19))⟩])
 (.seq
 (.seq
 (.dreg [zf 20 0 1 4,
   zl 21 20,
   zc 22 179 [(.t 21)],
   ⟨some 23, none, (.un .not (.t 22))⟩,
   zm 24 23,
   ⟨(some 25), (some (24, false)), (.fieldAddr 2 1 (.t 4))⟩,
   ⟨(some 26), (some (24, false)), (.load1 (.t 25))⟩,
   ⟨(some 27), (some (24, false)), (.bin .lss .num (.t 26) (.c (.int .i64 1)))⟩,
   ⟨some 28, none, (.pick (.t 24) (.c (.bool true)) (.t 27))⟩,
   zm 29 28,
   ⟨(some 30), (some (29, false)), (.fieldAddr 2 1 (.t 4))⟩,
   ⟨(some 31), (some (29, false)), (.load1 (.t 30))⟩,
   ⟨(some 32), (some (29, false)), (.bin .gtr .num (.t 31) (.c (.int .i64 8192)))⟩,
   ⟨some 33, none, (.pick (.t 29) (.c (.bool true)) (.t 32))⟩,
   zm 34 33,
   ⟨(some 35), (some (34, false)), (.mv (.t 3))⟩,
   ⟨(some 36), (some (34, false)), (.bin .gtr .num (.t 35) (.c (.int .i64 0)))⟩,
   ⟨(some 37), (some (34, false)), (.mv (.t 36))⟩,
   ⟨(some 38), (some (37, true)), (.fieldAddr 2 1 (.t 4))⟩,
   ⟨(some 39), (some (37, true)), (.load1 (.t 38))⟩,
   ⟨(some 40), (some (37, true)), (.mv (.t 0))⟩,
   ⟨(some 41), (some (37, true)), (.mv (.t 3))⟩,
   ⟨(some 42), (some (37, true)), (.bin .sub .num (.t 41) (.c (.int .i64 1)))⟩,
   ⟨(some 43), (some (37, true)), (.ixSlice 3 (.t 40) (.t 42))⟩,
   ⟨(some 44), (some (37, true)), (.fieldAddr 2 1 (.t 43))⟩,
   ⟨(some 45), (some (37, true)), (.load1 (.t 44))⟩,
   ⟨(some 46), (some (37, true)), (.bin .leq .num (.t 39) (.t 45))⟩,
   ⟨(some 47), (some (34, false)), (.pick (.t 37) (.t 46) (.c (.bool false)))⟩,
   ⟨some 48, none, (.pick (.t 34) (.c (.bool true)) (.t 47))⟩] [])
 (.cond (.t 48)
 (.seq
 (.reg [zk 2 26]) .ret) .skip))
 (.seq
 (.reg [zm 49 0,
   zm 50 3,
   ⟨some 51, none, (.cut 3 (.t 49) none (some (.t 50)) none)⟩,
   ⟨some 52, none, (.mkFunc 181 [(.t 4)])⟩,
   zc 53 180 [(.t 51), (.t 52)]])
 (.cond (.t 53)
 (.seq
 (.reg [zk 2 26]) .ret) .skip)))))
 (.reg [zd 54 .add 15 1,
   zm 15 54]))))
/-- limelight/ctl.Layers -/
def af131 : AFunc := ⟨55, [(.tmp 2)],
 (.seq
 (.reg [zk 2 0])
 (.seq
 (.seq
 (.reg [zm 5 0,
   zs 6 5,
   zd 7 .lss 6 1,
   zm 8 7,
   ⟨(some 9), (some (8, false)), (.mv (.t 0))⟩,
   ⟨(some 10), (some (8, false)), (.len (.t 9))⟩,
   ⟨(some 11), (some (8, false)), (.bin .gtr .num (.t 10) (.c (.int .i64 3)))⟩,
   ⟨some 12, none, (.pick (.t 8) (.c (.bool true)) (.t 11))⟩])
 (.cond (.t 12)
 (.seq
 (.reg [zk 2 26]) .ret) .skip))
 (.seq
 (.seq
 (.reg [zm 13 0,
   zs 14 13,
   zk 15 0])
 (.block 0
 (.loop af131_l0)))
 (.seq
 (.reg [zk 2 0]) .ret))))⟩
theorem caf131 : cFunc Tryz.prog Tryz.f131 = some af131 := by kernel_rfl
/-- (*limelight/room.peer).publish -/
def af133 : AFunc := ⟨16, [(.tmp 4)],
 (.seq
 (.reg [zk 4 0])
 (.seq
 (.seq
 (.reg [zm 5 0,
   zn 6 5,
   zf 7 2 1 6,
   zl 8 7,
   zs 9 8,
   zd 10 .gtr 9 0])
 (.cond (.t 10)
 (.seq
 (.reg [zk 4 23]) .ret) .skip))
 (.seq
 (.reg [zm 11 0,
   zm 12 1,
   zc 13 65 [(.t 12)],
   zn 14 11,
   zf 15 2 1 14,
   ⟨none, none, (.store 1 (.t 15) (.t 13))⟩])
 (.seq
 (.reg [zk 4 0]) .ret))))⟩
theorem caf133 : cFunc Tryz.prog Tryz.f133 = some af133 := by kernel_rfl
/-- (*limelight/room.Room).sub -/
def af134 : AFunc := ⟨121, [(.tmp 6)],
 (.seq
 (.reg [⟨some 5, none, (.box (.t 2))⟩,
   zk 6 0])
 (.seq
 (.reg [zm 10 0,
   zm 11 1,
   zn 12 10,
   zf 13 0 24 12,
   ⟨some 14, none, (.ixArr 6 4 (.t 13) (.t 11))⟩,
   zm 7 14])
 (.seq
 (.dreg [zm 16 7,
   zn 17 16,
   zf 18 3 1 17,
   zl 19 18,
   zf 20 3 1 5,
   zl 21 20,
   zc 22 184 [(.t 19), (.t 21), (.c (.func 185 []))],
   zm 15 22,
   ze 23 0 15,
   ze 24 1 15,
   zm 8 23,
   zm 9 24] [])
 (.seq
 (.seq
 (.reg [zf 25 0 1 5,
   zl 26 25,
   zd 27 .eql 26 4])
 (.cond (.t 27)
 (.seq
 (.block 0
 (.seq
 (.reg [zf 29 3 1 5,
   zl 30 29,
   zm 31 1,
   zb 32 .eql 30 31,
   zm 28 32])
 (.cond (.t 28)
 (.seq
 (.reg [zk 6 25]) .ret)
 (.seq
 (.dreg [zm 34 0,
   zf 35 3 1 5,
   zl 36 35,
   zn 37 34,
   zf 38 0 24 37,
   ⟨some 39, none, (.ixArr 6 4 (.t 38) (.t 36))⟩,
   zf 40 0 1 39,
   zl 41 40,
   ⟨some 42, none, (.un .not (.t 41))⟩,
   zm 43 42,
   ⟨(some 44), (some (43, false)), (.mv (.t 0))⟩,
   ⟨(some 45), (some (43, false)), (.fieldAddr 3 1 (.t 5))⟩,
   ⟨(some 46), (some (43, false)), (.load1 (.t 45))⟩,
   ⟨(some 47), (some (43, false)), (.nilCheck (.t 44))⟩,
   ⟨(some 48), (some (43, false)), (.fieldAddr 0 24 (.t 47))⟩,
   ⟨(some 49), (some (43, false)), (.ixArr 6 4 (.t 48) (.t 46))⟩,
   ⟨(some 50), (some (43, false)), (.fieldAddr 2 1 (.t 49))⟩,
   ⟨(some 51), (some (43, false)), (.load1 (.t 50))⟩,
   ⟨(some 52), (some (43, false)), (.len (.t 51))⟩,
   ⟨(some 53), (some (43, false)), (.bin .eql .num (.t 52) (.c (.int .i64 0)))⟩,
   ⟨some 54, none, (.pick (.t 43) (.c (.bool true)) (.t 53))⟩,
   zm 33 54] [])
 (.cond (.t 33)
 (.seq
 (.reg [zk 6 22]) .ret)
 (.seq
 (.reg [zm 56 9,
   zm 55 56])
 (.cond (.t 55)
 (.seq
 (.reg [zk 6 23]) .ret)
 (.seq
 (.reg [zm 58 7,
   zn 59 58,
   zf 60 3 1 59,
   zl 61 60,
   zs 62 61,
   zd 63 .geq 62 4,
   zm 57 63])
 (.cond (.t 57)
 (.seq
 (.reg [zk 6 24]) .ret) .skip)))))))))
 (.seq
 (.dreg [zm 64 7,
   zm 65 7,
   zn 66 65,
   zf 67 3 1 66,
   zl 68 67,
   zm 69 8,
   zf 70 3 1 5,
   zl 71 70,
   zf 72 4 1 5,
   zl 73 72,
   zf 74 5 1 5,
   zl 75 74,
   ⟨some 76, none, (.build [(.int .i64 0), (.int .i64 0), (.int .i64 0)] [(0, (1, (.t 71))), (1, (1, (.t 73))), (2, (1, (.t 75)))])⟩,
   ⟨some 77, none, (.buildSlice 3 [(.int .i64 0), (.int .i64 0), (.int .i64 0)] 1 [(0, (3, (.t 76)))])⟩,
   zc 78 187 [(.t 68), (.t 69), (.t 77)],
   zn 79 64,
   zf 80 3 1 79,
   ⟨none, none, (.store 1 (.t 80) (.t 78))⟩] [(4, 14)])
 (.seq
 (.reg [zk 6 0]) .ret))) .skip))
 (.seq
 (.block 1
 (.seq
 (.reg [zm 91 9,
   ⟨some 92, none, (.un .not (.t 91))⟩,
   zm 90 92])
 (.cond (.t 90)
 (.seq
 (.reg [zk 6 22]) .ret)
 (.seq
 (.reg [zf 94 0 1 5,
   zl 95 94,
   zd 96 .eql 95 5,
   zm 93 96])
 (.cond (.t 93)
 (.reg [zm 97 7,
   zm 98 7,
   zn 99 98,
   zf 100 3 1 99,
   zl 101 100,
   zm 102 8,
   zm 103 8,
   zd 104 .add 103 1,
   zc 105 188 [(.t 101), (.t 102), (.t 104)],
   zn 106 97,
   zf 107 3 1 106,
   ⟨none, none, (.store 1 (.t 107) (.t 105))⟩])
 (.seq
 (.reg [zf 109 0 1 5,
   zl 110 109,
   zd 111 .eql 110 6,
   zm 108 111])
 (.cond (.t 108)
 (.dreg [zm 112 7,
   zn 113 112,
   zf 114 3 1 113,
   zl 115 114,
   zm 116 8,
   zf 117 4 1 5,
   zl 118 117,
   za 119 3 115 116,
   zf 120 1 1 119,
   ⟨none, none, (.store 1 (.t 120) (.t 118))⟩] [])
 (.dreg [zm 81 7,
   zn 82 81,
   zf 83 3 1 82,
   zl 84 83,
   zm 85 8,
   zf 86 5 1 5,
   zl 87 86,
   za 88 3 84 85,
   zf 89 2 1 88,
   ⟨none, none, (.store 1 (.t 89) (.t 87))⟩] []))))))))
 (.seq
 (.reg [zk 6 0]) .ret))))))⟩
theorem caf134 : cFunc Tryz.prog Tryz.f134 = some af134 := by kernel_rfl
/-- limelight/alarm.New -/
def af135 : AFunc := ⟨3, [(.tmp 0)],
 (.seq
 (.reg [⟨some 0, none, (.mv (.c (.ptr none)))⟩])
 (.seq
 (.reg [⟨some 1, none, (.build [(.slice none 0 0 none)] [])⟩,
   ⟨some 2, none, (.box (.t 1))⟩,
   zm 0 2]) .ret))⟩
theorem caf135 : cFunc Tryz.prog Tryz.f135 = some af135 := by kernel_rfl
/-- limelight/bucket.New -/
def af136 : AFunc := ⟨14, [(.tmp 4)],
 (.seq
 (.reg [⟨some 4, none, (.mv (.c (.ptr none)))⟩])
 (.seq
 (.reg [zm 5 0,
   zc 6 166 [(.t 5)],
   zm 7 1,
   zc 8 166 [(.t 7)],
   zm 9 1,
   zc 10 166 [(.t 9)],
   zc 11 108 [(.t 10), (.c (.int .i64 1000000))],
   ⟨some 12, none, (.build [(.int .i64 0), (.int .i64 0), (.int .i64 0)] [(0, (1, (.t 6))), (1, (1, (.t 8))), (2, (1, (.t 11)))])⟩,
   ⟨some 13, none, (.box (.t 12))⟩,
   zm 4 13]) .ret))⟩
theorem caf136 : cFunc Tryz.prog Tryz.f136 = some af136 := by kernel_rfl
def af138_l0 : AC :=
 (.seq
 (.reg [zb 14 .lss 13 12])
 (.seq
 (.cond (.t 14) .skip (.exit 0))
 (.seq
 (.block 1
 (.seq
 (.reg [za 15 3 11 13,
   ⟨some 16, none, (.loadN 3 (.t 15))⟩,
   ⟨some 5, none, (.alloc [(.str []), (.int .u32 0), (.int .i64 0)])⟩,
   ⟨none, none, (.store 3 (.t 5) (.t 16))⟩])
 (.dreg [zm 17 3,
   zm 18 3,
   zn 19 18,
   zf 20 0 1 19,
   zl 21 20,
   ⟨some 22, none, (.loadN 3 (.t 5))⟩,
   zc 23 189 [],
   zc 24 190 [],
   ⟨some 25, none, (.build [(.str []), (.int .u32 0), (.int .i64 0), (.ptr none), (.ptr none), (.bool false), (.int .i64 0), (.bool false), (.bool false), (.int .i64 0)] [(0, (3, (.t 22))), (3, (1, (.t 23))), (4, (1, (.t 24)))])⟩,
   ⟨some 26, none, (.buildSlice 10 [(.str []), (.int .u32 0), (.int .i64 0), (.ptr none), (.ptr none), (.bool false), (.int .i64 0), (.bool false), (.bool false), (.int .i64 0)] 1 [(0, (10, (.t 25)))])⟩,
   ⟨some 27, none, (.append 10 80 (.t 21) (.t 26))⟩,
   zn 28 17,
   zf 29 0 1 28,
   ⟨none, none, (.store 1 (.t 29) (.t 27))⟩] [(4, 7), (4, 8), (4, 10), (5, 7), (5, 8)])))
 (.reg [zd 30 .add 13 1,
   zm 13 30]))))
/-- limelight/layer.New -/
def af138 : AFunc := ⟨32, [(.tmp 2)],
 (.seq
 (.reg [⟨some 2, none, (.mv (.c (.ptr none)))⟩])
 (.seq
 (.seq
 (.reg [zm 6 0,
   zc 7 131 [(.t 6)],
   zd 8 .neq 7 0])
 (.cond (.t 8)
 (.seq
 (.reg [⟨some 2, none, (.mv (.c (.ptr none)))⟩]) .ret) .skip))
 (.seq
 (.reg [⟨some 9, none, (.build [(.slice none 0 0 none)] [])⟩,
   ⟨some 10, none, (.box (.t 9))⟩,
   zm 3 10])
 (.seq
 (.seq
 (.reg [zm 11 0,
   zs 12 11,
   zk 13 0])
 (.block 0
 (.loop af138_l0)))
 (.seq
 (.reg [zm 31 3,
   zm 2 31]) .ret)))))⟩
theorem caf138 : cFunc Tryz.prog Tryz.f138 = some af138 := by kernel_rfl
/-- limelight/watch.New -/
def af139 : AFunc := ⟨13, [(.tmp 2)],
 (.seq
 (.reg [⟨some 2, none, (.mv (.c (.ptr none)))⟩])
 (.seq
 (.seq
 (.reg [zm 3 0,
   zd 4 .lss 3 1,
   zm 5 4,
   ⟨(some 6), (some (5, false)), (.mv (.t 0))⟩,
   ⟨(some 7), (some (5, false)), (.bin .gtr .num (.t 6) (.c (.int .i64 3)))⟩,
   ⟨some 8, none, (.pick (.t 5) (.c (.bool true)) (.t 7))⟩])
 (.cond (.t 8)
 (.seq
 (.reg [⟨some 2, none, (.mv (.c (.ptr none)))⟩]) .ret) .skip))
 (.seq
 (.reg [zm 9 0,
   ⟨some 10, none, (.mkSlice 2 16 [(.int .i64 0), (.bool false)] (.t 9) (.t 9))⟩,
   ⟨some 11, none, (.build [(.slice none 0 0 none)] [(0, (1, (.t 10)))])⟩,
   ⟨some 12, none, (.box (.t 11))⟩,
   zm 2 12]) .ret)))⟩
theorem caf139 : cFunc Tryz.prog Tryz.f139 = some af139 := by kernel_rfl
/-- limelight/write.New -/
def af140 : AFunc := ⟨6, [(.tmp 2)],
 (.seq
 (.reg [⟨some 2, none, (.mv (.c (.ptr none)))⟩])
 (.seq
 (.reg [zm 3 0,
   ⟨some 4, none, (.build [(.int .u32 0), (.int .i64 0), (.int .i64 0), (.int .i64 0), (.int .i64 0), (.int .i64 0), (.int .i64 0), (.int .i64 0), (.int .i64 0)] [(0, (1, (.t 3))), (1, (1, (.c (.int .i64 (-1))))), (2, (1, (.c (.int .i64 (-1))))), (4, (1, (.c (.int .i64 (-1)))))])⟩,
   ⟨some 5, none, (.box (.t 4))⟩,
   zm 2 5]) .ret))⟩
theorem caf140 : cFunc Tryz.prog Tryz.f140 = some af140 := by kernel_rfl
/-- slices.SortFunc[[]*limelight/sfu.sub,*limelight/sfu.sub] -/
def af141 : AFunc := ⟨14, [],
 (.seq
 (.reg [zm 5 0,
   zs 6 5,
   zm 4 6])
 (.reg [zm 7 0,
   zm 8 4,
   zm 9 4,
   ⟨some 10, none, (.conv (.int .u64) (.t 9))⟩,
   zc 11 192 [(.t 10)],
   zm 12 1,
   zc 13 191 [(.t 7), (.c (.int .i64 0)), (.t 8), (.t 11), (.t 12)]]))⟩
theorem caf141 : cFunc Tryz.prog Tryz.f141 = some af141 := by kernel_rfl
/-- (*limelight/sfu.House).subscribe$1 -/
def af142 : AFunc := ⟨14, [(.tmp 4)],
 (.seq
 (.reg [zk 4 0])
 (.seq
 (.dreg [zm 5 0,
   zn 6 5,
   zf 7 0 1 6,
   zl 8 7,
   zm 9 1,
   zn 10 9,
   zf 11 0 1 10,
   zl 12 11,
   zb 13 .sub 8 12,
   zm 4 13] []) .ret))⟩
theorem caf142 : cFunc Tryz.prog Tryz.f142 = some af142 := by kernel_rfl
/-- (*limelight/sfu.House).report -/
def af149 : AFunc := ⟨20, [],
 (.seq
 (.reg [⟨some 5, none, (.box (.t 2))⟩])
 (.seq
 (.reg [⟨some 9, none, (.loadN 10 (.t 5))⟩,
   ⟨some 10, none, (.buildSlice 10 [(.int .i64 0), (.int .u32 0), (.int .u32 0), (.slice none 0 0 none), (.slice none 0 0 none), (.slice none 0 0 none), (.int .u64 0), (.int .i64 0), (.int .i64 0), (.slice none 0 0 none)] 1 [(0, (10, (.t 9)))])⟩,
   zc 11 201 [(.t 10)],
   zm 8 11,
   ze 12 0 8,
   ze 13 1 8,
   zm 6 12,
   zm 7 13])
 (.seq
 (.reg [zm 14 7,
   zd 15 .eql 14 0])
 (.cond (.t 15)
 (.reg [zm 16 0,
   zm 17 1,
   zm 18 6,
   zc 19 161 [(.t 16), (.t 17), (.t 18)]]) .skip))))⟩
theorem caf149 : cFunc Tryz.prog Tryz.f149 = some af149 := by kernel_rfl
/-- limelight/ext.Rid -/
def af152 : AFunc := ⟨33, [(.tmp 2), (.tmp 3)],
 (.seq
 (.reg [⟨some 1, none, (.box (.t 0))⟩,
   ⟨some 2, none, (.mv (.c (.str [])))⟩,
   ⟨some 3, none, (.mv (.c (.bool false)))⟩])
 (.seq
 (.reg [zf 9 6 1 1,
   zl 10 9,
   zf 11 7 1 1,
   zl 12 11,
   zc 13 204 [(.t 10), (.t 12)],
   zm 8 13,
   ze 14 0 8,
   ze 15 1 8,
   zm 4 14,
   zm 5 15])
 (.seq
 (.seq
 (.reg [zm 16 5,
   zd 17 .neq 16 0])
 (.cond (.t 17)
 (.seq
 (.reg [⟨some 2, none, (.mv (.c (.str [])))⟩,
   ⟨some 3, none, (.mv (.c (.bool false)))⟩]) .ret) .skip))
 (.seq
 (.reg [zm 19 4,
   zc 20 205 [(.t 19), (.c (.int .i64 1))],
   zm 18 20,
   ze 21 0 18,
   ze 22 1 18,
   zm 6 21,
   zm 7 22])
 (.seq
 (.seq
 (.reg [zm 23 7,
   ⟨some 24, none, (.un .not (.t 23))⟩,
   zm 25 24,
   ⟨(some 26), (some (25, false)), (.mv (.t 6))⟩,
   ⟨(some 27), (some (25, false)), (.conv .bytesStr (.t 26))⟩,
   ⟨(some 28), (some (25, false)), (.call 179 [(.t 27)])⟩,
   ⟨(some 29), (some (25, false)), (.un .not (.t 28))⟩,
   ⟨some 30, none, (.pick (.t 25) (.c (.bool true)) (.t 29))⟩])
 (.cond (.t 30)
 (.seq
 (.reg [⟨some 2, none, (.mv (.c (.str [])))⟩,
   ⟨some 3, none, (.mv (.c (.bool false)))⟩]) .ret) .skip))
 (.seq
 (.reg [zm 31 6,
   ⟨some 32, none, (.conv .bytesStr (.t 31))⟩,
   zm 2 32,
   ⟨some 3, none, (.mv (.c (.bool true)))⟩]) .ret))))))⟩
theorem caf152 : cFunc Tryz.prog Tryz.f152 = some af152 := by kernel_rfl
def af153_l0 : AC :=
 (.seq
 (.reg [zb 9 .lss 8 7])
 (.seq
 (.cond (.t 9) .skip (.exit 0))
 (.seq
 (.block 1
 (.seq
 (.reg [zm 10 8,
   zm 5 10])
 (.seq
 (.reg [zm 11 1,
   zm 12 0,
   zm 13 5,
   za 14 10 12 13,
   ⟨some 15, none, (.loadN 10 (.t 14))⟩,
   ⟨some 16, none, (.callV (.t 11) [(.t 15)])⟩])
 (.cond (.t 16)
 (.seq
 (.reg [zm 17 5,
   zm 4 17]) .ret) .skip))))
 (.reg [zd 18 .add 8 1,
   zm 8 18]))))
/-- slices.IndexFunc[[]limelight/layer.one,limelight/layer.one] -/
def af153 : AFunc := ⟨19, [(.tmp 4)],
 (.seq
 (.reg [zk 4 0])
 (.seq
 (.seq
 (.reg [zm 6 0,
   zs 7 6,
   zk 8 0])
 (.block 0
 (.loop af153_l0)))
 (.seq
 (.reg [⟨some 4, none, (.mv (.c (.int .i64 (-1))))⟩]) .ret)))⟩
theorem caf153 : cFunc Tryz.prog Tryz.f153 = some af153 := by kernel_rfl
/-- (*limelight/layer.Layers).Find$1 -/
def af154 : AFunc := ⟨22, [(.tmp 5)],
 (.seq
 (.reg [⟨some 4, none, (.box (.t 0))⟩,
   ⟨some 5, none, (.mv (.c (.bool false)))⟩])
 (.seq
 (.reg [zl 6 1,
   zm 7 6,
   ⟨(some 8), (some (7, true)), (.fieldAddr 0 3 (.t 4))⟩,
   ⟨(some 9), (some (7, true)), (.fieldAddr 1 1 (.t 8))⟩,
   ⟨(some 10), (some (7, true)), (.load1 (.t 9))⟩,
   ⟨(some 11), (some (7, true)), (.fieldAddr 4 1 (.t 2))⟩,
   ⟨(some 12), (some (7, true)), (.load1 (.t 11))⟩,
   ⟨(some 13), (some (7, true)), (.bin .eql .num (.t 10) (.t 12))⟩,
   ⟨some 14, none, (.pick (.t 7) (.t 13) (.c (.bool false)))⟩,
   zm 15 14,
   ⟨(some 16), (some (15, true)), (.fieldAddr 0 3 (.t 4))⟩,
   ⟨(some 17), (some (15, true)), (.fieldAddr 0 1 (.t 16))⟩,
   ⟨(some 18), (some (15, true)), (.load1 (.t 17))⟩,
   ⟨(some 19), (some (15, true)), (.load1 (.t 3))⟩,
   ⟨(some 20), (some (15, true)), (.call 155 [(.t 18), (.t 19)])⟩,
   ⟨some 21, none, (.pick (.t 15) (.t 20) (.c (.bool false)))⟩,
   zm 5 21]) .ret))⟩
theorem caf154 : cFunc Tryz.prog Tryz.f154 = some af154 := by kernel_rfl
/-- limelight/rid.Same -/
def af155 : AFunc := ⟨10, [(.tmp 4)],
 (.seq
 (.reg [⟨some 4, none, (.mv (.c (.bool false)))⟩])
 (.seq
 (.reg [zm 5 0,
   zc 6 206 [(.t 5)],
   zm 7 1,
   zc 8 206 [(.t 7)],
   ⟨some 9, none, (.bin .eql .str (.t 6) (.t 8))⟩,
   zm 4 9]) .ret))⟩
theorem caf155 : cFunc Tryz.prog Tryz.f155 = some af155 := by kernel_rfl
/-- (*limelight/seq.Seen).Add -/
def af156 : AFunc := ⟨109, [(.tmp 4), (.tmp 5)],
 (.seq
 (.reg [zk 4 0,
   ⟨some 5, none, (.mv (.c (.bool false)))⟩])
 (.seq
 (.reg [zm 7 0,
   zn 8 7,
   zf 9 1 1 8,
   zl 10 9,
   zm 11 1,
   zc 12 52 [(.t 10), (.t 11)],
   zm 6 12])
 (.seq
 (.block 0
 (.seq
 (.reg [zm 28 0,
   zn 29 28,
   zf 30 1 1 29,
   zl 31 30,
   zd 32 .lss 31 0,
   zm 27 32])
 (.cond (.t 27)
 (.reg [zm 33 0,
   zm 34 0,
   zm 35 0,
   zm 36 6,
   zm 37 6,
   zn 38 33,
   zf 39 0 1 38,
   ⟨none, none, (.store 1 (.t 39) (.t 36))⟩,
   zn 40 34,
   zf 41 1 1 40,
   ⟨none, none, (.store 1 (.t 41) (.t 37))⟩,
   zn 42 35,
   zf 43 3 1 42,
   ⟨none, none, (.store 1 (.t 43) (.c (.int .u64 1)))⟩])
 (.seq
 (.reg [zm 45 6,
   zm 46 0,
   zn 47 46,
   zf 48 1 1 47,
   zl 49 48,
   zb 50 .gtr 45 49,
   zm 44 50])
 (.cond (.t 44)
 (.seq
 (.dreg [zm 51 0,
   zm 52 0,
   zn 53 52,
   zf 54 3 1 53,
   zl 55 54,
   zm 56 6,
   zm 57 0,
   zn 58 57,
   zf 59 1 1 58,
   zl 60 59,
   zb 61 .sub 56 60,
   ⟨some 62, none, (.mn [(.t 61), (.c (.int .i64 64))])⟩,
   zb 63 .shl 55 62,
   ⟨some 64, none, (.bin .or .num (.t 63) (.c (.int .u64 1)))⟩,
   zn 65 51,
   zf 66 3 1 65,
   ⟨none, none, (.store 1 (.t 66) (.t 64))⟩] [])
 (.reg [zm 67 0,
   zm 68 6,
   zn 69 67,
   zf 70 1 1 69,
   ⟨none, none, (.store 1 (.t 70) (.t 68))⟩]))
 (.seq
 (.dreg [zm 72 0,
   zn 73 72,
   zf 74 1 1 73,
   zl 75 74,
   zm 76 6,
   zb 77 .sub 75 76,
   zd 78 .gtr 77 63,
   zm 79 78,
   ⟨(some 80), (some (79, false)), (.mv (.t 0))⟩,
   ⟨(some 81), (some (79, false)), (.nilCheck (.t 80))⟩,
   ⟨(some 82), (some (79, false)), (.fieldAddr 3 1 (.t 81))⟩,
   ⟨(some 83), (some (79, false)), (.load1 (.t 82))⟩,
   ⟨(some 84), (some (79, false)), (.mv (.t 0))⟩,
   ⟨(some 85), (some (79, false)), (.nilCheck (.t 84))⟩,
   ⟨(some 86), (some (79, false)), (.fieldAddr 1 1 (.t 85))⟩,
   ⟨(some 87), (some (79, false)), (.load1 (.t 86))⟩,
   ⟨(some 88), (some (79, false)), (.mv (.t 6))⟩,
   ⟨(some 89), (some (79, false)), (.bin .sub .num (.t 87) (.t 88))⟩,
   ⟨(some 90), (some (79, false)), (.bin .shr .num (.t 83) (.t 89))⟩,
   ⟨(some 91), (some (79, false)), (.bin .and .num (.t 90) (.c (.int .u64 1)))⟩,
   ⟨(some 92), (some (79, false)), (.bin .eql .num (.t 91) (.c (.int .u64 1)))⟩,
   ⟨some 93, none, (.pick (.t 79) (.c (.bool true)) (.t 92))⟩,
   zm 71 93] [])
 (.cond (.t 71)
 (.seq
 (.reg [zm 94 6,
   zm 4 94,
   ⟨some 5, none, (.mv (.c (.bool false)))⟩]) .ret)
 (.dreg [zm 13 0,
   zn 14 13,
   zf 15 3 1 14,
   zl 16 15,
   zm 17 0,
   zn 18 17,
   zf 19 1 1 18,
   zl 20 19,
   zm 21 6,
   zb 22 .sub 20 21,
   ⟨some 23, none, (.bin .shl .num (.c (.int .u64 1)) (.t 22))⟩,
   zb 24 .or 16 23,
   zn 25 13,
   zf 26 3 1 25,
   ⟨none, none, (.store 1 (.t 26) (.t 24))⟩] []))))))))
 (.seq
 (.seq
 (.reg [zm 95 6,
   zm 96 0,
   zn 97 96,
   zf 98 0 1 97,
   zl 99 98,
   zb 100 .geq 95 99])
 (.cond (.t 100)
 (.reg [zm 101 0,
   zn 102 101,
   zf 103 2 1 102,
   zl 104 103,
   zd 105 .add 104 1,
   zn 106 101,
   zf 107 2 1 106,
   ⟨none, none, (.store 1 (.t 107) (.t 105))⟩]) .skip))
 (.seq
 (.reg [zm 108 6,
   zm 4 108,
   ⟨some 5, none, (.mv (.c (.bool true)))⟩]) .ret)))))⟩
theorem caf156 : cFunc Tryz.prog Tryz.f156 = some af156 := by kernel_rfl
def af157_l0 : AC :=
 (.seq
 (.reg [zb 25 .lss 24 23])
 (.seq
 (.cond (.t 25) .skip (.exit 0))
 (.seq
 (.block 1
 (.seq
 (.reg [zm 26 24,
   zm 7 26])
 (.reg [zm 27 0,
   zm 28 6,
   zm 29 7,
   zb 30 .sub 28 29,
   zd 31 .rem 30 5,
   zn 32 27,
   zf 33 0 5 32,
   ⟨some 34, none, (.ixArr 5 1 (.t 33) (.t 31))⟩,
   ⟨none, none, (.store 1 (.t 34) (.c (.int .i64 0)))⟩])))
 (.reg [zd 35 .add 24 1,
   zm 24 35]))))
/-- (*limelight/meter.Meter).Add -/
def af157 : AFunc := ⟨64, [],
 (.seq
 (.seq
 (.reg [zm 8 1,
   zd 9 .lss 8 0])
 (.cond (.t 9) .ret .skip))
 (.seq
 (.dreg [zm 10 0,
   zn 11 10,
   zf 12 5 1 11,
   zl 13 12,
   zm 14 2,
   zc 15 207 [(.t 14)],
   ⟨some 16, none, (.mx [(.t 13), (.t 15)])⟩,
   zm 6 16] [(3, 6)])
 (.seq
 (.seq
 (.reg [zm 17 6,
   zm 18 0,
   zn 19 18,
   zf 20 5 1 19,
   zl 21 20,
   zb 22 .sub 17 21,
   ⟨some 23, none, (.mn [(.t 22), (.c (.int .i64 5))])⟩,
   zk 24 0])
 (.block 0
 (.loop af157_l0)))
 (.seq
 (.reg [zm 36 0,
   zm 37 6,
   zn 38 36,
   zf 39 5 1 38,
   ⟨none, none, (.store 1 (.t 39) (.t 37))⟩])
 (.seq
 (.dreg [zm 40 0,
   zm 41 6,
   zd 42 .rem 41 5,
   zm 43 0,
   zm 44 6,
   zd 45 .rem 44 5,
   zn 46 43,
   zf 47 0 5 46,
   ⟨some 48, none, (.ixArr 5 1 (.t 47) (.t 45))⟩,
   zl 49 48,
   zm 50 1,
   zc 51 54 [(.t 49), (.t 50)],
   zn 52 40,
   zf 53 0 5 52,
   ⟨some 54, none, (.ixArr 5 1 (.t 53) (.t 42))⟩,
   ⟨none, none, (.store 1 (.t 54) (.t 51))⟩] [])
 (.reg [zm 55 0,
   zm 56 0,
   zn 57 56,
   zf 58 6 1 57,
   zl 59 58,
   zm 60 1,
   zc 61 54 [(.t 59), (.t 60)],
   zn 62 55,
   zf 63 6 1 62,
   ⟨none, none, (.store 1 (.t 63) (.t 61))⟩]))))))⟩
theorem caf157 : cFunc Tryz.prog Tryz.f157 = some af157 := by kernel_rfl
/-- limelight/layer.until -/
def af158 : AFunc := ⟨9, [(.tmp 2)],
 (.seq
 (.reg [zk 2 0])
 (.seq
 (.seq
 (.reg [zm 3 0,
   zd 4 .lss 3 0])
 (.cond (.t 4)
 (.seq
 (.reg [zm 5 0,
   zd 6 .add 5 300000,
   zm 2 6]) .ret) .skip))
 (.seq
 (.reg [zm 7 0,
   zc 8 54 [(.t 7), (.c (.int .i64 300000))],
   zm 2 8]) .ret)))⟩
theorem caf158 : cFunc Tryz.prog Tryz.f158 = some af158 := by kernel_rfl
/-- (*limelight/write.Writer).Packet -/
def af159 : AFunc := ⟨127, [(.cellN 10 9), (.tmp 11)],
 (.seq
 (.reg [⟨some 9, none, (.box (.t 4))⟩,
   ⟨some 10, none, (.alloc [(.bool false), (.int .i64 0), (.int .u16 0), (.int .u32 0), (.int .u32 0), (.slice none 0 0 none), (.int .u16 0), (.slice none 0 0 none), (.slice none 0 0 none)])⟩,
   ⟨some 11, none, (.mv (.c (.bool false)))⟩])
 (.seq
 (.block 0
 (.seq
 (.reg [zm 18 1,
   zd 19 .lss 18 0,
   zm 20 19,
   ⟨(some 21), (some (20, false)), (.mv (.t 1))⟩,
   ⟨(some 22), (some (20, false)), (.mv (.t 0))⟩,
   ⟨(some 23), (some (20, false)), (.nilCheck (.t 22))⟩,
   ⟨(some 24), (some (20, false)), (.fieldAddr 2 1 (.t 23))⟩,
   ⟨(some 25), (some (20, false)), (.load1 (.t 24))⟩,
   ⟨(some 26), (some (20, false)), (.bin .neq .num (.t 21) (.t 25))⟩,
   ⟨some 27, none, (.pick (.t 20) (.c (.bool true)) (.t 26))⟩,
   zm 28 27,
   ⟨(some 29), (some (28, false)), (.mv (.t 2))⟩,
   ⟨(some 30), (some (28, false)), (.bin .lss .num (.t 29) (.c (.int .i64 0)))⟩,
   ⟨some 31, none, (.pick (.t 28) (.c (.bool true)) (.t 30))⟩,
   zm 17 31])
 (.cond (.t 17)
 (.seq
 (.reg [⟨some 32, none, (.build [(.bool false), (.int .i64 0), (.int .u16 0), (.int .u32 0), (.int .u32 0), (.slice none 0 0 none), (.int .u16 0), (.slice none 0 0 none), (.slice none 0 0 none)] [])⟩,
   ⟨none, none, (.store 9 (.t 10) (.t 32))⟩,
   ⟨some 11, none, (.mv (.c (.bool false)))⟩]) .ret)
 (.seq
 (.reg [zm 34 1,
   zm 35 0,
   zn 36 35,
   zf 37 1 1 36,
   zl 38 37,
   zb 39 .eql 34 38,
   zm 40 39,
   ⟨(some 41), (some (40, true)), (.mv (.t 2))⟩,
   ⟨(some 42), (some (40, true)), (.mv (.t 0))⟩,
   ⟨(some 43), (some (40, true)), (.nilCheck (.t 42))⟩,
   ⟨(some 44), (some (40, true)), (.fieldAddr 6 1 (.t 43))⟩,
   ⟨(some 45), (some (40, true)), (.load1 (.t 44))⟩,
   ⟨(some 46), (some (40, true)), (.bin .leq .num (.t 41) (.t 45))⟩,
   ⟨some 47, none, (.pick (.t 40) (.t 46) (.c (.bool false)))⟩,
   zm 33 47])
 (.cond (.t 33)
 (.seq
 (.reg [⟨some 48, none, (.build [(.bool false), (.int .i64 0), (.int .u16 0), (.int .u32 0), (.int .u32 0), (.slice none 0 0 none), (.int .u16 0), (.slice none 0 0 none), (.slice none 0 0 none)] [])⟩,
   ⟨none, none, (.store 9 (.t 10) (.t 48))⟩,
   ⟨some 11, none, (.mv (.c (.bool false)))⟩]) .ret)
 (.seq
 (.reg [zm 50 1,
   zm 51 0,
   zn 52 51,
   zf 53 1 1 52,
   zl 54 53,
   zb 55 .eql 50 54,
   zm 49 55])
 (.cond (.t 49)
 (.seq
 (.dreg [zm 56 0,
   zm 57 0,
   zm 58 0,
   zn 59 58,
   zf 60 4 1 59,
   zl 61 60,
   zm 62 2,
   zm 63 0,
   zn 64 63,
   zf 65 6 1 64,
   zl 66 65,
   zb 67 .sub 62 66,
   zc 68 54 [(.t 61), (.t 67)],
   zm 69 2,
   zn 70 56,
   zf 71 4 1 70,
   ⟨none, none, (.store 1 (.t 71) (.t 68))⟩,
   zn 72 57,
   zf 73 6 1 72,
   ⟨none, none, (.store 1 (.t 73) (.t 69))⟩] [])
 (.seq
 (.dreg [zm 74 0,
   zm 75 0,
   zn 76 75,
   zf 77 7 1 76,
   zl 78 77,
   zf 79 3 1 9,
   zl 80 79,
   zc 81 53 [(.t 78), (.t 80)],
   zn 82 74,
   zf 83 7 1 82,
   ⟨none, none, (.store 1 (.t 83) (.t 81))⟩] [])
 (.dreg [zm 84 0,
   zm 85 0,
   zn 86 85,
   zf 87 5 1 86,
   zl 88 87,
   zm 89 0,
   zn 90 89,
   zf 91 7 1 90,
   zl 92 91,
   zm 93 0,
   zn 94 93,
   zf 95 8 1 94,
   zl 96 95,
   zb 97 .add 92 96,
   ⟨some 98, none, (.mx [(.t 88), (.t 97)])⟩,
   zn 99 84,
   zf 100 5 1 99,
   ⟨none, none, (.store 1 (.t 100) (.t 98))⟩] [])))
 (.seq
 (.reg [zm 102 3,
   ⟨some 103, none, (.un .not (.t 102))⟩,
   zm 101 103])
 (.cond (.t 101)
 (.seq
 (.reg [⟨some 104, none, (.build [(.bool false), (.int .i64 0), (.int .u16 0), (.int .u32 0), (.int .u32 0), (.slice none 0 0 none), (.int .u16 0), (.slice none 0 0 none), (.slice none 0 0 none)] [])⟩,
   ⟨none, none, (.store 9 (.t 10) (.t 104))⟩,
   ⟨some 11, none, (.mv (.c (.bool false)))⟩]) .ret)
 (.reg [zm 12 0,
   zm 13 1,
   zm 14 2,
   ⟨some 15, none, (.loadN 9 (.t 9))⟩,
   zc 16 208 [(.t 12), (.t 13), (.t 14), (.t 15)]]))))))))))
 (.seq
 (.dreg [zf 105 0 1 9,
   zl 106 105,
   zf 107 1 1 9,
   zl 108 107,
   zm 109 0,
   zn 110 109,
   zf 111 4 1 110,
   zl 112 111,
   ⟨some 113, none, (.conv (.int .u16) (.t 112))⟩,
   zm 114 0,
   zn 115 114,
   zf 116 5 1 115,
   zl 117 116,
   ⟨some 118, none, (.conv (.int .u32) (.t 117))⟩,
   zm 119 0,
   zn 120 119,
   zf 121 0 1 120,
   zl 122 121,
   zf 123 8 1 9,
   zl 124 123,
   zc 125 99 [(.t 124)],
   ⟨some 126, none, (.build [(.bool false), (.int .i64 0), (.int .u16 0), (.int .u32 0), (.int .u32 0), (.slice none 0 0 none), (.int .u16 0), (.slice none 0 0 none), (.slice none 0 0 none)] [(0, (1, (.t 106))), (1, (1, (.t 108))), (2, (1, (.t 113))), (3, (1, (.t 118))), (4, (1, (.t 122))), (8, (1, (.t 125)))])⟩,
   ⟨none, none, (.store 9 (.t 10) (.t 126))⟩,
   ⟨some 11, none, (.mv (.c (.bool true)))⟩] [(1, 21), (3, 21), (7, 21), (12, 21), (17, 21)]) .ret)))⟩
theorem caf159 : cFunc Tryz.prog Tryz.f159 = some af159 := by kernel_rfl
/-- (*limelight/layer.Layers).Key -/
def af160 : AFunc := ⟨17, [(.tmp 4)],
 (.seq
 (.reg [⟨some 3, none, (.box (.t 1))⟩,
   ⟨some 4, none, (.mv (.c (.bool false)))⟩])
 (.seq
 (.reg [zf 5 8 1 3,
   zl 6 5,
   zs 7 6,
   zd 8 .gtr 7 0,
   zm 9 8,
   ⟨(some 10), (some (9, true)), (.fieldAddr 8 1 (.t 3))⟩,
   ⟨(some 11), (some (9, true)), (.load1 (.t 10))⟩,
   ⟨(some 12), (some (9, true)), (.ixSlice 1 (.t 11) (.c (.int .i64 0)))⟩,
   ⟨(some 13), (some (9, true)), (.load1 (.t 12))⟩,
   ⟨(some 14), (some (9, true)), (.bin .and .num (.t 13) (.c (.int .u8 1)))⟩,
   ⟨(some 15), (some (9, true)), (.bin .eql .num (.t 14) (.c (.int .u8 1)))⟩,
   ⟨some 16, none, (.pick (.t 9) (.t 15) (.c (.bool false)))⟩,
   zm 4 16]) .ret))⟩
theorem caf160 : cFunc Tryz.prog Tryz.f160 = some af160 := by kernel_rfl
/-- (*limelight/sfu.House).put -/
def af161 : AFunc := ⟨27, [(.tmp 6)],
 (.seq
 (.reg [⟨some 6, none, (.mv (.c (.bool false)))⟩])
 (.seq
 (.seq
 (.reg [zm 7 0,
   zm 8 1,
   zn 9 7,
   zf 10 1 6 9,
   ⟨some 11, none, (.ixArr 6 1 (.t 10) (.t 8))⟩,
   zl 12 11,
   zn 13 12,
   zf 14 1 1 13,
   zl 15 14,
   zm 16 2,
   zc 17 209 [(.t 15), (.t 16)]])
 (.cond (.t 17)
 (.seq
 (.reg [⟨some 6, none, (.mv (.c (.bool true)))⟩]) .ret) .skip))
 (.seq
 (.reg [zm 18 0,
   zn 19 18,
   zf 20 8 4 19,
   zf 21 2 1 20,
   zl 22 21,
   zd 23 .add 22 1,
   zn 24 18,
   zf 25 8 4 24,
   zf 26 2 1 25,
   ⟨none, none, (.store 1 (.t 26) (.t 23))⟩])
 (.seq
 (.reg [⟨some 6, none, (.mv (.c (.bool false)))⟩]) .ret))))⟩
theorem caf161 : cFunc Tryz.prog Tryz.f161 = some af161 := by kernel_rfl
/-- math/bits.Mul64 -/
def af163 : AFunc := ⟨51, [(.tmp 4), (.tmp 5)],
 (.seq
 (.reg [⟨some 4, none, (.mv (.c (.int .u64 0)))⟩,
   ⟨some 5, none, (.mv (.c (.int .u64 0)))⟩])
 (.seq
 (.reg [zm 14 0,
   ⟨some 15, none, (.bin .and .num (.t 14) (.c (.int .u64 4294967295)))⟩,
   zm 6 15])
 (.seq
 (.reg [zm 16 0,
   ⟨some 17, none, (.bin .shr .num (.t 16) (.c (.int .u64 32)))⟩,
   zm 7 17])
 (.seq
 (.reg [zm 18 1,
   ⟨some 19, none, (.bin .and .num (.t 18) (.c (.int .u64 4294967295)))⟩,
   zm 8 19])
 (.seq
 (.reg [zm 20 1,
   ⟨some 21, none, (.bin .shr .num (.t 20) (.c (.int .u64 32)))⟩,
   zm 9 21])
 (.seq
 (.reg [zm 22 6,
   zm 23 8,
   zb 24 .mul 22 23,
   zm 10 24])
 (.seq
 (.reg [zm 25 7,
   zm 26 8,
   zb 27 .mul 25 26,
   zm 28 10,
   ⟨some 29, none, (.bin .shr .num (.t 28) (.c (.int .u64 32)))⟩,
   zb 30 .add 27 29,
   zm 11 30])
 (.seq
 (.reg [zm 31 11,
   ⟨some 32, none, (.bin .and .num (.t 31) (.c (.int .u64 4294967295)))⟩,
   zm 12 32])
 (.seq
 (.reg [zm 33 11,
   ⟨some 34, none, (.bin .shr .num (.t 33) (.c (.int .u64 32)))⟩,
   zm 13 34])
 (.seq
 (.reg [zm 35 12,
   zm 36 6,
   zm 37 9,
   zb 38 .mul 36 37,
   zb 39 .add 35 38,
   zm 12 39])
 (.seq
 (.reg [zm 40 7,
   zm 41 9,
   zb 42 .mul 40 41,
   zm 43 13,
   zb 44 .add 42 43,
   zm 45 12,
   ⟨some 46, none, (.bin .shr .num (.t 45) (.c (.int .u64 32)))⟩,
   zb 47 .add 44 46,
   zm 4 47])
 (.seq
 (.reg [zm 48 0,
   zm 49 1,
   zb 50 .mul 48 49,
   zm 5 50]) .ret))))))))))))⟩
theorem caf163 : cFunc Tryz.prog Tryz.f163 = some af163 := by kernel_rfl
/-- slices.Clone[[]limelight/alarm.Due,limelight/alarm.Due] -/
def af164 : AFunc := ⟨8, [(.tmp 2)],
 (.seq
 (.reg [⟨some 2, none, (.mv (.c (.slice none 0 0 none)))⟩])
 (.seq
 (.seq
 (.reg [zm 3 0,
   ⟨some 4, none, (.bin .eql .slc (.t 3) (.c (.slice none 0 0 none)))⟩])
 (.cond (.t 4)
 (.seq
 (.reg [⟨some 2, none, (.mv (.c (.slice none 0 0 none)))⟩]) .ret) .skip))
 (.seq
 (.reg [⟨some 5, none, (.buildSlice 2 [(.int .i64 0), (.int .u64 0)] 0 [])⟩,
   zm 6 0,
   ⟨some 7, none, (.append 2 16 (.t 5) (.t 6))⟩,
   zm 2 7]) .ret)))⟩
theorem caf164 : cFunc Tryz.prog Tryz.f164 = some af164 := by kernel_rfl
/-- limelight/bucket.held -/
def af166 : AFunc := ⟨6, [(.tmp 2)],
 (.seq
 (.reg [zk 2 0])
 (.seq
 (.reg [zm 3 0,
   ⟨some 4, none, (.mn [(.t 3), (.c (.int .i64 1099511627776))])⟩,
   ⟨some 5, none, (.mx [(.c (.int .i64 0)), (.t 4)])⟩,
   zm 2 5]) .ret))⟩
theorem caf166 : cFunc Tryz.prog Tryz.f166 = some af166 := by kernel_rfl
def af167_l0 : AC :=
 (.seq
 (.reg [zb 34 .lss 33 32])
 (.seq
 (.cond (.t 34) .skip (.exit 0))
 (.seq
 (.block 1
 (.reg [zm 35 7,
   ⟨some 36, none, (.buildSlice 1 [(.int .i64 0)] 1 [(0, (1, (.c (.int .i64 (-1)))))])⟩,
   ⟨some 37, none, (.append 1 8 (.t 35) (.t 36))⟩,
   zm 7 37]))
 (.reg [zd 38 .add 33 1,
   zm 33 38]))))
/-- limelight/knap.Best -/
def af167 : AFunc := ⟨41, [(.tmp 4)],
 (.seq
 (.reg [⟨some 4, none, (.mv (.c (.slice none 0 0 none)))⟩])
 (.seq
 (.reg [zm 8 0,
   zs 9 8,
   ⟨some 10, none, (.mn [(.c (.int .i64 8)), (.t 9)])⟩,
   zm 5 10])
 (.seq
 (.seq
 (.reg [zm 11 5,
   zd 12 .eql 11 0])
 (.cond (.t 12)
 (.seq
 (.reg [⟨some 4, none, (.mv (.c (.slice none 0 0 none)))⟩]) .ret) .skip))
 (.seq
 (.dreg [zm 13 0,
   zm 14 5,
   ⟨some 15, none, (.cut 3 (.t 13) none (some (.t 14)) none)⟩,
   zm 16 5,
   ⟨some 17, none, (.mkSlice 1 8 [(.int .i64 0)] (.t 16) (.t 16))⟩,
   ⟨some 18, none, (.build [(.slice none 0 0 none), (.slice none 0 0 none), (.slice none 0 0 none), (.int .i64 0), (.int .i64 0), (.int .i64 0), (.int .i64 0), (.int .i64 0)] [(0, (1, (.t 15))), (1, (1, (.t 17)))])⟩,
   ⟨some 19, none, (.box (.t 18))⟩,
   zm 6 19] [])
 (.seq
 (.reg [zm 20 6,
   zm 21 1,
   ⟨some 22, none, (.mn [(.t 21), (.c (.int .i64 4096))])⟩,
   ⟨some 23, none, (.mx [(.c (.int .i64 0)), (.t 22)])⟩,
   zc 24 210 [(.t 20), (.c (.int .i64 0)), (.t 23)]])
 (.seq
 (.reg [zm 25 6,
   zn 26 25,
   zf 27 2 1 26,
   zl 28 27,
   zm 7 28])
 (.seq
 (.seq
 (.reg [zm 29 0,
   zs 30 29,
   zm 31 5,
   zb 32 .sub 30 31,
   zk 33 0])
 (.block 0
 (.loop af167_l0)))
 (.seq
 (.reg [zm 39 7,
   zc 40 74 [(.t 39)],
   zm 4 40]) .ret))))))))⟩
theorem caf167 : cFunc Tryz.prog Tryz.f167 = some af167 := by kernel_rfl
def af168_l0 : AC :=
 (.seq
 (.reg [zb 17 .lss 16 15])
 (.seq
 (.cond (.t 17) .skip (.exit 0))
 (.seq
 (.block 1
 (.seq
 (.reg [zm 18 16,
   za 19 1 14 16,
   zl 20 19,
   zm 7 18,
   zm 8 20])
 (.seq
 (.reg [zm 21 0,
   zm 22 7,
   za 23 3 21 22,
   ⟨some 24, none, (.loadN 3 (.t 23))⟩,
   zm 25 8,
   zc 26 211 [(.t 24), (.t 25)],
   ⟨some 27, none, (.un .not (.t 26))⟩])
 (.cond (.t 27)
 (.seq
 (.reg [⟨some 6, none, (.mv (.c (.bool false)))⟩]) .ret) .skip))))
 (.reg [zd 28 .add 16 1,
   zm 16 28]))))
/-- limelight/knap.Fits -/
def af168 : AFunc := ⟨34, [(.tmp 6)],
 (.seq
 (.reg [⟨some 6, none, (.mv (.c (.bool false)))⟩])
 (.seq
 (.seq
 (.reg [zm 9 0,
   zs 10 9,
   zm 11 1,
   zs 12 11,
   zb 13 .neq 10 12])
 (.cond (.t 13)
 (.seq
 (.reg [⟨some 6, none, (.mv (.c (.bool false)))⟩]) .ret) .skip))
 (.seq
 (.seq
 (.reg [zm 14 1,
   zs 15 14,
   zk 16 0])
 (.block 0
 (.loop af168_l0)))
 (.seq
 (.reg [zm 29 0,
   zm 30 1,
   zc 31 170 [(.t 29), (.t 30)],
   zm 32 2,
   zb 33 .leq 31 32,
   zm 6 33]) .ret))))⟩
theorem caf168 : cFunc Tryz.prog Tryz.f168 = some af168 := by kernel_rfl
def af169_l0 : AC :=
 (.seq
 (.reg [zb 14 .lss 13 12])
 (.seq
 (.cond (.t 14) .skip (.exit 0))
 (.seq
 (.block 1
 (.seq
 (.reg [zm 15 13,
   zm 5 15])
 (.seq
 (.dreg [zm 16 0,
   zm 17 5,
   za 18 1 16 17,
   zl 19 18,
   zm 20 1,
   zm 21 5,
   za 22 1 20 21,
   zl 23 22,
   zb 24 .neq 19 23] [])
 (.cond (.t 24)
 (.seq
 (.reg [⟨some 4, none, (.mv (.c (.bool false)))⟩]) .ret) .skip))))
 (.reg [zd 25 .add 13 1,
   zm 13 25]))))
/-- slices.Equal[[]int,int] -/
def af169 : AFunc := ⟨26, [(.tmp 4)],
 (.seq
 (.reg [⟨some 4, none, (.mv (.c (.bool false)))⟩])
 (.seq
 (.seq
 (.reg [zm 6 0,
   zs 7 6,
   zm 8 1,
   zs 9 8,
   zb 10 .neq 7 9])
 (.cond (.t 10)
 (.seq
 (.reg [⟨some 4, none, (.mv (.c (.bool false)))⟩]) .ret) .skip))
 (.seq
 (.seq
 (.reg [zm 11 0,
   zs 12 11,
   zk 13 0])
 (.block 0
 (.loop af169_l0)))
 (.seq
 (.reg [⟨some 4, none, (.mv (.c (.bool true)))⟩]) .ret))))⟩
theorem caf169 : cFunc Tryz.prog Tryz.f169 = some af169 := by kernel_rfl
def af170_l0 : AC :=
 (.seq
 (.reg [zb 17 .lss 16 15])
 (.seq
 (.cond (.t 17) .skip (.exit 0))
 (.seq
 (.block 1
 (.seq
 (.reg [zm 18 16,
   za 19 1 14 16,
   zl 20 19,
   zm 6 18,
   zm 7 20])
 (.seq
 (.reg [zm 21 0,
   zm 22 6,
   za 23 3 21 22,
   ⟨some 24, none, (.loadN 3 (.t 23))⟩,
   zm 25 7,
   zc 26 212 [(.t 24), (.t 25)]])
 (.cond (.t 26)
 (.reg [zm 27 5,
   zm 28 0,
   zm 29 6,
   za 30 3 28 29,
   zf 31 1 1 30,
   zl 32 31,
   zm 33 7,
   za 34 1 32 33,
   zl 35 34,
   zc 36 213 [(.t 27), (.t 35)],
   zm 5 36]) .skip))))
 (.reg [zd 37 .add 16 1,
   zm 16 37]))))
/-- limelight/knap.Cost -/
def af170 : AFunc := ⟨39, [(.tmp 4)],
 (.seq
 (.reg [zk 4 0])
 (.seq
 (.reg [zk 5 0])
 (.seq
 (.seq
 (.reg [zm 8 1,
   zm 9 1,
   zs 10 9,
   zm 11 0,
   zs 12 11,
   ⟨some 13, none, (.mn [(.t 10), (.t 12)])⟩,
   ⟨some 14, none, (.cut 1 (.t 8) none (some (.t 13)) none)⟩,
   zs 15 14,
   zk 16 0])
 (.block 0
 (.loop af170_l0)))
 (.seq
 (.reg [zm 38 5,
   zm 4 38]) .ret))))⟩
theorem caf170 : cFunc Tryz.prog Tryz.f170 = some af170 := by kernel_rfl
/-- limelight/alloc.Margin -/
def af171 : AFunc := ⟨6, [(.tmp 2)],
 (.seq
 (.reg [zk 2 0])
 (.seq
 (.reg [zm 3 0,
   ⟨some 4, none, (.mx [(.c (.int .i64 0)), (.t 3)])⟩,
   zd 5 .quo 4 8,
   zm 2 5]) .ret))⟩
theorem caf171 : cFunc Tryz.prog Tryz.f171 = some af171 := by kernel_rfl
/-- slices.Clone[[]int,int] -/
def af172 : AFunc := ⟨8, [(.tmp 2)],
 (.seq
 (.reg [⟨some 2, none, (.mv (.c (.slice none 0 0 none)))⟩])
 (.seq
 (.seq
 (.reg [zm 3 0,
   ⟨some 4, none, (.bin .eql .slc (.t 3) (.c (.slice none 0 0 none)))⟩])
 (.cond (.t 4)
 (.seq
 (.reg [⟨some 2, none, (.mv (.c (.slice none 0 0 none)))⟩]) .ret) .skip))
 (.seq
 (.reg [⟨some 5, none, (.buildSlice 1 [(.int .i64 0)] 0 [])⟩,
   zm 6 0,
   ⟨some 7, none, (.append 1 8 (.t 5) (.t 6))⟩,
   zm 2 7]) .ret)))⟩
theorem caf172 : cFunc Tryz.prog Tryz.f172 = some af172 := by kernel_rfl
def af173_l0 : AC :=
 (.seq
 (.reg [zb 22 .lss 21 20])
 (.seq
 (.cond (.t 22) .skip (.exit 0))
 (.seq
 (.block 1
 (.seq
 (.reg [zm 23 21,
   zm 12 23])
 (.seq
 (.reg [⟨some 13, none, (.mv (.c (.int .i64 (-1))))⟩])
 (.seq
 (.seq
 (.reg [zm 24 0,
   zm 25 12,
   zc 26 214 [(.t 24), (.t 25)],
   zm 27 1,
   zb 28 .leq 26 27,
   zm 29 28,
   ⟨(some 30), (some (29, true)), (.mv (.t 0))⟩,
   ⟨(some 31), (some (29, true)), (.mv (.t 12))⟩,
   ⟨(some 32), (some (29, true)), (.mv (.t 3))⟩,
   ⟨(some 33), (some (29, true)), (.call 215 [(.t 30), (.t 31), (.t 32)])⟩,
   ⟨(some 34), (some (29, true)), (.mv (.t 33))⟩,
   ⟨(some 35), (some (34, false)), (.mv (.t 4))⟩,
   ⟨(some 36), (some (34, false)), (.mv (.t 35))⟩,
   ⟨(some 37), (some (36, true)), (.mv (.t 0))⟩,
   ⟨(some 38), (some (36, true)), (.mv (.t 12))⟩,
   ⟨(some 39), (some (36, true)), (.call 76 [(.t 37), (.t 38)])⟩,
   ⟨(some 40), (some (36, true)), (.mv (.t 39))⟩,
   ⟨(some 41), (some (40, false)), (.mv (.t 0))⟩,
   ⟨(some 42), (some (40, false)), (.mv (.t 12))⟩,
   ⟨(some 43), (some (40, false)), (.call 216 [(.t 41), (.t 42)])⟩,
   ⟨(some 44), (some (36, true)), (.pick (.t 40) (.c (.bool true)) (.t 43))⟩,
   ⟨(some 45), (some (34, false)), (.pick (.t 36) (.t 44) (.c (.bool false)))⟩,
   ⟨(some 46), (some (29, true)), (.pick (.t 34) (.c (.bool true)) (.t 45))⟩,
   ⟨some 47, none, (.pick (.t 29) (.t 46) (.c (.bool false)))⟩])
 (.cond (.t 47)
 (.reg [zm 48 0,
   zm 49 12,
   zm 50 3,
   zc 51 177 [(.t 48), (.t 49), (.t 50)],
   zm 13 51]) .skip))
 (.seq
 (.reg [zf 52 1 1 11,
   zl 53 52,
   zm 54 13,
   ⟨some 55, none, (.buildSlice 1 [(.int .i64 0)] 1 [(0, (1, (.t 54)))])⟩,
   ⟨some 56, none, (.append 1 8 (.t 53) (.t 55))⟩,
   zf 57 1 1 11,
   ⟨none, none, (.store 1 (.t 57) (.t 56))⟩])
 (.dreg [zf 58 2 1 11,
   zl 59 58,
   zm 60 0,
   zm 61 12,
   zc 62 214 [(.t 60), (.t 61)],
   ⟨some 63, none, (.buildSlice 1 [(.int .i64 0)] 1 [(0, (1, (.t 62)))])⟩,
   ⟨some 64, none, (.append 1 8 (.t 59) (.t 63))⟩,
   zf 65 2 1 11,
   ⟨none, none, (.store 1 (.t 65) (.t 64))⟩] [(1, 5), (1, 6)]))))))
 (.reg [zd 66 .add 21 1,
   zm 21 66]))))
/-- limelight/alloc.Choice -/
def af173 : AFunc := ⟨68, [(.cellN 10 3)],
 (.seq
 (.reg [⟨some 10, none, (.alloc [(.int .i64 0), (.slice none 0 0 none), (.slice none 0 0 none)])⟩])
 (.seq
 (.seq
 (.reg [zm 14 0,
   ⟨some 15, none, (.bin .eql .ptr (.t 14) (.c (.ptr none)))⟩])
 (.cond (.t 15)
 (.seq
 (.reg [⟨some 16, none, (.build [(.int .i64 0), (.slice none 0 0 none), (.slice none 0 0 none)] [])⟩,
   ⟨none, none, (.store 3 (.t 10) (.t 16))⟩]) .ret) .skip))
 (.seq
 (.reg [zm 17 2,
   ⟨some 18, none, (.build [(.int .i64 0), (.slice none 0 0 none), (.slice none 0 0 none)] [(0, (1, (.t 17)))])⟩,
   ⟨some 11, none, (.alloc [(.int .i64 0), (.slice none 0 0 none), (.slice none 0 0 none)])⟩,
   ⟨none, none, (.store 3 (.t 11) (.t 18))⟩])
 (.seq
 (.seq
 (.reg [zm 19 0,
   zc 20 75 [(.t 19)],
   zk 21 0])
 (.block 0
 (.loop af173_l0)))
 (.seq
 (.reg [⟨some 67, none, (.loadN 3 (.t 11))⟩,
   ⟨none, none, (.store 3 (.t 10) (.t 67))⟩]) .ret)))))⟩
theorem caf173 : cFunc Tryz.prog Tryz.f173 = some af173 := by kernel_rfl
/-- limelight/alloc.Budget -/
def af174 : AFunc := ⟨7, [(.tmp 2)],
 (.seq
 (.reg [zk 2 0])
 (.seq
 (.reg [zm 3 0,
   zd 4 .quo 3 1000,
   ⟨some 5, none, (.mn [(.t 4), (.c (.int .i64 4096))])⟩,
   ⟨some 6, none, (.mx [(.c (.int .i64 0)), (.t 5)])⟩,
   zm 2 6]) .ret))⟩
theorem caf174 : cFunc Tryz.prog Tryz.f174 = some af174 := by kernel_rfl
def af175_l0 : AC :=
 (.seq
 (.reg [zb 12 .lss 11 10])
 (.seq
 (.cond (.t 12) .skip (.exit 0))
 (.seq
 (.block 1
 (.seq
 (.reg [za 13 10 9 11,
   ⟨some 14, none, (.loadN 10 (.t 13))⟩,
   ⟨some 5, none, (.alloc [(.str []), (.int .u32 0), (.int .i64 0), (.ptr none), (.ptr none), (.bool false), (.int .i64 0), (.bool false), (.bool false), (.int .i64 0)])⟩,
   ⟨none, none, (.store 10 (.t 5) (.t 14))⟩])
 (.reg [zm 15 3,
   zf 16 0 3 5,
   ⟨some 17, none, (.loadN 3 (.t 16))⟩,
   ⟨some 18, none, (.buildSlice 3 [(.str []), (.int .u32 0), (.int .i64 0)] 1 [(0, (3, (.t 17)))])⟩,
   ⟨some 19, none, (.append 3 32 (.t 15) (.t 18))⟩,
   zm 3 19])))
 (.reg [zd 20 .add 11 1,
   zm 11 20]))))
/-- (*limelight/layer.Layers).Table -/
def af175 : AFunc := ⟨23, [(.tmp 2)],
 (.seq
 (.reg [⟨some 2, none, (.mv (.c (.slice none 0 0 none)))⟩])
 (.seq
 (.reg [⟨some 3, none, (.mv (.c (.slice none 0 0 none)))⟩])
 (.seq
 (.seq
 (.reg [zm 6 0,
   zn 7 6,
   zf 8 0 1 7,
   zl 9 8,
   zs 10 9,
   zk 11 0])
 (.block 0
 (.loop af175_l0)))
 (.seq
 (.reg [zm 21 3,
   zc 22 64 [(.t 21)],
   zm 2 22]) .ret))))⟩
theorem caf175 : cFunc Tryz.prog Tryz.f175 = some af175 := by kernel_rfl
/-- (*limelight/watch.Watch).is -/
def af176 : AFunc := ⟨16, [(.tmp 4)],
 (.seq
 (.reg [⟨some 4, none, (.mv (.c (.bool false)))⟩])
 (.seq
 (.reg [zm 5 1,
   zd 6 .geq 5 0,
   zm 7 6,
   ⟨(some 8), (some (7, true)), (.mv (.t 1))⟩,
   ⟨(some 9), (some (7, true)), (.mv (.t 0))⟩,
   ⟨(some 10), (some (7, true)), (.nilCheck (.t 9))⟩,
   ⟨(some 11), (some (7, true)), (.fieldAddr 0 1 (.t 10))⟩,
   ⟨(some 12), (some (7, true)), (.load1 (.t 11))⟩,
   ⟨(some 13), (some (7, true)), (.len (.t 12))⟩,
   ⟨(some 14), (some (7, true)), (.bin .lss .num (.t 8) (.t 13))⟩,
   ⟨some 15, none, (.pick (.t 7) (.t 14) (.c (.bool false)))⟩,
   zm 4 15]) .ret))⟩
theorem caf176 : cFunc Tryz.prog Tryz.f176 = some af176 := by kernel_rfl
/-- (*limelight/layer.Layers).Cost -/
def af177 : AFunc := ⟨33, [(.tmp 6)],
 (.seq
 (.reg [zk 6 0])
 (.seq
 (.seq
 (.reg [zm 8 0,
   zm 9 1,
   zc 10 128 [(.t 8), (.t 9)],
   ⟨some 11, none, (.un .not (.t 10))⟩])
 (.cond (.t 11)
 (.seq
 (.reg [zk 6 0]) .ret) .skip))
 (.seq
 (.reg [zm 12 0,
   zn 13 12,
   zf 14 0 1 13,
   zl 15 14,
   zm 16 1,
   za 17 10 15 16,
   ⟨some 18, none, (.loadN 10 (.t 17))⟩,
   ⟨some 7, none, (.alloc [(.str []), (.int .u32 0), (.int .i64 0), (.ptr none), (.ptr none), (.bool false), (.int .i64 0), (.bool false), (.bool false), (.int .i64 0)])⟩,
   ⟨none, none, (.store 10 (.t 7) (.t 18))⟩])
 (.seq
 (.seq
 (.reg [zf 19 7 1 7,
   zl 20 19,
   zm 21 20,
   ⟨(some 22), (some (21, false)), (.fieldAddr 8 1 (.t 7))⟩,
   ⟨(some 23), (some (21, false)), (.load1 (.t 22))⟩,
   ⟨some 24, none, (.pick (.t 21) (.c (.bool true)) (.t 23))⟩])
 (.cond (.t 24)
 (.seq
 (.reg [zf 25 9 1 7,
   zl 26 25,
   zm 6 26]) .ret) .skip))
 (.seq
 (.reg [zf 27 4 1 7,
   zl 28 27,
   zm 29 2,
   zc 30 218 [(.t 28), (.t 29)],
   zc 31 217 [(.t 30), (.c (.int .i64 1000))],
   ⟨some 32, none, (.mx [(.c (.int .i64 1)), (.t 31)])⟩,
   zm 6 32]) .ret)))))⟩
theorem caf177 : cFunc Tryz.prog Tryz.f177 = some af177 := by kernel_rfl
/-- limelight/ctl.within -/
def af178 : AFunc := ⟨15, [(.tmp 6)],
 (.seq
 (.reg [⟨some 6, none, (.mv (.c (.bool false)))⟩])
 (.seq
 (.reg [zm 7 0,
   zm 8 1,
   zb 9 .geq 7 8,
   zm 10 9,
   ⟨(some 11), (some (10, true)), (.mv (.t 0))⟩,
   ⟨(some 12), (some (10, true)), (.mv (.t 2))⟩,
   ⟨(some 13), (some (10, true)), (.bin .leq .num (.t 11) (.t 12))⟩,
   ⟨some 14, none, (.pick (.t 10) (.t 13) (.c (.bool false)))⟩,
   zm 6 14]) .ret))⟩
theorem caf178 : cFunc Tryz.prog Tryz.f178 = some af178 := by kernel_rfl
def af179_l0 : AC :=
 (.seq
 (.reg [⟨some 8, none, (.next (.t 7))⟩,
   ze 9 0 8])
 (.seq
 (.cond (.t 9) .skip (.exit 0))
 (.block 1
 (.seq
 (.reg [ze 10 2 8,
   zm 5 10])
 (.seq
 (.reg [zm 11 3,
   zd 12 .add 11 1,
   zm 3 12])
 (.seq
 (.reg [zm 13 5,
   zc 14 219 [(.t 13)],
   ⟨some 15, none, (.un .not (.t 14))⟩])
 (.cond (.t 15)
 (.seq
 (.reg [⟨some 2, none, (.mv (.c (.bool false)))⟩]) .ret) .skip)))))))
/-- limelight/rid.Right -/
def af179 : AFunc := ⟨22, [(.tmp 2)],
 (.seq
 (.reg [⟨some 2, none, (.mv (.c (.bool false)))⟩])
 (.seq
 (.reg [zk 3 0])
 (.seq
 (.seq
 (.reg [zm 6 0,
   ⟨some 7, none, (.range (.t 6))⟩])
 (.block 0
 (.loop af179_l0)))
 (.seq
 (.reg [zm 16 3,
   zd 17 .geq 16 1,
   zm 18 17,
   ⟨(some 19), (some (18, true)), (.mv (.t 3))⟩,
   ⟨(some 20), (some (18, true)), (.bin .leq .num (.t 19) (.c (.int .i64 8)))⟩,
   ⟨some 21, none, (.pick (.t 18) (.t 20) (.c (.bool false)))⟩,
   zm 2 21]) .ret))))⟩
theorem caf179 : cFunc Tryz.prog Tryz.f179 = some af179 := by kernel_rfl
/-- slices.ContainsFunc[[]limelight/api.Layer,limelight/api.Layer] -/
def af180 : AFunc := ⟨9, [(.tmp 4)],
 (.seq
 (.reg [⟨some 4, none, (.mv (.c (.bool false)))⟩])
 (.seq
 (.reg [zm 5 0,
   zm 6 1,
   zc 7 220 [(.t 5), (.t 6)],
   zd 8 .geq 7 0,
   zm 4 8]) .ret))⟩
theorem caf180 : cFunc Tryz.prog Tryz.f180 = some af180 := by kernel_rfl
/-- limelight/ctl.Layers$1 -/
def af181 : AFunc := ⟨16, [(.tmp 3)],
 (.seq
 (.reg [⟨some 2, none, (.box (.t 0))⟩,
   ⟨some 3, none, (.mv (.c (.bool false)))⟩])
 (.seq
 (.reg [zf 4 1 1 2,
   zl 5 4,
   zf 6 1 1 1,
   zl 7 6,
   zb 8 .eql 5 7,
   zm 9 8,
   ⟨(some 10), (some (9, false)), (.fieldAddr 0 1 (.t 2))⟩,
   ⟨(some 11), (some (9, false)), (.load1 (.t 10))⟩,
   ⟨(some 12), (some (9, false)), (.fieldAddr 0 1 (.t 1))⟩,
   ⟨(some 13), (some (9, false)), (.load1 (.t 12))⟩,
   ⟨(some 14), (some (9, false)), (.call 155 [(.t 11), (.t 13)])⟩,
   ⟨some 15, none, (.pick (.t 9) (.c (.bool true)) (.t 14))⟩,
   zm 3 15]) .ret))⟩
theorem caf181 : cFunc Tryz.prog Tryz.f181 = some af181 := by kernel_rfl
def af184_l0 : AC :=
 (.seq
 (.seq
 (.reg [zm 15 9,
   zm 16 10,
   zb 17 .lss 15 16])
 (.cond (.t 17) .skip (.exit 0)))
 (.block 1
 (.seq
 (.reg [zm 18 9,
   zm 19 10,
   zb 20 .add 18 19,
   ⟨some 21, none, (.conv (.int .u64) (.t 20))⟩,
   ⟨some 22, none, (.bin .shr .num (.t 21) (.c (.int .u64 1)))⟩,
   ⟨some 23, none, (.conv (.int .i64) (.t 22))⟩,
   zm 11 23])
 (.seq
 (.reg [zm 24 2,
   zm 25 0,
   zm 26 11,
   za 27 3 25 26,
   ⟨some 28, none, (.loadN 3 (.t 27))⟩,
   zm 29 1,
   ⟨some 30, none, (.callV (.t 24) [(.t 28), (.t 29)])⟩,
   zd 31 .lss 30 0])
 (.cond (.t 31)
 (.reg [zm 32 11,
   zd 33 .add 32 1,
   zm 9 33])
 (.reg [zm 34 11,
   zm 10 34]))))))
/-- slices.BinarySearchFunc[[]limelight/room.Sub,limelight/room.Sub,int] -/
def af184 : AFunc := ⟨49, [(.tmp 6), (.tmp 7)],
 (.seq
 (.reg [zk 6 0,
   ⟨some 7, none, (.mv (.c (.bool false)))⟩])
 (.seq
 (.reg [zm 12 0,
   zs 13 12,
   zm 8 13])
 (.seq
 (.reg [zm 14 8,
   zk 9 0,
   zm 10 14])
 (.seq
 (.block 0
 (.loop af184_l0))
 (.seq
 (.reg [zm 35 9,
   zm 36 9,
   zm 37 8,
   zb 38 .lss 36 37,
   zm 39 38,
   ⟨(some 40), (some (39, true)), (.mv (.t 2))⟩,
   ⟨(some 41), (some (39, true)), (.mv (.t 0))⟩,
   ⟨(some 42), (some (39, true)), (.mv (.t 9))⟩,
   ⟨(some 43), (some (39, true)), (.ixSlice 3 (.t 41) (.t 42))⟩,
   ⟨(some 44), (some (39, true)), (.loadN 3 (.t 43))⟩,
   ⟨(some 45), (some (39, true)), (.mv (.t 1))⟩,
   ⟨(some 46), (some (39, true)), (.callV (.t 40) [(.t 44), (.t 45)])⟩,
   ⟨(some 47), (some (39, true)), (.bin .eql .num (.t 46) (.c (.int .i64 0)))⟩,
   ⟨some 48, none, (.pick (.t 39) (.t 47) (.c (.bool false)))⟩,
   zm 6 35,
   zm 7 48]) .ret)))))⟩
theorem caf184 : cFunc Tryz.prog Tryz.f184 = some af184 := by kernel_rfl
/-- (*limelight/room.Room).sub$1 -/
def af185 : AFunc := ⟨9, [(.tmp 4)],
 (.seq
 (.reg [⟨some 2, none, (.box (.t 0))⟩,
   zk 4 0])
 (.seq
 (.reg [zf 5 0 1 2,
   zl 6 5,
   zm 7 1,
   zc 8 186 [(.t 6), (.t 7)],
   zm 4 8]) .ret))⟩
theorem caf185 : cFunc Tryz.prog Tryz.f185 = some af185 := by kernel_rfl
/-- cmp.Compare[int] -/
def af186 : AFunc := ⟨20, [(.tmp 4)],
 (.seq
 (.reg [zk 4 0])
 (.seq
 (.reg [zm 7 0,
   zc 8 222 [(.t 7)],
   zm 5 8])
 (.seq
 (.reg [zm 9 1,
   zc 10 222 [(.t 9)],
   zm 6 10])
 (.seq
 (.seq
 (.reg [zm 11 5])
 (.cond (.t 11)
 (.seq
 (.seq
 (.reg [zm 12 6])
 (.cond (.t 12)
 (.seq
 (.reg [zk 4 0]) .ret) .skip))
 (.seq
 (.reg [⟨some 4, none, (.mv (.c (.int .i64 (-1))))⟩]) .ret)) .skip))
 (.seq
 (.seq
 (.reg [zm 13 6])
 (.cond (.t 13)
 (.seq
 (.reg [zk 4 1]) .ret) .skip))
 (.seq
 (.seq
 (.reg [zm 14 0,
   zm 15 1,
   zb 16 .lss 14 15])
 (.cond (.t 16)
 (.seq
 (.reg [⟨some 4, none, (.mv (.c (.int .i64 (-1))))⟩]) .ret) .skip))
 (.seq
 (.seq
 (.reg [zm 17 0,
   zm 18 1,
   zb 19 .gtr 17 18])
 (.cond (.t 19)
 (.seq
 (.reg [zk 4 1]) .ret) .skip))
 (.seq
 (.reg [zk 4 0]) .ret))))))))⟩
theorem caf186 : cFunc Tryz.prog Tryz.f186 = some af186 := by kernel_rfl
/-- slices.Insert[[]limelight/room.Sub,limelight/room.Sub] -/
def af187 : AFunc := ⟨95, [(.tmp 6)],
 (.seq
 (.reg [⟨some 6, none, (.mv (.c (.slice none 0 0 none)))⟩])
 (.seq
 (.reg [zm 10 0,
   zm 11 1,
   ⟨some 12, none, (.cut 3 (.t 10) (some (.t 11)) none none)⟩])
 (.seq
 (.reg [zm 13 2,
   zs 14 13,
   zm 7 14])
 (.seq
 (.seq
 (.reg [zm 15 7,
   zd 16 .eql 15 0])
 (.cond (.t 16)
 (.seq
 (.reg [zm 17 0,
   zm 6 17]) .ret) .skip))
 (.seq
 (.reg [zm 18 0,
   zs 19 18,
   zm 8 19])
 (.seq
 (.seq
 (.reg [zm 20 1,
   zm 21 8,
   zb 22 .eql 20 21])
 (.cond (.t 22)
 (.seq
 (.reg [zm 23 0,
   zm 24 2,
   ⟨some 25, none, (.append 3 24 (.t 23) (.t 24))⟩,
   zm 6 25]) .ret) .skip))
 (.seq
 (.seq
 (.reg [zm 26 8,
   zm 27 7,
   zb 28 .add 26 27,
   zm 29 0,
   ⟨some 30, none, (.cap (.t 29))⟩,
   zb 31 .gtr 28 30])
 (.cond (.t 31)
 (.seq
 (.reg [zm 32 0,
   zm 33 1,
   ⟨some 34, none, (.cut 3 (.t 32) none (some (.t 33)) none)⟩,
   zm 35 8,
   zm 36 7,
   zb 37 .add 35 36,
   zm 38 1,
   zb 39 .sub 37 38,
   ⟨some 40, none, (.appendZ 3 24 [(.int .i64 0), (.int .i64 0), (.int .i64 0)] (.t 34) (.t 39))⟩,
   zm 9 40])
 (.seq
 (.reg [zm 41 9,
   zm 42 1,
   ⟨some 43, none, (.cut 3 (.t 41) (some (.t 42)) none none)⟩,
   zm 44 2,
   ⟨some 45, none, (.copy 3 (.t 43) (.t 44))⟩])
 (.seq
 (.dreg [zm 46 9,
   zm 47 1,
   zm 48 7,
   zb 49 .add 47 48,
   ⟨some 50, none, (.cut 3 (.t 46) (some (.t 49)) none none)⟩,
   zm 51 0,
   zm 52 1,
   ⟨some 53, none, (.cut 3 (.t 51) (some (.t 52)) none none)⟩,
   ⟨some 54, none, (.copy 3 (.t 50) (.t 53))⟩] [])
 (.seq
 (.reg [zm 55 9,
   zm 6 55]) .ret)))) .skip))
 (.seq
 (.reg [zm 56 0,
   zm 57 8,
   zm 58 7,
   zb 59 .add 57 58,
   ⟨some 60, none, (.cut 3 (.t 56) none (some (.t 59)) none)⟩,
   zm 0 60])
 (.seq
 (.seq
 (.reg [zm 61 2,
   zm 62 0,
   zm 63 1,
   zm 64 7,
   zb 65 .add 63 64,
   ⟨some 66, none, (.cut 3 (.t 62) (some (.t 65)) none none)⟩,
   zc 67 223 [(.t 61), (.t 66)],
   ⟨some 68, none, (.un .not (.t 67))⟩])
 (.cond (.t 68)
 (.seq
 (.dreg [zm 69 0,
   zm 70 1,
   zm 71 7,
   zb 72 .add 70 71,
   ⟨some 73, none, (.cut 3 (.t 69) (some (.t 72)) none none)⟩,
   zm 74 0,
   zm 75 1,
   ⟨some 76, none, (.cut 3 (.t 74) (some (.t 75)) none none)⟩,
   ⟨some 77, none, (.copy 3 (.t 73) (.t 76))⟩] [])
 (.seq
 (.reg [zm 78 0,
   zm 79 1,
   ⟨some 80, none, (.cut 3 (.t 78) (some (.t 79)) none none)⟩,
   zm 81 2,
   ⟨some 82, none, (.copy 3 (.t 80) (.t 81))⟩])
 (.seq
 (.reg [zm 83 0,
   zm 6 83]) .ret))) .skip))
 (.seq
 (.reg [zm 84 0,
   zm 85 8,
   ⟨some 86, none, (.cut 3 (.t 84) (some (.t 85)) none none)⟩,
   zm 87 2,
   ⟨some 88, none, (.copy 3 (.t 86) (.t 87))⟩])
 (.seq
 (.reg [zm 89 0,
   zm 90 1,
   ⟨some 91, none, (.cut 3 (.t 89) (some (.t 90)) none none)⟩,
   zm 92 7,
   zc 93 224 [(.t 91), (.t 92)]])
 (.seq
 (.reg [zm 94 0,
   zm 6 94]) .ret))))))))))))⟩
theorem caf187 : cFunc Tryz.prog Tryz.f187 = some af187 := by kernel_rfl
/-- limelight/seq.New -/
def af189 : AFunc := ⟨3, [(.tmp 0)],
 (.seq
 (.reg [⟨some 0, none, (.mv (.c (.ptr none)))⟩])
 (.seq
 (.reg [⟨some 1, none, (.build [(.int .i64 0), (.int .i64 0), (.int .i64 0), (.int .u64 0)] [(0, (1, (.c (.int .i64 (-1))))), (1, (1, (.c (.int .i64 (-1)))))])⟩,
   ⟨some 2, none, (.box (.t 1))⟩,
   zm 0 2]) .ret))⟩
theorem caf189 : cFunc Tryz.prog Tryz.f189 = some af189 := by kernel_rfl
/-- limelight/meter.New -/
def af190 : AFunc := ⟨3, [(.tmp 0)],
 (.seq
 (.reg [⟨some 0, none, (.mv (.c (.ptr none)))⟩])
 (.seq
 (.reg [⟨some 1, none, (.build [(.int .i64 0), (.int .i64 0), (.int .i64 0), (.int .i64 0), (.int .i64 0), (.int .i64 0), (.int .i64 0)] [])⟩,
   ⟨some 2, none, (.box (.t 1))⟩,
   zm 0 2]) .ret))⟩
theorem caf190 : cFunc Tryz.prog Tryz.f190 = some af190 := by kernel_rfl
def af191_l0 : AC :=
 (.block 1
 (.seq
 (.reg [zm 21 2,
   zm 22 1,
   zb 23 .sub 21 22,
   zm 12 23])
 (.seq
 (.seq
 (.reg [zm 24 12,
   zd 25 .leq 24 12])
 (.cond (.t 25)
 (.seq
 (.reg [zm 26 0,
   zm 27 1,
   zm 28 2,
   zm 29 4,
   zc 30 225 [(.t 26), (.t 27), (.t 28), (.t 29)]]) .ret) .skip))
 (.seq
 (.seq
 (.reg [zm 31 3,
   zd 32 .eql 31 0])
 (.cond (.t 32)
 (.seq
 (.reg [zm 33 0,
   zm 34 1,
   zm 35 2,
   zm 36 4,
   zc 37 226 [(.t 33), (.t 34), (.t 35), (.t 36)]]) .ret) .skip))
 (.seq
 (.seq
 (.reg [zm 38 10,
   ⟨some 39, none, (.un .not (.t 38))⟩])
 (.cond (.t 39)
 (.seq
 (.reg [zm 40 0,
   zm 41 1,
   zm 42 2,
   zm 43 4,
   zc 44 227 [(.t 40), (.t 41), (.t 42), (.t 43)]])
 (.reg [zm 45 3,
   zd 46 .sub 45 1,
   zm 3 46])) .skip))
 (.seq
 (.reg [zm 48 0,
   zm 49 1,
   zm 50 2,
   zm 51 4,
   zc 52 228 [(.t 48), (.t 49), (.t 50), (.t 51)],
   zm 47 52,
   ze 53 0 47,
   ze 54 1 47,
   zm 13 53,
   zm 14 54])
 (.seq
 (.seq
 (.reg [zm 55 14,
   zd 56 .eql 55 2])
 (.cond (.t 56)
 (.seq
 (.reg [zm 57 0,
   zm 58 1,
   zm 59 2,
   zm 60 4,
   zc 61 229 [(.t 57), (.t 58), (.t 59), (.t 60)]])
 (.seq
 (.reg [zm 62 2,
   zd 63 .sub 62 1,
   zm 64 13,
   zm 65 1,
   zb 66 .sub 64 65,
   zb 67 .sub 63 66,
   zm 13 67])
 (.reg [zk 14 1]))) .skip))
 (.seq
 (.seq
 (.reg [zm 68 10,
   zm 69 68,
   ⟨(some 70), (some (69, true)), (.mv (.t 11))⟩,
   ⟨some 71, none, (.pick (.t 69) (.t 70) (.c (.bool false)))⟩,
   zm 72 71,
   ⟨(some 73), (some (72, true)), (.mv (.t 14))⟩,
   ⟨(some 74), (some (72, true)), (.bin .eql .num (.t 73) (.c (.int .i64 1)))⟩,
   ⟨some 75, none, (.pick (.t 72) (.t 74) (.c (.bool false)))⟩])
 (.cond (.t 75)
 (.seq
 (.reg [zm 76 0,
   zm 77 1,
   zm 78 2,
   zm 79 4,
   zc 80 230 [(.t 76), (.t 77), (.t 78), (.t 79)]])
 (.cond (.t 80) .ret .skip)) .skip))
 (.seq
 (.seq
 (.dreg [zm 81 1,
   zd 82 .gtr 81 0,
   zm 83 82,
   ⟨(some 84), (some (83, true)), (.mv (.t 4))⟩,
   ⟨(some 85), (some (83, true)), (.mv (.t 0))⟩,
   ⟨(some 86), (some (83, true)), (.mv (.t 1))⟩,
   ⟨(some 87), (some (83, true)), (.bin .sub .num (.t 86) (.c (.int .i64 1)))⟩,
   ⟨(some 88), (some (83, true)), (.ixSlice 1 (.t 85) (.t 87))⟩,
   ⟨(some 89), (some (83, true)), (.load1 (.t 88))⟩,
   ⟨(some 90), (some (83, true)), (.mv (.t 0))⟩,
   ⟨(some 91), (some (83, true)), (.mv (.t 13))⟩,
   ⟨(some 92), (some (83, true)), (.ixSlice 1 (.t 90) (.t 91))⟩,
   ⟨(some 93), (some (83, true)), (.load1 (.t 92))⟩,
   ⟨(some 94), (some (83, true)), (.callV (.t 84) [(.t 89), (.t 93)])⟩,
   ⟨(some 95), (some (83, true)), (.bin .lss .num (.t 94) (.c (.int .i64 0)))⟩,
   ⟨(some 96), (some (83, true)), (.un .not (.t 95))⟩,
   ⟨some 97, none, (.pick (.t 83) (.t 96) (.c (.bool false)))⟩] [])
 (.cond (.t 97)
 (.seq
 (.reg [zm 98 0,
   zm 99 1,
   zm 100 2,
   zm 101 13,
   zm 102 4,
   zc 103 231 [(.t 98), (.t 99), (.t 100), (.t 101), (.t 102)],
   zm 15 103])
 (.seq
 (.reg [zm 104 15,
   zm 1 104]) (.exit 1))) .skip))
 (.seq
 (.reg [zm 106 0,
   zm 107 1,
   zm 108 2,
   zm 109 13,
   zm 110 4,
   zc 111 232 [(.t 106), (.t 107), (.t 108), (.t 109), (.t 110)],
   zm 105 111,
   ze 112 0 105,
   ze 113 1 105,
   zm 16 112,
   zm 17 113])
 (.seq
 (.reg [zm 114 17,
   zm 11 114])
 (.seq
 (.reg [zm 115 16,
   zm 116 1,
   zb 117 .sub 115 116,
   zm 118 2,
   zm 119 16,
   zb 120 .sub 118 119,
   zm 18 117,
   zm 19 120])
 (.seq
 (.reg [zm 121 12,
   zd 122 .quo 121 8,
   zm 20 122])
 (.seq
 (.reg [zm 123 18,
   zm 124 19,
   zb 125 .lss 123 124])
 (.cond (.t 125)
 (.seq
 (.reg [zm 126 18,
   zm 127 20,
   zb 128 .geq 126 127,
   zm 10 128])
 (.seq
 (.reg [zm 129 0,
   zm 130 1,
   zm 131 16,
   zm 132 3,
   zm 133 4,
   zc 134 191 [(.t 129), (.t 130), (.t 131), (.t 132), (.t 133)]])
 (.reg [zm 135 16,
   zd 136 .add 135 1,
   zm 1 136])))
 (.seq
 (.reg [zm 137 19,
   zm 138 20,
   zb 139 .geq 137 138,
   zm 10 139])
 (.seq
 (.reg [zm 140 0,
   zm 141 16,
   zd 142 .add 141 1,
   zm 143 2,
   zm 144 3,
   zm 145 4,
   zc 146 191 [(.t 140), (.t 142), (.t 143), (.t 144), (.t 145)]])
 (.reg [zm 147 16,
   zm 2 147]))))))))))))))))))
/-- slices.pdqsortCmpFunc[*limelight/sfu.sub] -/
def af191 : AFunc := ⟨148, [],
 (.seq
 (.reg [⟨some 10, none, (.mv (.c (.bool true)))⟩])
 (.seq
 (.reg [⟨some 11, none, (.mv (.c (.bool true)))⟩])
 (.block 0
 (.loop af191_l0))))⟩
theorem caf191 : cFunc Tryz.prog Tryz.f191 = some af191 := by kernel_rfl
/-- math/bits.Len -/
def af192 : AFunc := ⟨8, [(.tmp 2)],
 (.seq
 (.reg [zk 2 0])
 (.seq
 (.cond (.c (.bool false))
 (.seq
 (.reg [zm 3 0,
   ⟨some 4, none, (.conv (.int .u32) (.t 3))⟩,
   zc 5 233 [(.t 4)],
   zm 2 5]) .ret) .skip)
 (.seq
 (.reg [zm 6 0,
   zc 7 234 [(.t 6)],
   zm 2 7]) .ret)))⟩
theorem caf192 : cFunc Tryz.prog Tryz.f192 = some af192 := by kernel_rfl
def af201_l0 : AC :=
 (.seq
 (.reg [zb 31 .lss 30 29])
 (.seq
 (.cond (.t 31) .skip (.exit 2))
 (.seq
 (.block 3
 (.seq
 (.reg [za 32 10 28 30,
   ⟨some 33, none, (.loadN 10 (.t 32))⟩,
   ⟨some 9, none, (.alloc [(.int .i64 0), (.int .u32 0), (.int .u32 0), (.slice none 0 0 none), (.slice none 0 0 none), (.slice none 0 0 none), (.int .u64 0), (.int .i64 0), (.int .i64 0), (.slice none 0 0 none)])⟩,
   ⟨none, none, (.store 10 (.t 9) (.t 33))⟩])
 (.seq
 (.reg [⟨some 35, none, (.loadN 10 (.t 9))⟩,
   zc 36 251 [(.t 35)],
   zm 34 36,
   ze 37 0 34,
   ze 38 1 34,
   ze 39 2 34,
   zm 10 37,
   zm 11 38,
   zm 12 39])
 (.seq
 (.reg [zm 40 4,
   zm 41 12,
   ⟨some 42, none, (.bin .or .num (.c (.int .i64 128)) (.t 41))⟩,
   ⟨some 43, none, (.conv (.int .u8) (.t 42))⟩,
   zm 44 11,
   ⟨some 45, none, (.conv (.int .u8) (.t 44))⟩,
   ⟨some 46, none, (.buildSlice 1 [(.int .u8 0)] 2 [(0, (1, (.t 43))), (1, (1, (.t 45)))])⟩,
   ⟨some 47, none, (.append 1 1 (.t 40) (.t 46))⟩,
   zm 4 47])
 (.seq
 (.reg [zm 48 4,
   zm 49 10,
   zs 50 49,
   zd 51 .quo 50 4,
   ⟨some 52, none, (.conv (.int .u64) (.t 51))⟩,
   zc 53 58 [(.t 48), (.t 52), (.c (.int .i64 2))],
   zm 54 10,
   ⟨some 55, none, (.append 1 1 (.t 53) (.t 54))⟩,
   zm 4 55])
 (.seq
 (.reg [zm 56 4,
   zs 57 56,
   zd 58 .gtr 57 1500])
 (.cond (.t 58)
 (.seq
 (.reg [⟨some 2, none, (.mv (.c (.slice none 0 0 none)))⟩,
   zk 3 3]) .ret) .skip)))))))
 (.reg [zd 59 .add 30 1,
   zm 30 59]))))
def af201_l1 : AC :=
 (.seq
 (.reg [zb 19 .lss 18 17])
 (.seq
 (.cond (.t 19) .skip (.exit 0))
 (.seq
 (.block 1
 (.seq
 (.reg [za 20 10 16 18,
   ⟨some 21, none, (.loadN 10 (.t 20))⟩,
   ⟨some 6, none, (.alloc [(.int .i64 0), (.int .u32 0), (.int .u32 0), (.slice none 0 0 none), (.slice none 0 0 none), (.slice none 0 0 none), (.int .u64 0), (.int .i64 0), (.int .i64 0), (.slice none 0 0 none)])⟩,
   ⟨none, none, (.store 10 (.t 6) (.t 21))⟩])
 (.seq
 (.reg [⟨some 22, none, (.loadN 10 (.t 6))⟩,
   zc 23 250 [(.t 22)],
   zm 7 23])
 (.seq
 (.reg [zm 24 7,
   zd 25 .neq 24 0])
 (.cond (.t 25)
 (.seq
 (.reg [zm 26 7,
   ⟨some 2, none, (.mv (.c (.slice none 0 0 none)))⟩,
   zm 3 26]) .ret) .skip)))))
 (.reg [zd 27 .add 18 1,
   zm 18 27]))))
/-- limelight/rtcp.Bytes -/
def af201 : AFunc := ⟨62, [(.tmp 2), (.tmp 3)],
 (.seq
 (.reg [⟨some 2, none, (.mv (.c (.slice none 0 0 none)))⟩,
   zk 3 0])
 (.seq
 (.seq
 (.reg [zm 13 0,
   zs 14 13,
   zd 15 .eql 14 0])
 (.cond (.t 15)
 (.seq
 (.reg [⟨some 2, none, (.mv (.c (.slice none 0 0 none)))⟩,
   zk 3 1]) .ret) .skip))
 (.seq
 (.reg [⟨some 4, none, (.mv (.c (.slice none 0 0 none)))⟩])
 (.seq
 (.seq
 (.reg [zm 16 0,
   zs 17 16,
   zk 18 0])
 (.block 0
 (.loop af201_l1)))
 (.seq
 (.seq
 (.reg [zm 28 0,
   zs 29 28,
   zk 30 0])
 (.block 2
 (.loop af201_l0)))
 (.seq
 (.reg [zm 60 4,
   zc 61 100 [(.t 60)],
   zm 2 61,
   zk 3 0]) .ret))))))⟩
theorem caf201 : cFunc Tryz.prog Tryz.f201 = some af201 := by kernel_rfl
def af204_l0 : AC :=
 (.seq
 (.seq
 (.reg [zm 20 7,
   zm 21 1,
   zs 22 21,
   zb 23 .lss 20 22])
 (.cond (.t 23) .skip (.exit 0)))
 (.block 1
 (.seq
 (.seq
 (.reg [zm 24 1,
   zm 25 7,
   za 26 1 24 25,
   zl 27 26,
   ⟨some 28, none, (.bin .eql .num (.t 27) (.c (.int .u8 0)))⟩])
 (.cond (.t 28)
 (.seq
 (.reg [zm 29 7,
   zd 30 .add 29 1,
   zm 7 30]) (.exit 1)) .skip))
 (.seq
 (.reg [zm 32 0,
   zm 33 1,
   zm 34 7,
   zc 35 258 [(.t 32), (.t 33), (.t 34)],
   zm 31 35,
   ze 36 0 31,
   ze 37 1 31,
   ze 38 2 31,
   ze 39 3 31,
   zm 8 36,
   zm 9 37,
   zm 10 38,
   zm 11 39])
 (.seq
 (.seq
 (.reg [zm 40 11,
   ⟨some 41, none, (.un .not (.t 40))⟩])
 (.cond (.t 41) (.exit 0) .skip))
 (.seq
 (.reg [zm 43 1,
   zm 44 10,
   zm 45 9,
   zc 46 105 [(.t 43), (.t 44), (.t 45)],
   zm 42 46,
   ze 47 0 42,
   ze 48 1 42,
   zm 12 47,
   zm 13 48])
 (.seq
 (.seq
 (.reg [zm 49 13,
   ⟨some 50, none, (.un .not (.t 49))⟩])
 (.cond (.t 50)
 (.seq
 (.reg [⟨some 4, none, (.mv (.c (.slice none 0 0 none)))⟩,
   zk 5 13]) .ret) .skip))
 (.seq
 (.reg [zm 51 6,
   zm 52 8,
   zm 53 12,
   ⟨some 54, none, (.build [(.int .i64 0), (.slice none 0 0 none)] [(0, (1, (.t 52))), (1, (1, (.t 53)))])⟩,
   ⟨some 55, none, (.buildSlice 2 [(.int .i64 0), (.slice none 0 0 none)] 1 [(0, (2, (.t 54)))])⟩,
   ⟨some 56, none, (.append 2 32 (.t 51) (.t 55))⟩,
   zm 6 56])
 (.reg [zm 57 10,
   zm 58 9,
   zb 59 .add 57 58,
   zm 7 59])))))))))
/-- limelight/ext.Read -/
def af204 : AFunc := ⟨65, [(.tmp 4), (.tmp 5)],
 (.seq
 (.reg [⟨some 4, none, (.mv (.c (.slice none 0 0 none)))⟩,
   zk 5 0])
 (.seq
 (.seq
 (.reg [zm 14 0,
   ⟨some 15, none, (.bin .neq .num (.t 14) (.c (.int .u16 48862)))⟩,
   zm 16 15,
   ⟨(some 17), (some (16, true)), (.mv (.t 0))⟩,
   ⟨(some 18), (some (16, true)), (.bin .neq .num (.t 17) (.c (.int .u16 4096)))⟩,
   ⟨some 19, none, (.pick (.t 16) (.t 18) (.c (.bool false)))⟩])
 (.cond (.t 19)
 (.seq
 (.reg [⟨some 4, none, (.mv (.c (.slice none 0 0 none)))⟩,
   zk 5 1]) .ret) .skip))
 (.seq
 (.reg [⟨some 6, none, (.mv (.c (.slice none 0 0 none)))⟩])
 (.seq
 (.seq
 (.reg [zk 7 0])
 (.block 0
 (.loop af204_l0)))
 (.seq
 (.seq
 (.reg [zm 60 6,
   zs 61 60,
   zd 62 .gtr 61 8])
 (.cond (.t 62)
 (.seq
 (.reg [⟨some 4, none, (.mv (.c (.slice none 0 0 none)))⟩,
   zk 5 3]) .ret) .skip))
 (.seq
 (.reg [zm 63 6,
   zc 64 259 [(.t 63)],
   zm 4 64,
   zk 5 0]) .ret))))))⟩
theorem caf204 : cFunc Tryz.prog Tryz.f204 = some af204 := by kernel_rfl
/-- limelight/ext.Find -/
def af205 : AFunc := ⟨18, [(.tmp 4), (.tmp 5)],
 (.seq
 (.reg [⟨some 3, none, (.box (.t 1))⟩,
   ⟨some 4, none, (.mv (.c (.slice none 0 0 none)))⟩,
   ⟨some 5, none, (.mv (.c (.bool false)))⟩])
 (.seq
 (.reg [zm 7 0,
   ⟨some 8, none, (.mkFunc 261 [(.t 3)])⟩,
   zc 9 260 [(.t 7), (.t 8)],
   zm 6 9])
 (.seq
 (.seq
 (.reg [zm 10 6,
   zd 11 .lss 10 0])
 (.cond (.t 11)
 (.seq
 (.reg [⟨some 4, none, (.mv (.c (.slice none 0 0 none)))⟩,
   ⟨some 5, none, (.mv (.c (.bool false)))⟩]) .ret) .skip))
 (.seq
 (.reg [zm 12 0,
   zm 13 6,
   za 14 2 12 13,
   zf 15 1 1 14,
   zl 16 15,
   zc 17 99 [(.t 16)],
   zm 4 17,
   ⟨some 5, none, (.mv (.c (.bool true)))⟩]) .ret))))⟩
theorem caf205 : cFunc Tryz.prog Tryz.f205 = some af205 := by kernel_rfl
def af206_l0 : AC :=
 (.seq
 (.reg [⟨some 8, none, (.next (.t 7))⟩,
   ze 9 0 8])
 (.seq
 (.cond (.t 9) .skip (.exit 0))
 (.block 1
 (.seq
 (.reg [ze 10 2 8,
   zm 5 10])
 (.seq
 (.seq
 (.reg [zm 11 5,
   ⟨some 12, none, (.bin .geq .num (.t 11) (.c (.int .i32 65)))⟩,
   zm 13 12,
   ⟨(some 14), (some (13, true)), (.mv (.t 5))⟩,
   ⟨(some 15), (some (13, true)), (.bin .leq .num (.t 14) (.c (.int .i32 90)))⟩,
   ⟨some 16, none, (.pick (.t 13) (.t 15) (.c (.bool false)))⟩])
 (.cond (.t 16)
 (.reg [zm 17 5,
   ⟨some 18, none, (.bin .add .num (.t 17) (.c (.int .i32 32)))⟩,
   zm 5 18]) .skip))
 (.reg [zm 19 3,
   zm 20 5,
   ⟨some 21, none, (.buildSlice 1 [(.int .i32 0)] 1 [(0, (1, (.t 20)))])⟩,
   ⟨some 22, none, (.append 1 4 (.t 19) (.t 21))⟩,
   zm 3 22]))))))
/-- limelight/rid.Fold -/
def af206 : AFunc := ⟨25, [(.tmp 2)],
 (.seq
 (.reg [⟨some 2, none, (.mv (.c (.str [])))⟩])
 (.seq
 (.reg [⟨some 3, none, (.mv (.c (.slice none 0 0 none)))⟩])
 (.seq
 (.seq
 (.reg [zm 6 0,
   ⟨some 7, none, (.range (.t 6))⟩])
 (.block 0
 (.loop af206_l0)))
 (.seq
 (.reg [zm 23 3,
   ⟨some 24, none, (.conv .runesStr (.t 23))⟩,
   zm 2 24]) .ret))))⟩
theorem caf206 : cFunc Tryz.prog Tryz.f206 = some af206 := by kernel_rfl
/-- limelight/meter.slot -/
def af207 : AFunc := ⟨6, [(.tmp 2)],
 (.seq
 (.reg [zk 2 0])
 (.seq
 (.reg [zm 3 0,
   ⟨some 4, none, (.mx [(.c (.int .i64 0)), (.t 3)])⟩,
   zd 5 .quo 4 100000,
   zm 2 5]) .ret))⟩
theorem caf207 : cFunc Tryz.prog Tryz.f207 = some af207 := by kernel_rfl
/-- (*limelight/write.Writer).begin -/
def af208 : AFunc := ⟨64, [],
 (.seq
 (.reg [⟨some 7, none, (.box (.t 3))⟩])
 (.seq
 (.reg [zf 9 3 1 7,
   zl 10 9,
   ⟨some 11, none, (.conv (.int .i64) (.t 10))⟩,
   zm 8 11])
 (.seq
 (.seq
 (.reg [zm 12 0,
   zn 13 12,
   zf 14 4 1 13,
   zl 15 14,
   zd 16 .geq 15 0])
 (.cond (.t 16)
 (.reg [zm 17 0,
   zn 18 17,
   zf 19 5 1 18,
   zl 20 19,
   zc 21 54 [(.t 20), (.c (.int .i64 1))],
   zm 8 21]) .skip))
 (.seq
 (.reg [zm 22 0,
   zm 23 1,
   zn 24 22,
   zf 25 1 1 24,
   ⟨none, none, (.store 1 (.t 25) (.t 23))⟩])
 (.seq
 (.reg [zm 26 0,
   zn 27 26,
   zf 28 3 1 27,
   zl 29 28,
   zd 30 .add 29 1,
   zn 31 26,
   zf 32 3 1 31,
   ⟨none, none, (.store 1 (.t 32) (.t 30))⟩])
 (.seq
 (.reg [zm 33 0,
   zf 34 3 1 7,
   zl 35 34,
   ⟨some 36, none, (.conv (.int .i64) (.t 35))⟩,
   zn 37 33,
   zf 38 7 1 37,
   ⟨none, none, (.store 1 (.t 38) (.t 36))⟩])
 (.seq
 (.reg [zm 39 0,
   zm 40 8,
   zm 41 0,
   zn 42 41,
   zf 43 7 1 42,
   zl 44 43,
   zb 45 .sub 40 44,
   zn 46 39,
   zf 47 8 1 46,
   ⟨none, none, (.store 1 (.t 47) (.t 45))⟩])
 (.reg [zm 48 0,
   zm 49 0,
   zm 50 0,
   zm 51 0,
   zn 52 51,
   zf 53 4 1 52,
   zl 54 53,
   zc 55 262 [(.t 54)],
   zm 56 8,
   zm 57 2,
   zn 58 48,
   zf 59 4 1 58,
   ⟨none, none, (.store 1 (.t 59) (.t 55))⟩,
   zn 60 49,
   zf 61 5 1 60,
   ⟨none, none, (.store 1 (.t 61) (.t 56))⟩,
   zn 62 50,
   zf 63 6 1 62,
   ⟨none, none, (.store 1 (.t 63) (.t 57))⟩]))))))))⟩
theorem caf208 : cFunc Tryz.prog Tryz.f208 = some af208 := by kernel_rfl
/-- (*limelight/pace.Queue).Put -/
def af209 : AFunc := ⟨39, [(.tmp 4)],
 (.seq
 (.reg [⟨some 4, none, (.mv (.c (.bool false)))⟩])
 (.seq
 (.seq
 (.dreg [zm 5 0,
   zn 6 5,
   zf 7 0 1 6,
   zl 8 7,
   zs 9 8,
   zd 10 .geq 9 16,
   zm 11 10,
   ⟨(some 12), (some (11, false)), (.mv (.t 1))⟩,
   ⟨(some 13), (some (11, false)), (.call 126 [(.t 12)])⟩,
   ⟨(some 14), (some (11, false)), (.mv (.t 0))⟩,
   ⟨(some 15), (some (11, false)), (.nilCheck (.t 14))⟩,
   ⟨(some 16), (some (11, false)), (.fieldAddr 1 1 (.t 15))⟩,
   ⟨(some 17), (some (11, false)), (.load1 (.t 16))⟩,
   ⟨(some 18), (some (11, false)), (.call 263 [(.t 17)])⟩,
   ⟨(some 19), (some (11, false)), (.bin .gtr .num (.t 13) (.t 18))⟩,
   ⟨some 20, none, (.pick (.t 11) (.c (.bool true)) (.t 19))⟩] [(12, 8)])
 (.cond (.t 20)
 (.seq
 (.reg [zm 21 0,
   zn 22 21,
   zf 23 2 1 22,
   zl 24 23,
   zd 25 .add 24 1,
   zn 26 21,
   zf 27 2 1 26,
   ⟨none, none, (.store 1 (.t 27) (.t 25))⟩])
 (.seq
 (.reg [⟨some 4, none, (.mv (.c (.bool false)))⟩]) .ret)) .skip))
 (.seq
 (.dreg [zm 28 0,
   zm 29 0,
   zn 30 29,
   zf 31 0 1 30,
   zl 32 31,
   zm 33 1,
   zc 34 99 [(.t 33)],
   ⟨some 35, none, (.buildSlice 1 [(.slice none 0 0 none)] 1 [(0, (1, (.t 34)))])⟩,
   ⟨some 36, none, (.append 1 24 (.t 32) (.t 35))⟩,
   zn 37 28,
   zf 38 0 1 37,
   ⟨none, none, (.store 1 (.t 38) (.t 36))⟩] [(4, 7), (4, 8)])
 (.seq
 (.reg [⟨some 4, none, (.mv (.c (.bool true)))⟩]) .ret))))⟩
theorem caf209 : cFunc Tryz.prog Tryz.f209 = some af209 := by kernel_rfl
def af210_l0 : AC :=
 (.seq
 (.seq
 (.reg [zm 79 8,
   zd 80 .lss 79 4])
 (.cond (.t 80) .skip (.exit 0)))
 (.seq
 (.block 1
 (.seq
 (.seq
 (.reg [zm 83 0,
   zn 84 83,
   zf 85 0 1 84,
   zl 86 85,
   zm 87 1,
   za 88 3 86 87,
   ⟨some 89, none, (.loadN 3 (.t 88))⟩,
   zm 90 8,
   zc 91 211 [(.t 89), (.t 90)],
   ⟨some 92, none, (.un .not (.t 91))⟩,
   zm 93 92,
   ⟨(some 94), (some (93, false)), (.mv (.t 8))⟩,
   ⟨(some 95), (some (93, false)), (.bin .geq .num (.t 94) (.c (.int .i64 0)))⟩,
   ⟨(some 96), (some (93, false)), (.mv (.t 95))⟩,
   ⟨(some 97), (some (96, true)), (.mv (.t 0))⟩,
   ⟨(some 98), (some (96, true)), (.nilCheck (.t 97))⟩,
   ⟨(some 99), (some (96, true)), (.fieldAddr 0 1 (.t 98))⟩,
   ⟨(some 100), (some (96, true)), (.load1 (.t 99))⟩,
   ⟨(some 101), (some (96, true)), (.mv (.t 1))⟩,
   ⟨(some 102), (some (96, true)), (.ixSlice 3 (.t 100) (.t 101))⟩,
   ⟨(some 103), (some (96, true)), (.fieldAddr 1 1 (.t 102))⟩,
   ⟨(some 104), (some (96, true)), (.load1 (.t 103))⟩,
   ⟨(some 105), (some (96, true)), (.mv (.t 8))⟩,
   ⟨(some 106), (some (96, true)), (.ixSlice 1 (.t 104) (.t 105))⟩,
   ⟨(some 107), (some (96, true)), (.load1 (.t 106))⟩,
   ⟨(some 108), (some (96, true)), (.mv (.t 2))⟩,
   ⟨(some 109), (some (96, true)), (.bin .gtr .num (.t 107) (.t 108))⟩,
   ⟨(some 110), (some (93, false)), (.pick (.t 96) (.t 109) (.c (.bool false)))⟩,
   ⟨some 111, none, (.pick (.t 93) (.c (.bool true)) (.t 110))⟩])
 (.cond (.t 111) (.exit 1) .skip))
 (.seq
 (.reg [zm 112 0,
   zn 113 112,
   zf 114 1 1 113,
   zl 115 114,
   zm 116 1,
   zm 117 8,
   za 118 1 115 116,
   ⟨none, none, (.store 1 (.t 118) (.t 117))⟩])
 (.seq
 (.reg [zm 119 8,
   zd 120 .geq 119 0])
 (.cond (.t 120)
 (.reg [zm 121 0,
   zm 122 1,
   zd 123 .add 122 1,
   zm 124 2,
   zm 125 0,
   zn 126 125,
   zf 127 0 1 126,
   zl 128 127,
   zm 129 1,
   za 130 3 128 129,
   zf 131 1 1 130,
   zl 132 131,
   zm 133 8,
   za 134 1 132 133,
   zl 135 134,
   zb 136 .sub 124 135,
   zc 137 210 [(.t 121), (.t 123), (.t 136)]])
 (.reg [zm 138 0,
   zm 139 1,
   zd 140 .add 139 1,
   zm 141 2,
   zc 142 210 [(.t 138), (.t 140), (.t 141)]]))))))
 (.reg [zm 81 8,
   zd 82 .add 81 1,
   zm 8 82])))
/-- (*limelight/knap.search).try -/
def af210 : AFunc := ⟨143, [],
 (.seq
 (.seq
 (.reg [zm 9 1,
   zm 10 0,
   zn 11 10,
   zf 12 0 1 11,
   zl 13 12,
   zs 14 13,
   zb 15 .eql 9 14])
 (.cond (.t 15)
 (.seq
 (.dreg [zm 16 0,
   zn 17 16,
   zf 18 0 1 17,
   zl 19 18,
   zm 20 0,
   zn 21 20,
   zf 22 1 1 21,
   zl 23 22,
   zc 24 264 [(.t 19), (.t 23)],
   zm 25 0,
   zn 26 25,
   zf 27 0 1 26,
   zl 28 27,
   zm 29 0,
   zn 30 29,
   zf 31 1 1 30,
   zl 32 31,
   zc 33 170 [(.t 28), (.t 32)],
   ⟨some 6, none, (.alloc [(.int .i64 0), (.int .i64 0), (.int .i64 0), (.int .i64 0)])⟩,
   ⟨none, none, (.store 4 (.t 6) (.t 24))⟩,
   zm 7 33] [(18, 18), (3, 19), (7, 19), (12, 8), (12, 19), (16, 8), (16, 19)])
 (.seq
 (.seq
 (.dreg [zm 34 0,
   zn 35 34,
   zf 36 2 1 35,
   zl 37 36,
   ⟨some 38, none, (.bin .eql .slc (.t 37) (.c (.slice none 0 0 none)))⟩,
   zm 39 38,
   ⟨(some 40), (some (39, false)), (.loadN 4 (.t 6))⟩,
   ⟨(some 41), (some (39, false)), (.mv (.t 0))⟩,
   ⟨(some 42), (some (39, false)), (.nilCheck (.t 41))⟩,
   ⟨(some 43), (some (39, false)), (.fieldAddr 3 4 (.t 42))⟩,
   ⟨(some 44), (some (39, false)), (.loadN 4 (.t 43))⟩,
   ⟨(some 45), (some (39, false)), (.call 265 [(.t 40), (.t 44)])⟩,
   ⟨some 46, none, (.pick (.t 39) (.c (.bool true)) (.t 45))⟩,
   zm 47 46,
   ⟨(some 48), (some (47, false)), (.loadN 4 (.t 6))⟩,
   ⟨(some 49), (some (47, false)), (.mv (.t 0))⟩,
   ⟨(some 50), (some (47, false)), (.nilCheck (.t 49))⟩,
   ⟨(some 51), (some (47, false)), (.fieldAddr 3 4 (.t 50))⟩,
   ⟨(some 52), (some (47, false)), (.loadN 4 (.t 51))⟩,
   ⟨(some 53), (some (47, false)), (.bin .eql (.strct [(0, .num), (1, .num), (2, .num), (3, .num)]) (.t 48) (.t 52))⟩,
   ⟨(some 54), (some (47, false)), (.mv (.t 53))⟩,
   ⟨(some 55), (some (54, true)), (.mv (.t 7))⟩,
   ⟨(some 56), (some (54, true)), (.mv (.t 0))⟩,
   ⟨(some 57), (some (54, true)), (.nilCheck (.t 56))⟩,
   ⟨(some 58), (some (54, true)), (.fieldAddr 7 1 (.t 57))⟩,
   ⟨(some 59), (some (54, true)), (.load1 (.t 58))⟩,
   ⟨(some 60), (some (54, true)), (.bin .lss .num (.t 55) (.t 59))⟩,
   ⟨(some 61), (some (47, false)), (.pick (.t 54) (.t 60) (.c (.bool false)))⟩,
   ⟨some 62, none, (.pick (.t 47) (.c (.bool true)) (.t 61))⟩] [])
 (.cond (.t 62)
 (.dreg [zm 63 0,
   zm 64 0,
   zm 65 0,
   zm 66 0,
   zn 67 66,
   zf 68 1 1 67,
   zl 69 68,
   zc 70 172 [(.t 69)],
   ⟨some 71, none, (.loadN 4 (.t 6))⟩,
   zm 72 7,
   zn 73 63,
   zf 74 2 1 73,
   ⟨none, none, (.store 1 (.t 74) (.t 70))⟩,
   zn 75 64,
   zf 76 3 4 75,
   ⟨none, none, (.store 4 (.t 76) (.t 71))⟩,
   zn 77 65,
   zf 78 7 1 77,
   ⟨none, none, (.store 1 (.t 78) (.t 72))⟩] [(8, 7), (8, 13)]) .skip)) .ret)) .skip))
 (.seq
 (.reg [⟨some 8, none, (.mv (.c (.int .i64 (-1))))⟩])
 (.block 0
 (.loop af210_l0))))⟩
theorem caf210 : cFunc Tryz.prog Tryz.f210 = some af210 := by kernel_rfl
/-- limelight/knap.fits -/
def af211 : AFunc := ⟨29, [(.tmp 4)],
 (.seq
 (.reg [⟨some 2, none, (.box (.t 0))⟩,
   ⟨some 4, none, (.mv (.c (.bool false)))⟩])
 (.seq
 (.reg [zm 5 1,
   ⟨some 6, none, (.bin .eql .num (.t 5) (.c (.int .i64 (-1))))⟩,
   zm 7 6,
   ⟨(some 8), (some (7, false)), (.loadN 3 (.t 2))⟩,
   ⟨(some 9), (some (7, false)), (.mv (.t 1))⟩,
   ⟨(some 10), (some (7, false)), (.call 212 [(.t 8), (.t 9)])⟩,
   ⟨(some 11), (some (7, false)), (.mv (.t 10))⟩,
   ⟨(some 12), (some (11, true)), (.mv (.t 1))⟩,
   ⟨(some 13), (some (11, true)), (.fieldAddr 2 1 (.t 2))⟩,
   ⟨(some 14), (some (11, true)), (.load1 (.t 13))⟩,
   ⟨(some 15), (some (11, true)), (.len (.t 14))⟩,
   ⟨(some 16), (some (11, true)), (.bin .lss .num (.t 12) (.t 15))⟩,
   ⟨(some 17), (some (7, false)), (.pick (.t 11) (.t 16) (.c (.bool false)))⟩,
   ⟨(some 18), (some (7, false)), (.mv (.t 17))⟩,
   ⟨(some 19), (some (18, true)), (.fieldAddr 0 1 (.t 2))⟩,
   ⟨(some 20), (some (18, true)), (.load1 (.t 19))⟩,
   ⟨(some 21), (some (18, true)), (.bin .geq .num (.t 20) (.c (.int .i64 0)))⟩,
   ⟨(some 22), (some (7, false)), (.pick (.t 18) (.t 21) (.c (.bool false)))⟩,
   ⟨(some 23), (some (7, false)), (.mv (.t 22))⟩,
   ⟨(some 24), (some (23, true)), (.fieldAddr 0 1 (.t 2))⟩,
   ⟨(some 25), (some (23, true)), (.load1 (.t 24))⟩,
   ⟨(some 26), (some (23, true)), (.bin .lss .num (.t 25) (.c (.int .i64 4)))⟩,
   ⟨(some 27), (some (7, false)), (.pick (.t 23) (.t 26) (.c (.bool false)))⟩,
   ⟨some 28, none, (.pick (.t 7) (.c (.bool true)) (.t 27))⟩,
   zm 4 28]) .ret))⟩
theorem caf211 : cFunc Tryz.prog Tryz.f211 = some af211 := by kernel_rfl
/-- limelight/knap.has -/
def af212 : AFunc := ⟨23, [(.tmp 4)],
 (.seq
 (.reg [⟨some 2, none, (.box (.t 0))⟩,
   ⟨some 4, none, (.mv (.c (.bool false)))⟩])
 (.seq
 (.reg [zm 5 1,
   zd 6 .geq 5 0,
   zm 7 6,
   ⟨(some 8), (some (7, true)), (.mv (.t 1))⟩,
   ⟨(some 9), (some (7, true)), (.fieldAddr 1 1 (.t 2))⟩,
   ⟨(some 10), (some (7, true)), (.load1 (.t 9))⟩,
   ⟨(some 11), (some (7, true)), (.len (.t 10))⟩,
   ⟨(some 12), (some (7, true)), (.mn [(.c (.int .i64 4)), (.t 11)])⟩,
   ⟨(some 13), (some (7, true)), (.bin .lss .num (.t 8) (.t 12))⟩,
   ⟨some 14, none, (.pick (.t 7) (.t 13) (.c (.bool false)))⟩,
   zm 15 14,
   ⟨(some 16), (some (15, true)), (.fieldAddr 1 1 (.t 2))⟩,
   ⟨(some 17), (some (15, true)), (.load1 (.t 16))⟩,
   ⟨(some 18), (some (15, true)), (.mv (.t 1))⟩,
   ⟨(some 19), (some (15, true)), (.ixSlice 1 (.t 17) (.t 18))⟩,
   ⟨(some 20), (some (15, true)), (.load1 (.t 19))⟩,
   ⟨(some 21), (some (15, true)), (.bin .geq .num (.t 20) (.c (.int .i64 0)))⟩,
   ⟨some 22, none, (.pick (.t 15) (.t 21) (.c (.bool false)))⟩,
   zm 4 22]) .ret))⟩
theorem caf212 : cFunc Tryz.prog Tryz.f212 = some af212 := by kernel_rfl
/-- limelight/knap.add -/
def af213 : AFunc := ⟨12, [(.tmp 4)],
 (.seq
 (.reg [zk 4 0])
 (.seq
 (.seq
 (.reg [zm 5 0,
   zm 6 1,
   ⟨some 7, none, (.bin .sub .num (.c (.int .i64 9223372036854775807)) (.t 6))⟩,
   zb 8 .gtr 5 7])
 (.cond (.t 8)
 (.seq
 (.reg [zk 4 9223372036854775807]) .ret) .skip))
 (.seq
 (.reg [zm 9 0,
   zm 10 1,
   zb 11 .add 9 10,
   zm 4 11]) .ret)))⟩
theorem caf213 : cFunc Tryz.prog Tryz.f213 = some af213 := by kernel_rfl
/-- (*limelight/layer.Layers).Height -/
def af214 : AFunc := ⟨18, [(.tmp 4)],
 (.seq
 (.reg [zk 4 0])
 (.seq
 (.seq
 (.reg [zm 5 0,
   zm 6 1,
   zc 7 128 [(.t 5), (.t 6)],
   ⟨some 8, none, (.un .not (.t 7))⟩])
 (.cond (.t 8)
 (.seq
 (.reg [zk 4 0]) .ret) .skip))
 (.seq
 (.reg [zm 9 0,
   zn 10 9,
   zf 11 0 1 10,
   zl 12 11,
   zm 13 1,
   za 14 10 12 13,
   zf 15 0 3 14,
   zf 16 2 1 15,
   zl 17 16,
   zm 4 17]) .ret)))⟩
theorem caf214 : cFunc Tryz.prog Tryz.f214 = some af214 := by kernel_rfl
/-- (*limelight/layer.Layers).Live -/
def af215 : AFunc := ⟨43, [(.tmp 6)],
 (.seq
 (.reg [⟨some 6, none, (.mv (.c (.bool false)))⟩])
 (.seq
 (.reg [zm 7 0,
   zm 8 1,
   zc 9 128 [(.t 7), (.t 8)],
   zm 10 9,
   ⟨(some 11), (some (10, true)), (.mv (.t 0))⟩,
   ⟨(some 12), (some (10, true)), (.nilCheck (.t 11))⟩,
   ⟨(some 13), (some (10, true)), (.fieldAddr 0 1 (.t 12))⟩,
   ⟨(some 14), (some (10, true)), (.load1 (.t 13))⟩,
   ⟨(some 15), (some (10, true)), (.mv (.t 1))⟩,
   ⟨(some 16), (some (10, true)), (.ixSlice 10 (.t 14) (.t 15))⟩,
   ⟨(some 17), (some (10, true)), (.fieldAddr 5 1 (.t 16))⟩,
   ⟨(some 18), (some (10, true)), (.load1 (.t 17))⟩,
   ⟨some 19, none, (.pick (.t 10) (.t 18) (.c (.bool false)))⟩,
   zm 20 19,
   ⟨(some 21), (some (20, true)), (.mv (.t 0))⟩,
   ⟨(some 22), (some (20, true)), (.nilCheck (.t 21))⟩,
   ⟨(some 23), (some (20, true)), (.fieldAddr 0 1 (.t 22))⟩,
   ⟨(some 24), (some (20, true)), (.load1 (.t 23))⟩,
   ⟨(some 25), (some (20, true)), (.mv (.t 1))⟩,
   ⟨(some 26), (some (20, true)), (.ixSlice 10 (.t 24) (.t 25))⟩,
   ⟨(some 27), (some (20, true)), (.fieldAddr 7 1 (.t 26))⟩,
   ⟨(some 28), (some (20, true)), (.load1 (.t 27))⟩,
   ⟨(some 29), (some (20, true)), (.un .not (.t 28))⟩,
   ⟨some 30, none, (.pick (.t 20) (.t 29) (.c (.bool false)))⟩,
   zm 31 30,
   ⟨(some 32), (some (31, true)), (.mv (.t 2))⟩,
   ⟨(some 33), (some (31, true)), (.mv (.t 0))⟩,
   ⟨(some 34), (some (31, true)), (.nilCheck (.t 33))⟩,
   ⟨(some 35), (some (31, true)), (.fieldAddr 0 1 (.t 34))⟩,
   ⟨(some 36), (some (31, true)), (.load1 (.t 35))⟩,
   ⟨(some 37), (some (31, true)), (.mv (.t 1))⟩,
   ⟨(some 38), (some (31, true)), (.ixSlice 10 (.t 36) (.t 37))⟩,
   ⟨(some 39), (some (31, true)), (.fieldAddr 6 1 (.t 38))⟩,
   ⟨(some 40), (some (31, true)), (.load1 (.t 39))⟩,
   ⟨(some 41), (some (31, true)), (.bin .lss .num (.t 32) (.t 40))⟩,
   ⟨some 42, none, (.pick (.t 31) (.t 41) (.c (.bool false)))⟩,
   zm 6 42]) .ret))⟩
theorem caf215 : cFunc Tryz.prog Tryz.f215 = some af215 := by kernel_rfl
/-- (*limelight/layer.Layers).Woken -/
def af216 : AFunc := ⟨18, [(.tmp 4)],
 (.seq
 (.reg [⟨some 4, none, (.mv (.c (.bool false)))⟩])
 (.seq
 (.reg [zm 5 0,
   zm 6 1,
   zc 7 128 [(.t 5), (.t 6)],
   zm 8 7,
   ⟨(some 9), (some (8, true)), (.mv (.t 0))⟩,
   ⟨(some 10), (some (8, true)), (.nilCheck (.t 9))⟩,
   ⟨(some 11), (some (8, true)), (.fieldAddr 0 1 (.t 10))⟩,
   ⟨(some 12), (some (8, true)), (.load1 (.t 11))⟩,
   ⟨(some 13), (some (8, true)), (.mv (.t 1))⟩,
   ⟨(some 14), (some (8, true)), (.ixSlice 10 (.t 12) (.t 13))⟩,
   ⟨(some 15), (some (8, true)), (.fieldAddr 8 1 (.t 14))⟩,
   ⟨(some 16), (some (8, true)), (.load1 (.t 15))⟩,
   ⟨some 17, none, (.pick (.t 8) (.t 16) (.c (.bool false)))⟩,
   zm 4 17]) .ret))⟩
theorem caf216 : cFunc Tryz.prog Tryz.f216 = some af216 := by kernel_rfl
/-- limelight/clock.Over -/
def af217 : AFunc := ⟨25, [(.tmp 4)],
 (.seq
 (.reg [zk 4 0])
 (.seq
 (.reg [zm 8 0,
   zc 9 98 [(.t 8)],
   zm 10 1,
   zc 11 98 [(.t 10)],
   zm 5 9,
   zm 6 11])
 (.seq
 (.seq
 (.reg [zm 12 6,
   ⟨some 13, none, (.bin .eql .num (.t 12) (.c (.int .u64 0)))⟩])
 (.cond (.t 13)
 (.seq
 (.reg [zk 4 0]) .ret) .skip))
 (.seq
 (.reg [zm 14 5,
   zm 15 6,
   zb 16 .quo 14 15,
   zm 7 16])
 (.seq
 (.seq
 (.reg [zm 17 5,
   zm 18 6,
   zb 19 .rem 17 18,
   ⟨some 20, none, (.bin .gtr .num (.t 19) (.c (.int .u64 0)))⟩])
 (.cond (.t 20)
 (.reg [zm 21 7,
   ⟨some 22, none, (.bin .add .num (.t 21) (.c (.int .u64 1)))⟩,
   zm 7 22]) .skip))
 (.seq
 (.reg [zm 23 7,
   ⟨some 24, none, (.conv (.int .i64) (.t 23))⟩,
   zm 4 24]) .ret))))))⟩
theorem caf217 : cFunc Tryz.prog Tryz.f217 = some af217 := by kernel_rfl
def af218_l0 : AC :=
 (.seq
 (.seq
 (.reg [zm 18 7,
   zm 19 0,
   zn 20 19,
   zf 21 5 1 20,
   zl 22 21,
   zb 23 .leq 18 22])
 (.cond (.t 23) .skip (.exit 0)))
 (.seq
 (.block 1
 (.seq
 (.reg [zm 26 7,
   zd 27 .geq 26 0,
   zm 28 27,
   ⟨(some 29), (some (28, true)), (.mv (.t 7))⟩,
   ⟨(some 30), (some (28, true)), (.mv (.t 0))⟩,
   ⟨(some 31), (some (28, true)), (.nilCheck (.t 30))⟩,
   ⟨(some 32), (some (28, true)), (.fieldAddr 5 1 (.t 31))⟩,
   ⟨(some 33), (some (28, true)), (.load1 (.t 32))⟩,
   ⟨(some 34), (some (28, true)), (.bin .sub .num (.t 33) (.c (.int .i64 5)))⟩,
   ⟨(some 35), (some (28, true)), (.bin .gtr .num (.t 29) (.t 34))⟩,
   ⟨some 36, none, (.pick (.t 28) (.t 35) (.c (.bool false)))⟩])
 (.cond (.t 36)
 (.reg [zm 37 6,
   zm 38 0,
   zm 39 7,
   zd 40 .rem 39 5,
   zn 41 38,
   zf 42 0 5 41,
   ⟨some 43, none, (.ixArr 5 1 (.t 42) (.t 40))⟩,
   zl 44 43,
   zc 45 54 [(.t 37), (.t 44)],
   zm 6 45]) .skip)))
 (.reg [zm 24 7,
   zd 25 .add 24 1,
   zm 7 25])))
/-- (*limelight/meter.Meter).Rate -/
def af218 : AFunc := ⟨49, [(.tmp 4)],
 (.seq
 (.reg [zk 4 0])
 (.seq
 (.dreg [zm 8 0,
   zn 9 8,
   zf 10 5 1 9,
   zl 11 10,
   zm 12 1,
   zc 13 207 [(.t 12)],
   ⟨some 14, none, (.mx [(.t 11), (.t 13)])⟩,
   zm 5 14] [(3, 6)])
 (.seq
 (.reg [zk 6 0])
 (.seq
 (.seq
 (.reg [zm 15 5,
   zd 16 .sub 15 5,
   zd 17 .add 16 1,
   zm 7 17])
 (.block 0
 (.loop af218_l0)))
 (.seq
 (.reg [zm 46 6,
   zc 47 108 [(.t 46), (.c (.int .i64 1000000))],
   zc 48 217 [(.t 47), (.c (.int .i64 500000))],
   zm 4 48]) .ret)))))⟩
theorem caf218 : cFunc Tryz.prog Tryz.f218 = some af218 := by kernel_rfl
/-- limelight/rid.one -/
def af219 : AFunc := ⟨33, [(.tmp 2)],
 (.seq
 (.reg [⟨some 2, none, (.mv (.c (.bool false)))⟩])
 (.seq
 (.reg [zm 3 0,
   ⟨some 4, none, (.bin .geq .num (.t 3) (.c (.int .i32 97)))⟩,
   zm 5 4,
   ⟨(some 6), (some (5, true)), (.mv (.t 0))⟩,
   ⟨(some 7), (some (5, true)), (.bin .leq .num (.t 6) (.c (.int .i32 122)))⟩,
   ⟨some 8, none, (.pick (.t 5) (.t 7) (.c (.bool false)))⟩,
   zm 9 8,
   ⟨(some 10), (some (9, false)), (.mv (.t 0))⟩,
   ⟨(some 11), (some (9, false)), (.bin .geq .num (.t 10) (.c (.int .i32 65)))⟩,
   ⟨(some 12), (some (9, false)), (.mv (.t 11))⟩,
   ⟨(some 13), (some (12, true)), (.mv (.t 0))⟩,
   ⟨(some 14), (some (12, true)), (.bin .leq .num (.t 13) (.c (.int .i32 90)))⟩,
   ⟨(some 15), (some (9, false)), (.pick (.t 12) (.t 14) (.c (.bool false)))⟩,
   ⟨some 16, none, (.pick (.t 9) (.c (.bool true)) (.t 15))⟩,
   zm 17 16,
   ⟨(some 18), (some (17, false)), (.mv (.t 0))⟩,
   ⟨(some 19), (some (17, false)), (.bin .geq .num (.t 18) (.c (.int .i32 48)))⟩,
   ⟨(some 20), (some (17, false)), (.mv (.t 19))⟩,
   ⟨(some 21), (some (20, true)), (.mv (.t 0))⟩,
   ⟨(some 22), (some (20, true)), (.bin .leq .num (.t 21) (.c (.int .i32 57)))⟩,
   ⟨(some 23), (some (17, false)), (.pick (.t 20) (.t 22) (.c (.bool false)))⟩,
   ⟨some 24, none, (.pick (.t 17) (.c (.bool true)) (.t 23))⟩,
   zm 25 24,
   ⟨(some 26), (some (25, false)), (.mv (.t 0))⟩,
   ⟨(some 27), (some (25, false)), (.bin .eql .num (.t 26) (.c (.int .i32 45)))⟩,
   ⟨some 28, none, (.pick (.t 25) (.c (.bool true)) (.t 27))⟩,
   zm 29 28,
   ⟨(some 30), (some (29, false)), (.mv (.t 0))⟩,
   ⟨(some 31), (some (29, false)), (.bin .eql .num (.t 30) (.c (.int .i32 95)))⟩,
   ⟨some 32, none, (.pick (.t 29) (.c (.bool true)) (.t 31))⟩,
   zm 2 32]) .ret))⟩
theorem caf219 : cFunc Tryz.prog Tryz.f219 = some af219 := by kernel_rfl
def af220_l0 : AC :=
 (.seq
 (.reg [zb 9 .lss 8 7])
 (.seq
 (.cond (.t 9) .skip (.exit 0))
 (.seq
 (.block 1
 (.seq
 (.reg [zm 10 8,
   zm 5 10])
 (.seq
 (.reg [zm 11 1,
   zm 12 0,
   zm 13 5,
   za 14 3 12 13,
   ⟨some 15, none, (.loadN 3 (.t 14))⟩,
   ⟨some 16, none, (.callV (.t 11) [(.t 15)])⟩])
 (.cond (.t 16)
 (.seq
 (.reg [zm 17 5,
   zm 4 17]) .ret) .skip))))
 (.reg [zd 18 .add 8 1,
   zm 8 18]))))
/-- slices.IndexFunc[[]limelight/api.Layer,limelight/api.Layer] -/
def af220 : AFunc := ⟨19, [(.tmp 4)],
 (.seq
 (.reg [zk 4 0])
 (.seq
 (.seq
 (.reg [zm 6 0,
   zs 7 6,
   zk 8 0])
 (.block 0
 (.loop af220_l0)))
 (.seq
 (.reg [⟨some 4, none, (.mv (.c (.int .i64 (-1))))⟩]) .ret)))⟩
theorem caf220 : cFunc Tryz.prog Tryz.f220 = some af220 := by kernel_rfl
/-- cmp.isNaN[int] -/
def af222 : AFunc := ⟨6, [(.tmp 2)],
 (.seq
 (.reg [⟨some 2, none, (.mv (.c (.bool false)))⟩])
 (.seq
 (.reg [zm 3 0,
   zm 4 0,
   zb 5 .neq 3 4,
   zm 2 5]) .ret))⟩
theorem caf222 : cFunc Tryz.prog Tryz.f222 = some af222 := by kernel_rfl
def af225_l0 : AC :=
 (.seq
 (.seq
 (.dreg [zm 18 9,
   zm 19 1,
   zb 20 .gtr 18 19,
   zm 21 20,
   ⟨(some 22), (some (21, true)), (.mv (.t 3))⟩,
   ⟨(some 23), (some (21, true)), (.mv (.t 0))⟩,
   ⟨(some 24), (some (21, true)), (.mv (.t 9))⟩,
   ⟨(some 25), (some (21, true)), (.ixSlice 1 (.t 23) (.t 24))⟩,
   ⟨(some 26), (some (21, true)), (.load1 (.t 25))⟩,
   ⟨(some 27), (some (21, true)), (.mv (.t 0))⟩,
   ⟨(some 28), (some (21, true)), (.mv (.t 9))⟩,
   ⟨(some 29), (some (21, true)), (.bin .sub .num (.t 28) (.c (.int .i64 1)))⟩,
   ⟨(some 30), (some (21, true)), (.ixSlice 1 (.t 27) (.t 29))⟩,
   ⟨(some 31), (some (21, true)), (.load1 (.t 30))⟩,
   ⟨(some 32), (some (21, true)), (.callV (.t 22) [(.t 26), (.t 31)])⟩,
   ⟨(some 33), (some (21, true)), (.bin .lss .num (.t 32) (.c (.int .i64 0)))⟩,
   ⟨some 34, none, (.pick (.t 21) (.t 33) (.c (.bool false)))⟩] [])
 (.cond (.t 34) .skip (.exit 2)))
 (.seq
 (.block 3
 (.dreg [zm 37 0,
   zm 38 9,
   zm 39 0,
   zm 40 9,
   zd 41 .sub 40 1,
   zm 42 0,
   zm 43 9,
   zd 44 .sub 43 1,
   za 45 1 42 44,
   zl 46 45,
   zm 47 0,
   zm 48 9,
   za 49 1 47 48,
   zl 50 49,
   za 51 1 37 38,
   ⟨none, none, (.store 1 (.t 51) (.t 46))⟩,
   za 52 1 39 41,
   ⟨none, none, (.store 1 (.t 52) (.t 50))⟩] []))
 (.reg [zm 35 9,
   zd 36 .sub 35 1,
   zm 9 36])))
def af225_l1 : AC :=
 (.seq
 (.seq
 (.reg [zm 12 8,
   zm 13 2,
   zb 14 .lss 12 13])
 (.cond (.t 14) .skip (.exit 0)))
 (.seq
 (.block 1
 (.seq
 (.reg [zm 17 8,
   zm 9 17])
 (.block 2
 (.loop af225_l0))))
 (.reg [zm 15 8,
   zd 16 .add 15 1,
   zm 8 16])))
/-- slices.insertionSortCmpFunc[*limelight/sfu.sub] -/
def af225 : AFunc := ⟨53, [],
 (.seq
 (.reg [zm 10 1,
   zd 11 .add 10 1,
   zm 8 11])
 (.block 0
 (.loop af225_l1)))⟩
theorem caf225 : cFunc Tryz.prog Tryz.f225 = some af225 := by kernel_rfl
/-- math/bits.Len64 -/
def af234 : AFunc := ⟨25, [(.tmp 2)],
 (.seq
 (.reg [zk 2 0])
 (.seq
 (.seq
 (.reg [zm 3 0,
   ⟨some 4, none, (.bin .geq .num (.t 3) (.c (.int .u64 4294967296)))⟩])
 (.cond (.t 4)
 (.seq
 (.reg [zm 5 0,
   ⟨some 6, none, (.bin .shr .num (.t 5) (.c (.int .u64 32)))⟩,
   zm 0 6])
 (.reg [zk 2 32])) .skip))
 (.seq
 (.seq
 (.reg [zm 7 0,
   ⟨some 8, none, (.bin .geq .num (.t 7) (.c (.int .u64 65536)))⟩])
 (.cond (.t 8)
 (.seq
 (.reg [zm 9 0,
   ⟨some 10, none, (.bin .shr .num (.t 9) (.c (.int .u64 16)))⟩,
   zm 0 10])
 (.reg [zm 11 2,
   zd 12 .add 11 16,
   zm 2 12])) .skip))
 (.seq
 (.seq
 (.reg [zm 13 0,
   ⟨some 14, none, (.bin .geq .num (.t 13) (.c (.int .u64 256)))⟩])
 (.cond (.t 14)
 (.seq
 (.reg [zm 15 0,
   ⟨some 16, none, (.bin .shr .num (.t 15) (.c (.int .u64 8)))⟩,
   zm 0 16])
 (.reg [zm 17 2,
   zd 18 .add 17 8,
   zm 2 18])) .skip))
 (.seq
 (.reg [zm 19 2,
   zm 20 0,
   ⟨some 21, none, (.conv (.int .u8) (.t 20))⟩,
   ⟨some 22, none, (.ixStr (.c (.str [0, 1, 2, 2, 3, 3, 3, 3, 4, 4, 4, 4, 4, 4, 4, 4, 5, 5, 5, 5, 5, 5, 5, 5, 5, 5, 5, 5, 5, 5, 5, 5, 6, 6, 6, 6, 6, 6, 6, 6, 6, 6, 6, 6, 6, 6, 6, 6, 6, 6, 6, 6, 6, 6, 6, 6, 6, 6, 6, 6, 6, 6, 6, 6, 7, 7, 7, 7, 7, 7, 7, 7, 7, 7, 7, 7, 7, 7, 7, 7, 7, 7, 7, 7, 7, 7, 7, 7, 7, 7, 7, 7, 7, 7, 7, 7, 7, 7, 7, 7, 7, 7, 7, 7, 7, 7, 7, 7, 7, 7, 7, 7, 7, 7, 7, 7, 7, 7, 7, 7, 7, 7, 7, 7, 7, 7, 7, 7, 8, 8, 8, 8, 8, 8, 8, 8, 8, 8, 8, 8, 8, 8, 8, 8, 8, 8, 8, 8, 8, 8, 8, 8, 8, 8, 8, 8, 8, 8, 8, 8, 8, 8, 8, 8, 8, 8, 8, 8, 8, 8, 8, 8, 8, 8, 8, 8, 8, 8, 8, 8, 8, 8, 8, 8, 8, 8, 8, 8, 8, 8, 8, 8, 8, 8, 8, 8, 8, 8, 8, 8, 8, 8, 8, 8, 8, 8, 8, 8, 8, 8, 8, 8, 8, 8, 8, 8, 8, 8, 8, 8, 8, 8, 8, 8, 8, 8, 8, 8, 8, 8, 8, 8, 8, 8, 8, 8, 8, 8, 8, 8, 8, 8, 8, 8, 8, 8, 8, 8, 8, 8, 8, 8, 8, 8, 8, 8])) (.t 21))⟩,
   ⟨some 23, none, (.conv (.int .i64) (.t 22))⟩,
   zb 24 .add 19 23,
   zm 2 24]) .ret)))))⟩
theorem caf234 : cFunc Tryz.prog Tryz.f234 = some af234 := by kernel_rfl
/-- limelight/rtcp.Right -/
def af250 : AFunc := ⟨20, [(.tmp 2)],
 (.seq
 (.reg [⟨some 1, none, (.box (.t 0))⟩,
   zk 2 0])
 (.seq
 (.block 0
 (.seq
 (.reg [zf 4 0 1 1,
   zl 5 4,
   zd 6 .lss 5 1,
   zm 7 6,
   ⟨(some 8), (some (7, false)), (.fieldAddr 0 1 (.t 1))⟩,
   ⟨(some 9), (some (7, false)), (.load1 (.t 8))⟩,
   ⟨(some 10), (some (7, false)), (.bin .gtr .num (.t 9) (.c (.int .i64 6)))⟩,
   ⟨some 11, none, (.pick (.t 7) (.c (.bool true)) (.t 10))⟩,
   zm 3 11])
 (.cond (.t 3)
 (.seq
 (.reg [zk 2 12]) .ret)
 (.seq
 (.reg [⟨some 13, none, (.loadN 10 (.t 1))⟩,
   zc 14 279 [(.t 13)],
   ⟨some 15, none, (.un .not (.t 14))⟩,
   zm 12 15])
 (.cond (.t 12)
 (.seq
 (.reg [zk 2 1]) .ret)
 (.seq
 (.reg [⟨some 17, none, (.loadN 10 (.t 1))⟩,
   zc 18 280 [(.t 17)],
   ⟨some 19, none, (.un .not (.t 18))⟩,
   zm 16 19])
 (.cond (.t 16)
 (.seq
 (.reg [zk 2 12]) .ret) .skip)))))))
 (.seq
 (.reg [zk 2 0]) .ret)))⟩
theorem caf250 : cFunc Tryz.prog Tryz.f250 = some af250 := by kernel_rfl
def af251_l0 : AC :=
 (.seq
 (.reg [zb 104 .lss 103 102])
 (.seq
 (.cond (.t 104) .skip (.exit 5))
 (.seq
 (.block 6
 (.seq
 (.reg [za 105 1 101 103,
   zl 106 105,
   zm 10 106])
 (.reg [zm 107 2,
   zm 108 10,
   ⟨some 109, none, (.conv (.int .u64) (.t 108))⟩,
   zc 110 58 [(.t 107), (.t 109), (.c (.int .i64 4))],
   zm 2 110])))
 (.reg [zd 111 .add 103 1,
   zm 103 111]))))
def af251_l1 : AC :=
 (.seq
 (.reg [zb 68 .lss 67 66])
 (.seq
 (.cond (.t 68) .skip (.exit 3))
 (.seq
 (.block 4
 (.seq
 (.reg [zm 69 67,
   za 70 1 65 67,
   zl 71 70,
   zm 7 69,
   zm 8 71])
 (.dreg [zm 72 2,
   zm 73 8,
   ⟨some 74, none, (.conv (.int .u64) (.t 73))⟩,
   zc 75 58 [(.t 72), (.t 74), (.c (.int .i64 4))],
   zf 76 5 1 1,
   zl 77 76,
   zm 78 7,
   za 79 1 77 78,
   zl 80 79,
   ⟨some 81, none, (.conv (.int .u64) (.t 80))⟩,
   zc 82 58 [(.t 75), (.t 81), (.c (.int .i64 1))],
   zc 83 58 [(.t 82), (.c (.int .u64 0)), (.c (.int .i64 3))],
   zm 2 83] [(5, 3), (8, 3)])))
 (.reg [zd 84 .add 67 1,
   zm 67 84]))))
def af251_l2 : AC :=
 (.seq
 (.reg [zb 34 .lss 33 32])
 (.seq
 (.cond (.t 34) .skip (.exit 1))
 (.seq
 (.block 2
 (.seq
 (.reg [za 35 3 31 33,
   ⟨some 36, none, (.loadN 3 (.t 35))⟩,
   ⟨some 6, none, (.alloc [(.int .u32 0), (.int .u64 0), (.int .i64 0)])⟩,
   ⟨none, none, (.store 3 (.t 6) (.t 36))⟩])
 (.dreg [zm 37 2,
   zf 38 0 1 6,
   zl 39 38,
   ⟨some 40, none, (.conv (.int .u64) (.t 39))⟩,
   zc 41 58 [(.t 37), (.t 40), (.c (.int .i64 4))],
   zf 42 1 1 6,
   zl 43 42,
   zf 44 2 1 6,
   zl 45 44,
   ⟨some 46, none, (.conv (.int .u64) (.t 45))⟩,
   zc 47 281 [(.t 43), (.c (.int .i64 17)), (.c (.int .i64 9)), (.t 46)],
   zc 48 58 [(.t 41), (.t 47), (.c (.int .i64 4))],
   zm 2 48] [(6, 4), (8, 4)])))
 (.reg [zd 49 .add 33 1,
   zm 33 49]))))
/-- limelight/rtcp.body -/
def af251 : AFunc := ⟨120, [(.tmp 2), (.tmp 3), (.tmp 4)],
 (.seq
 (.reg [⟨some 1, none, (.box (.t 0))⟩,
   ⟨some 2, none, (.mv (.c (.slice none 0 0 none)))⟩,
   zk 3 0,
   zk 4 0])
 (.seq
 (.reg [zf 11 1 1 1,
   zl 12 11,
   ⟨some 13, none, (.conv (.int .u64) (.t 12))⟩,
   zc 14 58 [(.c (.slice none 0 0 none)), (.t 13), (.c (.int .i64 4))],
   zm 2 14])
 (.seq
 (.seq
 (.reg [zf 15 0 1 1,
   zl 16 15,
   zd 17 .neq 16 3,
   zm 18 17,
   ⟨(some 19), (some (18, true)), (.fieldAddr 0 1 (.t 1))⟩,
   ⟨(some 20), (some (18, true)), (.load1 (.t 19))⟩,
   ⟨(some 21), (some (18, true)), (.bin .neq .num (.t 20) (.c (.int .i64 6)))⟩,
   ⟨some 22, none, (.pick (.t 18) (.t 21) (.c (.bool false)))⟩])
 (.cond (.t 22)
 (.reg [zm 23 2,
   zc 24 58 [(.t 23), (.c (.int .u64 0)), (.c (.int .i64 4))],
   zm 2 24]) .skip))
 (.seq
 (.seq
 (.reg [zf 25 0 1 1,
   zl 26 25])
 (.block 0
 (.seq
 (.seq
 (.reg [zd 28 .eql 26 1,
   zm 27 28])
 (.cond (.t 27) .skip
 (.reg [zd 29 .eql 26 2,
   zm 27 29])))
 (.cond (.t 27)
 (.seq
 (.seq
 (.reg [zf 30 3 1 1,
   zl 31 30,
   zs 32 31,
   zk 33 0])
 (.block 1
 (.loop af251_l2)))
 (.seq
 (.dreg [zm 50 2,
   zf 51 0 1 1,
   zl 52 51,
   ⟨some 53, none, (.bin .add .num (.c (.int .i64 3)) (.t 52))⟩,
   zd 54 .sub 53 1,
   zm 2 50,
   zk 3 205,
   zm 4 54] []) .ret))
 (.seq
 (.reg [zd 56 .eql 26 3,
   zm 55 56])
 (.cond (.t 55)
 (.seq
 (.reg [zm 57 2,
   zf 58 2 1 1,
   zl 59 58,
   ⟨some 60, none, (.conv (.int .u64) (.t 59))⟩,
   zc 61 58 [(.t 57), (.t 60), (.c (.int .i64 4))],
   zm 2 61,
   zk 3 206,
   zk 4 1]) .ret)
 (.seq
 (.reg [zd 63 .eql 26 4,
   zm 62 63])
 (.cond (.t 62)
 (.seq
 (.seq
 (.reg [zf 64 4 1 1,
   zl 65 64,
   zs 66 65,
   zk 67 0])
 (.block 3
 (.loop af251_l1)))
 (.seq
 (.reg [zm 85 2,
   zm 2 85,
   zk 3 206,
   zk 4 4]) .ret))
 (.seq
 (.reg [zd 87 .eql 26 5,
   zm 86 87])
 (.cond (.t 86)
 (.seq
 (.dreg [zm 88 2,
   ⟨some 89, none, (.appendS 1 (.t 88) (.c (.str [82, 69, 77, 66])))⟩,
   zf 90 4 1 1,
   zl 91 90,
   zs 92 91,
   ⟨some 93, none, (.conv (.int .u64) (.t 92))⟩,
   zc 94 58 [(.t 89), (.t 93), (.c (.int .i64 1))],
   zm 2 94] [(3, 1)])
 (.seq
 (.reg [zm 95 2,
   zf 96 6 1 1,
   zl 97 96,
   zc 98 281 [(.t 97), (.c (.int .i64 18)), (.c (.int .i64 0)), (.c (.int .u64 0))],
   zc 99 58 [(.t 95), (.t 98), (.c (.int .i64 3))],
   zm 2 99])
 (.seq
 (.seq
 (.reg [zf 100 4 1 1,
   zl 101 100,
   zs 102 101,
   zk 103 0])
 (.block 5
 (.loop af251_l0)))
 (.seq
 (.reg [zm 112 2,
   zm 2 112,
   zk 3 206,
   zk 4 15]) .ret)))) .skip))))))))))
 (.seq
 (.dreg [zf 113 9 1 1,
   zl 114 113,
   zc 115 99 [(.t 114)],
   zf 116 7 1 1,
   zl 117 116,
   zf 118 8 1 1,
   zl 119 118,
   zm 2 115,
   zm 3 117,
   zm 4 119] [(4, 2), (6, 2)]) .ret)))))⟩
theorem caf251 : cFunc Tryz.prog Tryz.f251 = some af251 := by kernel_rfl
/-- limelight/ext.next -/
def af258 : AFunc := ⟨63, [(.tmp 6), (.tmp 7), (.tmp 8), (.tmp 9)],
 (.seq
 (.reg [zk 6 0,
   zk 7 0,
   zk 8 0,
   ⟨some 9, none, (.mv (.c (.bool false)))⟩])
 (.seq
 (.seq
 (.reg [zm 10 0,
   ⟨some 11, none, (.bin .eql .num (.t 10) (.c (.int .u16 48862)))⟩])
 (.cond (.t 11)
 (.seq
 (.dreg [zm 12 1,
   zm 13 2,
   za 14 1 12 13,
   zl 15 14,
   ⟨some 16, none, (.conv (.int .i64) (.t 15))⟩,
   ⟨some 17, none, (.bin .shr .num (.t 16) (.c (.int .u64 4)))⟩,
   zm 18 1,
   zm 19 2,
   za 20 1 18 19,
   zl 21 20,
   ⟨some 22, none, (.bin .and .num (.t 21) (.c (.int .u8 15)))⟩,
   ⟨some 23, none, (.conv (.int .i64) (.t 22))⟩,
   zd 24 .add 23 1,
   zm 25 2,
   zd 26 .add 25 1,
   zm 6 17,
   zm 7 24,
   zm 8 26] [])
 (.seq
 (.reg [zm 27 6,
   zm 28 7,
   zm 29 8,
   zm 30 6,
   zd 31 .neq 30 0,
   zm 32 31,
   ⟨(some 33), (some (32, true)), (.mv (.t 6))⟩,
   ⟨(some 34), (some (32, true)), (.bin .neq .num (.t 33) (.c (.int .i64 15)))⟩,
   ⟨some 35, none, (.pick (.t 32) (.t 34) (.c (.bool false)))⟩,
   zm 6 27,
   zm 7 28,
   zm 8 29,
   zm 9 35]) .ret)) .skip))
 (.seq
 (.seq
 (.reg [zm 36 2,
   zd 37 .add 36 1,
   zm 38 1,
   zs 39 38,
   zb 40 .geq 37 39])
 (.cond (.t 40)
 (.seq
 (.reg [zm 41 1,
   zm 42 2,
   za 43 1 41 42,
   zl 44 43,
   ⟨some 45, none, (.conv (.int .i64) (.t 44))⟩,
   zm 46 1,
   zs 47 46,
   zm 48 2,
   zd 49 .add 48 1,
   zm 6 45,
   zm 7 47,
   zm 8 49,
   ⟨some 9, none, (.mv (.c (.bool true)))⟩]) .ret) .skip))
 (.seq
 (.dreg [zm 50 1,
   zm 51 2,
   za 52 1 50 51,
   zl 53 52,
   ⟨some 54, none, (.conv (.int .i64) (.t 53))⟩,
   zm 55 1,
   zm 56 2,
   zd 57 .add 56 1,
   za 58 1 55 57,
   zl 59 58,
   ⟨some 60, none, (.conv (.int .i64) (.t 59))⟩,
   zm 61 2,
   zd 62 .add 61 2,
   zm 6 54,
   zm 7 60,
   zm 8 62,
   ⟨some 9, none, (.mv (.c (.bool true)))⟩] []) .ret))))⟩
theorem caf258 : cFunc Tryz.prog Tryz.f258 = some af258 := by kernel_rfl
/-- slices.Clip[[]limelight/api.Elem,limelight/api.Elem] -/
def af259 : AFunc := ⟨9, [(.tmp 2)],
 (.seq
 (.reg [⟨some 2, none, (.mv (.c (.slice none 0 0 none)))⟩])
 (.seq
 (.reg [zm 3 0,
   zm 4 0,
   zs 5 4,
   zm 6 0,
   zs 7 6,
   ⟨some 8, none, (.cut 2 (.t 3) none (some (.t 5)) (some (.t 7)))⟩,
   zm 2 8]) .ret))⟩
theorem caf259 : cFunc Tryz.prog Tryz.f259 = some af259 := by kernel_rfl
def af260_l0 : AC :=
 (.seq
 (.reg [zb 9 .lss 8 7])
 (.seq
 (.cond (.t 9) .skip (.exit 0))
 (.seq
 (.block 1
 (.seq
 (.reg [zm 10 8,
   zm 5 10])
 (.seq
 (.reg [zm 11 1,
   zm 12 0,
   zm 13 5,
   za 14 2 12 13,
   ⟨some 15, none, (.loadN 2 (.t 14))⟩,
   ⟨some 16, none, (.callV (.t 11) [(.t 15)])⟩])
 (.cond (.t 16)
 (.seq
 (.reg [zm 17 5,
   zm 4 17]) .ret) .skip))))
 (.reg [zd 18 .add 8 1,
   zm 8 18]))))
/-- slices.IndexFunc[[]limelight/api.Elem,limelight/api.Elem] -/
def af260 : AFunc := ⟨19, [(.tmp 4)],
 (.seq
 (.reg [zk 4 0])
 (.seq
 (.seq
 (.reg [zm 6 0,
   zs 7 6,
   zk 8 0])
 (.block 0
 (.loop af260_l0)))
 (.seq
 (.reg [⟨some 4, none, (.mv (.c (.int .i64 (-1))))⟩]) .ret)))⟩
theorem caf260 : cFunc Tryz.prog Tryz.f260 = some af260 := by kernel_rfl
/-- limelight/ext.Find$1 -/
def af261 : AFunc := ⟨8, [(.tmp 3)],
 (.seq
 (.reg [⟨some 2, none, (.box (.t 0))⟩,
   ⟨some 3, none, (.mv (.c (.bool false)))⟩])
 (.seq
 (.reg [zf 4 0 1 2,
   zl 5 4,
   zl 6 1,
   zb 7 .eql 5 6,
   zm 3 7]) .ret))⟩
theorem caf261 : cFunc Tryz.prog Tryz.f261 = some af261 := by kernel_rfl
/-- limelight/write.next -/
def af262 : AFunc := ⟨7, [(.tmp 2)],
 (.seq
 (.reg [zk 2 0])
 (.seq
 (.seq
 (.reg [zm 3 0,
   zd 4 .lss 3 0])
 (.cond (.t 4)
 (.seq
 (.reg [zk 2 0]) .ret) .skip))
 (.seq
 (.reg [zm 5 0,
   zc 6 54 [(.t 5), (.c (.int .i64 1))],
   zm 2 6]) .ret)))⟩
theorem caf262 : cFunc Tryz.prog Tryz.f262 = some af262 := by kernel_rfl
/-- (*limelight/bucket.Bucket).Burst -/
def af263 : AFunc := ⟨7, [(.tmp 2)],
 (.seq
 (.reg [zk 2 0])
 (.seq
 (.reg [zm 3 0,
   zn 4 3,
   zf 5 1 1 4,
   zl 6 5,
   zm 2 6]) .ret))⟩
theorem caf263 : cFunc Tryz.prog Tryz.f263 = some af263 := by kernel_rfl
def af264_l0 : AC :=
 (.seq
 (.reg [zb 17 .lss 16 15])
 (.seq
 (.cond (.t 17) .skip (.exit 0))
 (.seq
 (.block 1
 (.seq
 (.reg [zm 18 16,
   za 19 1 14 16,
   zl 20 19,
   zm 6 18,
   zm 7 20])
 (.seq
 (.reg [zm 21 7,
   zd 22 .geq 21 0,
   zm 23 22,
   ⟨(some 24), (some (23, true)), (.mv (.t 0))⟩,
   ⟨(some 25), (some (23, true)), (.mv (.t 6))⟩,
   ⟨(some 26), (some (23, true)), (.ixSlice 3 (.t 24) (.t 25))⟩,
   ⟨(some 27), (some (23, true)), (.loadN 3 (.t 26))⟩,
   ⟨(some 28), (some (23, true)), (.mv (.t 7))⟩,
   ⟨(some 29), (some (23, true)), (.call 211 [(.t 27), (.t 28)])⟩,
   ⟨some 30, none, (.pick (.t 23) (.t 29) (.c (.bool false)))⟩])
 (.cond (.t 30)
 (.dreg [zm 31 0,
   zm 32 6,
   za 33 3 31 32,
   zf 34 0 1 33,
   zl 35 34,
   ⟨some 36, none, (.ixArr 4 1 (.t 5) (.t 35))⟩,
   zl 37 36,
   zm 38 0,
   zm 39 6,
   za 40 3 38 39,
   zf 41 2 1 40,
   zl 42 41,
   zm 43 7,
   za 44 1 42 43,
   zl 45 44,
   ⟨some 46, none, (.mn [(.t 45), (.c (.int .i64 1073741824))])⟩,
   ⟨some 47, none, (.mx [(.c (.int .i64 0)), (.t 46)])⟩,
   zb 48 .add 37 47,
   ⟨some 49, none, (.ixArr 4 1 (.t 5) (.t 35))⟩,
   ⟨none, none, (.store 1 (.t 49) (.t 48))⟩] []) .skip))))
 (.reg [zd 50 .add 16 1,
   zm 16 50]))))
/-- limelight/knap.Good -/
def af264 : AFunc := ⟨52, [(.cellN 4 4)],
 (.seq
 (.reg [⟨some 4, none, (.alloc [(.int .i64 0), (.int .i64 0), (.int .i64 0), (.int .i64 0)])⟩])
 (.seq
 (.reg [⟨some 5, none, (.alloc [(.int .i64 0), (.int .i64 0), (.int .i64 0), (.int .i64 0)])⟩])
 (.seq
 (.seq
 (.reg [zm 8 1,
   zm 9 1,
   zs 10 9,
   zm 11 0,
   zs 12 11,
   ⟨some 13, none, (.mn [(.t 10), (.t 12)])⟩,
   ⟨some 14, none, (.cut 1 (.t 8) none (some (.t 13)) none)⟩,
   zs 15 14,
   zk 16 0])
 (.block 0
 (.loop af264_l0)))
 (.seq
 (.reg [⟨some 51, none, (.loadN 4 (.t 5))⟩,
   ⟨none, none, (.store 4 (.t 4) (.t 51))⟩]) .ret))))⟩
theorem caf264 : cFunc Tryz.prog Tryz.f264 = some af264 := by kernel_rfl
/-- limelight/knap.Better -/
def af265 : AFunc := ⟨9, [(.tmp 4)],
 (.seq
 (.reg [⟨some 2, none, (.box (.t 0))⟩,
   ⟨some 3, none, (.box (.t 1))⟩,
   ⟨some 4, none, (.mv (.c (.bool false)))⟩])
 (.seq
 (.dreg [⟨some 5, none, (.cutArr 4 1 (.t 2) none none)⟩,
   ⟨some 6, none, (.cutArr 4 1 (.t 3) none none)⟩,
   zc 7 284 [(.t 5), (.t 6)],
   zd 8 .gtr 7 0,
   zm 4 8] []) .ret))⟩
theorem caf265 : cFunc Tryz.prog Tryz.f265 = some af265 := by kernel_rfl
/-- limelight/rtcp.values -/
def af279 : AFunc := ⟨100, [(.tmp 2)],
 (.seq
 (.reg [⟨some 1, none, (.box (.t 0))⟩,
   ⟨some 2, none, (.mv (.c (.bool false)))⟩])
 (.seq
 (.seq
 (.reg [zf 3 0 1 1,
   zl 4 3])
 (.block 0
 (.seq
 (.seq
 (.reg [zd 6 .eql 4 1,
   zm 5 6])
 (.cond (.t 5) .skip
 (.reg [zd 7 .eql 4 2,
   zm 5 7])))
 (.cond (.t 5)
 (.seq
 (.reg [zf 8 3 1 1,
   zl 9 8,
   zs 10 9,
   zd 11 .leq 10 6,
   zm 12 11,
   ⟨(some 13), (some (12, true)), (.fieldAddr 3 1 (.t 1))⟩,
   ⟨(some 14), (some (12, true)), (.load1 (.t 13))⟩,
   ⟨(some 15), (some (12, true)), (.call 299 [(.t 14), (.c (.func 300 []))])⟩,
   ⟨(some 16), (some (12, true)), (.un .not (.t 15))⟩,
   ⟨some 17, none, (.pick (.t 12) (.t 16) (.c (.bool false)))⟩,
   zm 2 17]) .ret)
 (.seq
 (.reg [zd 19 .eql 4 4,
   zm 18 19])
 (.cond (.t 18)
 (.seq
 (.reg [zf 20 5 1 1,
   zl 21 20,
   zs 22 21,
   zf 23 4 1 1,
   zl 24 23,
   zs 25 24,
   zb 26 .eql 22 25,
   zm 27 26,
   ⟨(some 28), (some (27, true)), (.fieldAddr 4 1 (.t 1))⟩,
   ⟨(some 29), (some (27, true)), (.load1 (.t 28))⟩,
   ⟨(some 30), (some (27, true)), (.len (.t 29))⟩,
   ⟨(some 31), (some (27, true)), (.bin .geq .num (.t 30) (.c (.int .i64 1)))⟩,
   ⟨some 32, none, (.pick (.t 27) (.t 31) (.c (.bool false)))⟩,
   zm 33 32,
   ⟨(some 34), (some (33, true)), (.fieldAddr 4 1 (.t 1))⟩,
   ⟨(some 35), (some (33, true)), (.load1 (.t 34))⟩,
   ⟨(some 36), (some (33, true)), (.len (.t 35))⟩,
   ⟨(some 37), (some (33, true)), (.bin .leq .num (.t 36) (.c (.int .i64 16)))⟩,
   ⟨some 38, none, (.pick (.t 33) (.t 37) (.c (.bool false)))⟩,
   zm 39 38,
   ⟨(some 40), (some (39, true)), (.fieldAddr 5 1 (.t 1))⟩,
   ⟨(some 41), (some (39, true)), (.load1 (.t 40))⟩,
   ⟨(some 42), (some (39, true)), (.call 302 [(.t 41), (.c (.func 303 []))])⟩,
   ⟨(some 43), (some (39, true)), (.un .not (.t 42))⟩,
   ⟨some 44, none, (.pick (.t 39) (.t 43) (.c (.bool false)))⟩,
   zm 2 44]) .ret)
 (.seq
 (.reg [zd 46 .eql 4 5,
   zm 45 46])
 (.cond (.t 45)
 (.seq
 (.dreg [zf 47 4 1 1,
   zl 48 47,
   zs 49 48,
   zd 50 .leq 49 16,
   zm 51 50,
   ⟨(some 52), (some (51, true)), (.fieldAddr 6 1 (.t 1))⟩,
   ⟨(some 53), (some (51, true)), (.load1 (.t 52))⟩,
   ⟨(some 54), (some (51, true)), (.call 301 [(.t 53), (.c (.int .i64 18))])⟩,
   ⟨(some 55), (some (51, true)), (.fieldAddr 6 1 (.t 1))⟩,
   ⟨(some 56), (some (51, true)), (.load1 (.t 55))⟩,
   ⟨(some 57), (some (51, true)), (.bin .eql .num (.t 54) (.t 56))⟩,
   ⟨some 58, none, (.pick (.t 51) (.t 57) (.c (.bool false)))⟩,
   zm 2 58] [(9, 7)]) .ret)
 (.seq
 (.reg [zd 60 .eql 4 6,
   zm 59 60])
 (.cond (.t 59)
 (.seq
 (.reg [zf 61 7 1 1,
   zl 62 61,
   zd 63 .geq 62 192,
   zm 64 63,
   ⟨(some 65), (some (64, true)), (.fieldAddr 7 1 (.t 1))⟩,
   ⟨(some 66), (some (64, true)), (.load1 (.t 65))⟩,
   ⟨(some 67), (some (64, true)), (.bin .leq .num (.t 66) (.c (.int .i64 223)))⟩,
   ⟨some 68, none, (.pick (.t 64) (.t 67) (.c (.bool false)))⟩,
   zm 69 68,
   ⟨(some 70), (some (69, true)), (.fieldAddr 8 1 (.t 1))⟩,
   ⟨(some 71), (some (69, true)), (.load1 (.t 70))⟩,
   ⟨(some 72), (some (69, true)), (.bin .geq .num (.t 71) (.c (.int .i64 0)))⟩,
   ⟨some 73, none, (.pick (.t 69) (.t 72) (.c (.bool false)))⟩,
   zm 74 73,
   ⟨(some 75), (some (74, true)), (.fieldAddr 8 1 (.t 1))⟩,
   ⟨(some 76), (some (74, true)), (.load1 (.t 75))⟩,
   ⟨(some 77), (some (74, true)), (.bin .leq .num (.t 76) (.c (.int .i64 31)))⟩,
   ⟨some 78, none, (.pick (.t 74) (.t 77) (.c (.bool false)))⟩,
   zm 79 78,
   ⟨(some 80), (some (79, true)), (.fieldAddr 9 1 (.t 1))⟩,
   ⟨(some 81), (some (79, true)), (.load1 (.t 80))⟩,
   ⟨(some 82), (some (79, true)), (.len (.t 81))⟩,
   ⟨(some 83), (some (79, true)), (.bin .rem .num (.t 82) (.c (.int .i64 4)))⟩,
   ⟨(some 84), (some (79, true)), (.bin .eql .num (.t 83) (.c (.int .i64 0)))⟩,
   ⟨some 85, none, (.pick (.t 79) (.t 84) (.c (.bool false)))⟩,
   zm 86 85,
   ⟨(some 87), (some (86, true)), (.fieldAddr 9 1 (.t 1))⟩,
   ⟨(some 88), (some (86, true)), (.load1 (.t 87))⟩,
   ⟨(some 89), (some (86, true)), (.len (.t 88))⟩,
   ⟨(some 90), (some (86, true)), (.bin .leq .num (.t 89) (.c (.int .i64 262140)))⟩,
   ⟨some 91, none, (.pick (.t 86) (.t 90) (.c (.bool false)))⟩,
   zm 92 91,
   ⟨(some 93), (some (92, true)), (.fieldAddr 7 1 (.t 1))⟩,
   ⟨(some 94), (some (92, true)), (.load1 (.t 93))⟩,
   ⟨(some 95), (some (92, true)), (.fieldAddr 8 1 (.t 1))⟩,
   ⟨(some 96), (some (92, true)), (.load1 (.t 95))⟩,
   ⟨(some 97), (some (92, true)), (.call 235 [(.t 94), (.t 96)])⟩,
   ⟨(some 98), (some (92, true)), (.bin .eql .num (.t 97) (.c (.int .i64 6)))⟩,
   ⟨some 99, none, (.pick (.t 92) (.t 98) (.c (.bool false)))⟩,
   zm 2 99]) .ret) .skip))))))))))
 (.seq
 (.reg [⟨some 2, none, (.mv (.c (.bool true)))⟩]) .ret)))⟩
theorem caf279 : cFunc Tryz.prog Tryz.f279 = some af279 := by kernel_rfl
end Go.Proofs.YtidhpcjbllnjgaaGreatA
