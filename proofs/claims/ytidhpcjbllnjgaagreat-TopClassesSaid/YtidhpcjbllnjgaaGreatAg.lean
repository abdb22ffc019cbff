/- The loaded functions of this seat, their types resolved: printed by a program of this claim; each is held against the loaded one. -/
import Derived.Test.YtidhpcjbllnjgaaGreatAgA
set_option maxRecDepth 100000
namespace Go.Proofs.YtidhpcjbllnjgaaGreatA
open Go.RowKit
/-- limelight/rtcp.fields -/
def af280 : AFunc := ⟨98, [(.tmp 2)],
 (.seq
 (.reg [⟨some 1, none, (.box (.t 0))⟩,
   ⟨some 2, none, (.mv (.c (.bool false)))⟩])
 (.seq
 (.reg [zf 5 0 1 1,
   zl 6 5,
   zd 7 .eql 6 1,
   zm 8 7,
   ⟨(some 9), (some (8, false)), (.fieldAddr 0 1 (.t 1))⟩,
   ⟨(some 10), (some (8, false)), (.load1 (.t 9))⟩,
   ⟨(some 11), (some (8, false)), (.bin .eql .num (.t 10) (.c (.int .i64 2)))⟩,
   ⟨some 12, none, (.pick (.t 8) (.c (.bool true)) (.t 11))⟩,
   zm 3 12])
 (.seq
 (.reg [zf 13 0 1 1,
   zl 14 13,
   zd 15 .eql 14 6,
   zm 4 15])
 (.seq
 (.reg [zm 16 3,
   zm 17 16,
   ⟨(some 18), (some (17, false)), (.fieldAddr 3 1 (.t 1))⟩,
   ⟨(some 19), (some (17, false)), (.load1 (.t 18))⟩,
   ⟨(some 20), (some (17, false)), (.len (.t 19))⟩,
   ⟨(some 21), (some (17, false)), (.bin .eql .num (.t 20) (.c (.int .i64 0)))⟩,
   ⟨some 22, none, (.pick (.t 17) (.c (.bool true)) (.t 21))⟩,
   zm 23 22,
   ⟨(some 24), (some (23, true)), (.fieldAddr 0 1 (.t 1))⟩,
   ⟨(some 25), (some (23, true)), (.load1 (.t 24))⟩,
   ⟨(some 26), (some (23, true)), (.bin .eql .num (.t 25) (.c (.int .i64 3)))⟩,
   ⟨(some 27), (some (23, true)), (.mv (.t 26))⟩,
   ⟨(some 28), (some (27, false)), (.fieldAddr 2 1 (.t 1))⟩,
   ⟨(some 29), (some (27, false)), (.load1 (.t 28))⟩,
   ⟨(some 30), (some (27, false)), (.bin .eql .num (.t 29) (.c (.int .u32 0)))⟩,
   ⟨(some 31), (some (23, true)), (.pick (.t 27) (.c (.bool true)) (.t 30))⟩,
   ⟨some 32, none, (.pick (.t 23) (.t 31) (.c (.bool false)))⟩,
   zm 33 32,
   ⟨(some 34), (some (33, true)), (.fieldAddr 0 1 (.t 1))⟩,
   ⟨(some 35), (some (33, true)), (.load1 (.t 34))⟩,
   ⟨(some 36), (some (33, true)), (.bin .eql .num (.t 35) (.c (.int .i64 4)))⟩,
   ⟨(some 37), (some (33, true)), (.mv (.t 36))⟩,
   ⟨(some 38), (some (37, false)), (.fieldAddr 5 1 (.t 1))⟩,
   ⟨(some 39), (some (37, false)), (.load1 (.t 38))⟩,
   ⟨(some 40), (some (37, false)), (.len (.t 39))⟩,
   ⟨(some 41), (some (37, false)), (.bin .eql .num (.t 40) (.c (.int .i64 0)))⟩,
   ⟨(some 42), (some (33, true)), (.pick (.t 37) (.c (.bool true)) (.t 41))⟩,
   ⟨some 43, none, (.pick (.t 33) (.t 42) (.c (.bool false)))⟩,
   zm 44 43,
   ⟨(some 45), (some (44, true)), (.fieldAddr 0 1 (.t 1))⟩,
   ⟨(some 46), (some (44, true)), (.load1 (.t 45))⟩,
   ⟨(some 47), (some (44, true)), (.bin .eql .num (.t 46) (.c (.int .i64 4)))⟩,
   ⟨(some 48), (some (44, true)), (.mv (.t 47))⟩,
   ⟨(some 49), (some (48, false)), (.fieldAddr 0 1 (.t 1))⟩,
   ⟨(some 50), (some (48, false)), (.load1 (.t 49))⟩,
   ⟨(some 51), (some (48, false)), (.bin .eql .num (.t 50) (.c (.int .i64 5)))⟩,
   ⟨(some 52), (some (44, true)), (.pick (.t 48) (.c (.bool true)) (.t 51))⟩,
   ⟨(some 53), (some (44, true)), (.mv (.t 52))⟩,
   ⟨(some 54), (some (53, false)), (.fieldAddr 4 1 (.t 1))⟩,
   ⟨(some 55), (some (53, false)), (.load1 (.t 54))⟩,
   ⟨(some 56), (some (53, false)), (.len (.t 55))⟩,
   ⟨(some 57), (some (53, false)), (.bin .eql .num (.t 56) (.c (.int .i64 0)))⟩,
   ⟨(some 58), (some (44, true)), (.pick (.t 53) (.c (.bool true)) (.t 57))⟩,
   ⟨some 59, none, (.pick (.t 44) (.t 58) (.c (.bool false)))⟩,
   zm 60 59,
   ⟨(some 61), (some (60, true)), (.fieldAddr 0 1 (.t 1))⟩,
   ⟨(some 62), (some (60, true)), (.load1 (.t 61))⟩,
   ⟨(some 63), (some (60, true)), (.bin .eql .num (.t 62) (.c (.int .i64 5)))⟩,
   ⟨(some 64), (some (60, true)), (.mv (.t 63))⟩,
   ⟨(some 65), (some (64, false)), (.fieldAddr 6 1 (.t 1))⟩,
   ⟨(some 66), (some (64, false)), (.load1 (.t 65))⟩,
   ⟨(some 67), (some (64, false)), (.bin .eql .num (.t 66) (.c (.int .u64 0)))⟩,
   ⟨(some 68), (some (60, true)), (.pick (.t 64) (.c (.bool true)) (.t 67))⟩,
   ⟨some 69, none, (.pick (.t 60) (.t 68) (.c (.bool false)))⟩,
   zm 70 69,
   ⟨(some 71), (some (70, true)), (.mv (.t 4))⟩,
   ⟨(some 72), (some (70, true)), (.mv (.t 71))⟩,
   ⟨(some 73), (some (72, false)), (.fieldAddr 7 1 (.t 1))⟩,
   ⟨(some 74), (some (72, false)), (.load1 (.t 73))⟩,
   ⟨(some 75), (some (72, false)), (.bin .eql .num (.t 74) (.c (.int .i64 0)))⟩,
   ⟨(some 76), (some (72, false)), (.mv (.t 75))⟩,
   ⟨(some 77), (some (76, true)), (.fieldAddr 8 1 (.t 1))⟩,
   ⟨(some 78), (some (76, true)), (.load1 (.t 77))⟩,
   ⟨(some 79), (some (76, true)), (.bin .eql .num (.t 78) (.c (.int .i64 0)))⟩,
   ⟨(some 80), (some (72, false)), (.pick (.t 76) (.t 79) (.c (.bool false)))⟩,
   ⟨(some 81), (some (72, false)), (.mv (.t 80))⟩,
   ⟨(some 82), (some (81, true)), (.fieldAddr 9 1 (.t 1))⟩,
   ⟨(some 83), (some (81, true)), (.load1 (.t 82))⟩,
   ⟨(some 84), (some (81, true)), (.len (.t 83))⟩,
   ⟨(some 85), (some (81, true)), (.bin .eql .num (.t 84) (.c (.int .i64 0)))⟩,
   ⟨(some 86), (some (72, false)), (.pick (.t 81) (.t 85) (.c (.bool false)))⟩,
   ⟨(some 87), (some (70, true)), (.pick (.t 72) (.c (.bool true)) (.t 86))⟩,
   ⟨some 88, none, (.pick (.t 70) (.t 87) (.c (.bool false)))⟩,
   zm 89 88,
   ⟨(some 90), (some (89, true)), (.mv (.t 4))⟩,
   ⟨(some 91), (some (89, true)), (.un .not (.t 90))⟩,
   ⟨(some 92), (some (89, true)), (.mv (.t 91))⟩,
   ⟨(some 93), (some (92, false)), (.fieldAddr 1 1 (.t 1))⟩,
   ⟨(some 94), (some (92, false)), (.load1 (.t 93))⟩,
   ⟨(some 95), (some (92, false)), (.bin .eql .num (.t 94) (.c (.int .u32 0)))⟩,
   ⟨(some 96), (some (89, true)), (.pick (.t 92) (.c (.bool true)) (.t 95))⟩,
   ⟨some 97, none, (.pick (.t 89) (.t 96) (.c (.bool false)))⟩,
   zm 2 97]) .ret))))⟩
theorem caf280 : cFunc Tryz.prog Tryz.f280 = some af280 := by kernel_rfl
def af284_l0 : AC :=
 (.seq
 (.reg [zb 12 .lss 11 10])
 (.seq
 (.cond (.t 12) .skip (.exit 0))
 (.seq
 (.block 1
 (.seq
 (.reg [zm 13 11,
   za 14 1 9 11,
   zl 15 14,
   zm 5 13,
   zm 6 15])
 (.seq
 (.seq
 (.reg [zm 16 5,
   zm 17 1,
   zs 18 17,
   zb 19 .geq 16 18])
 (.cond (.t 19)
 (.seq
 (.reg [zk 4 1]) .ret) .skip))
 (.seq
 (.reg [zm 20 1,
   zm 21 5,
   za 22 1 20 21,
   zl 23 22,
   zm 7 23])
 (.seq
 (.reg [zm 24 6,
   zm 25 7,
   zc 26 186 [(.t 24), (.t 25)],
   zm 8 26])
 (.seq
 (.reg [zm 27 8,
   zd 28 .neq 27 0])
 (.cond (.t 28)
 (.seq
 (.reg [zm 29 8,
   zm 4 29]) .ret) .skip)))))))
 (.reg [zd 30 .add 11 1,
   zm 11 30]))))
/-- slices.Compare[[]int,int] -/
def af284 : AFunc := ⟨36, [(.tmp 4)],
 (.seq
 (.reg [zk 4 0])
 (.seq
 (.seq
 (.reg [zm 9 0,
   zs 10 9,
   zk 11 0])
 (.block 0
 (.loop af284_l0)))
 (.seq
 (.seq
 (.reg [zm 31 0,
   zs 32 31,
   zm 33 1,
   zs 34 33,
   zb 35 .lss 32 34])
 (.cond (.t 35)
 (.seq
 (.reg [⟨some 4, none, (.mv (.c (.int .i64 (-1))))⟩]) .ret) .skip))
 (.seq
 (.reg [zk 4 0]) .ret))))⟩
theorem caf284 : cFunc Tryz.prog Tryz.f284 = some af284 := by kernel_rfl
def apL : List (Nat × AFunc) := [(3, af3), (11, af11), (12, af12), (13, af13), (14, af14), (15, af15), (16, af16), (17, af17), (18, af18), (19, af19), (20, af20), (21, af21), (22, af22), (23, af23), (25, af25), (26, af26), (30, af30), (31, af31), (32, af32), (33, af33), (34, af34), (35, af35), (36, af36), (37, af37), (38, af38), (39, af39), (40, af40), (41, af41), (42, af42), (43, af43), (44, af44), (45, af45), (46, af46), (47, af47), (48, af48), (49, af49), (51, af51), (52, af52), (53, af53), (54, af54), (55, af55), (56, af56), (57, af57), (58, af58), (59, af59), (60, af60), (62, af62), (63, af63), (64, af64), (65, af65), (66, af66), (67, af67), (68, af68), (69, af69), (70, af70), (71, af71), (72, af72), (73, af73), (74, af74), (75, af75), (76, af76), (77, af77), (78, af78), (79, af79), (80, af80), (81, af81), (82, af82), (83, af83), (84, af84), (86, af86), (87, af87), (90, af90), (91, af91), (94, af94), (95, af95), (96, af96), (97, af97), (98, af98), (99, af99), (100, af100), (101, af101), (102, af102), (103, af103), (104, af104), (105, af105), (106, af106), (107, af107), (108, af108), (109, af109), (112, af112), (114, af114), (115, af115), (116, af116), (117, af117), (118, af118), (119, af119), (120, af120), (121, af121), (122, af122), (123, af123), (124, af124), (125, af125), (126, af126), (127, af127), (128, af128), (129, af129), (130, af130), (131, af131), (133, af133), (134, af134), (135, af135), (136, af136), (138, af138), (139, af139), (140, af140), (141, af141), (142, af142), (149, af149), (152, af152), (153, af153), (154, af154), (155, af155), (156, af156), (157, af157), (158, af158), (159, af159), (160, af160), (161, af161), (163, af163), (164, af164), (166, af166), (167, af167), (168, af168), (169, af169), (170, af170), (171, af171), (172, af172), (173, af173), (174, af174), (175, af175), (176, af176), (177, af177), (178, af178), (179, af179), (180, af180), (181, af181), (184, af184), (185, af185), (186, af186), (187, af187), (189, af189), (190, af190), (191, af191), (192, af192), (201, af201), (204, af204), (205, af205), (206, af206), (207, af207), (208, af208), (209, af209), (210, af210), (211, af211), (212, af212), (213, af213), (214, af214), (215, af215), (216, af216), (217, af217), (218, af218), (219, af219), (220, af220), (222, af222), (225, af225), (234, af234), (250, af250), (251, af251), (258, af258), (259, af259), (260, af260), (261, af261), (262, af262), (263, af263), (264, af264), (265, af265), (279, af279), (280, af280), (284, af284)]
theorem apAll : AllAP Tryz.prog apL := ⟨⟨_, Tryz.func3, caf3⟩, ⟨_, Tryz.func11, caf11⟩, ⟨_, Tryz.func12, caf12⟩, ⟨_, Tryz.func13, caf13⟩, ⟨_, Tryz.func14, caf14⟩, ⟨_, Tryz.func15, caf15⟩, ⟨_, Tryz.func16, caf16⟩, ⟨_, Tryz.func17, caf17⟩, ⟨_, Tryz.func18, caf18⟩, ⟨_, Tryz.func19, caf19⟩, ⟨_, Tryz.func20, caf20⟩, ⟨_, Tryz.func21, caf21⟩, ⟨_, Tryz.func22, caf22⟩, ⟨_, Tryz.func23, caf23⟩, ⟨_, Tryz.func25, caf25⟩, ⟨_, Tryz.func26, caf26⟩, ⟨_, Tryz.func30, caf30⟩, ⟨_, Tryz.func31, caf31⟩, ⟨_, Tryz.func32, caf32⟩, ⟨_, Tryz.func33, caf33⟩, ⟨_, Tryz.func34, caf34⟩, ⟨_, Tryz.func35, caf35⟩, ⟨_, Tryz.func36, caf36⟩, ⟨_, Tryz.func37, caf37⟩, ⟨_, Tryz.func38, caf38⟩, ⟨_, Tryz.func39, caf39⟩, ⟨_, Tryz.func40, caf40⟩, ⟨_, Tryz.func41, caf41⟩, ⟨_, Tryz.func42, caf42⟩, ⟨_, Tryz.func43, caf43⟩, ⟨_, Tryz.func44, caf44⟩, ⟨_, Tryz.func45, caf45⟩, ⟨_, Tryz.func46, caf46⟩, ⟨_, Tryz.func47, caf47⟩, ⟨_, Tryz.func48, caf48⟩, ⟨_, Tryz.func49, caf49⟩, ⟨_, Tryz.func51, caf51⟩, ⟨_, Tryz.func52, caf52⟩, ⟨_, Tryz.func53, caf53⟩, ⟨_, Tryz.func54, caf54⟩, ⟨_, Tryz.func55, caf55⟩, ⟨_, Tryz.func56, caf56⟩, ⟨_, Tryz.func57, caf57⟩, ⟨_, Tryz.func58, caf58⟩, ⟨_, Tryz.func59, caf59⟩, ⟨_, Tryz.func60, caf60⟩, ⟨_, Tryz.func62, caf62⟩, ⟨_, Tryz.func63, caf63⟩, ⟨_, Tryz.func64, caf64⟩, ⟨_, Tryz.func65, caf65⟩, ⟨_, Tryz.func66, caf66⟩, ⟨_, Tryz.func67, caf67⟩, ⟨_, Tryz.func68, caf68⟩, ⟨_, Tryz.func69, caf69⟩, ⟨_, Tryz.func70, caf70⟩, ⟨_, Tryz.func71, caf71⟩, ⟨_, Tryz.func72, caf72⟩, ⟨_, Tryz.func73, caf73⟩, ⟨_, Tryz.func74, caf74⟩, ⟨_, Tryz.func75, caf75⟩, ⟨_, Tryz.func76, caf76⟩, ⟨_, Tryz.func77, caf77⟩, ⟨_, Tryz.func78, caf78⟩, ⟨_, Tryz.func79, caf79⟩, ⟨_, Tryz.func80, caf80⟩, ⟨_, Tryz.func81, caf81⟩, ⟨_, Tryz.func82, caf82⟩, ⟨_, Tryz.func83, caf83⟩, ⟨_, Tryz.func84, caf84⟩, ⟨_, Tryz.func86, caf86⟩, ⟨_, Tryz.func87, caf87⟩, ⟨_, Tryz.func90, caf90⟩, ⟨_, Tryz.func91, caf91⟩, ⟨_, Tryz.func94, caf94⟩, ⟨_, Tryz.func95, caf95⟩, ⟨_, Tryz.func96, caf96⟩, ⟨_, Tryz.func97, caf97⟩, ⟨_, Tryz.func98, caf98⟩, ⟨_, Tryz.func99, caf99⟩, ⟨_, Tryz.func100, caf100⟩, ⟨_, Tryz.func101, caf101⟩, ⟨_, Tryz.func102, caf102⟩, ⟨_, Tryz.func103, caf103⟩, ⟨_, Tryz.func104, caf104⟩, ⟨_, Tryz.func105, caf105⟩, ⟨_, Tryz.func106, caf106⟩, ⟨_, Tryz.func107, caf107⟩, ⟨_, Tryz.func108, caf108⟩, ⟨_, Tryz.func109, caf109⟩, ⟨_, Tryz.func112, caf112⟩, ⟨_, Tryz.func114, caf114⟩, ⟨_, Tryz.func115, caf115⟩, ⟨_, Tryz.func116, caf116⟩, ⟨_, Tryz.func117, caf117⟩, ⟨_, Tryz.func118, caf118⟩, ⟨_, Tryz.func119, caf119⟩, ⟨_, Tryz.func120, caf120⟩, ⟨_, Tryz.func121, caf121⟩, ⟨_, Tryz.func122, caf122⟩, ⟨_, Tryz.func123, caf123⟩, ⟨_, Tryz.func124, caf124⟩, ⟨_, Tryz.func125, caf125⟩, ⟨_, Tryz.func126, caf126⟩, ⟨_, Tryz.func127, caf127⟩, ⟨_, Tryz.func128, caf128⟩, ⟨_, Tryz.func129, caf129⟩, ⟨_, Tryz.func130, caf130⟩, ⟨_, Tryz.func131, caf131⟩, ⟨_, Tryz.func133, caf133⟩, ⟨_, Tryz.func134, caf134⟩, ⟨_, Tryz.func135, caf135⟩, ⟨_, Tryz.func136, caf136⟩, ⟨_, Tryz.func138, caf138⟩, ⟨_, Tryz.func139, caf139⟩, ⟨_, Tryz.func140, caf140⟩, ⟨_, Tryz.func141, caf141⟩, ⟨_, Tryz.func142, caf142⟩, ⟨_, Tryz.func149, caf149⟩, ⟨_, Tryz.func152, caf152⟩, ⟨_, Tryz.func153, caf153⟩, ⟨_, Tryz.func154, caf154⟩, ⟨_, Tryz.func155, caf155⟩, ⟨_, Tryz.func156, caf156⟩, ⟨_, Tryz.func157, caf157⟩, ⟨_, Tryz.func158, caf158⟩, ⟨_, Tryz.func159, caf159⟩, ⟨_, Tryz.func160, caf160⟩, ⟨_, Tryz.func161, caf161⟩, ⟨_, Tryz.func163, caf163⟩, ⟨_, Tryz.func164, caf164⟩, ⟨_, Tryz.func166, caf166⟩, ⟨_, Tryz.func167, caf167⟩, ⟨_, Tryz.func168, caf168⟩, ⟨_, Tryz.func169, caf169⟩, ⟨_, Tryz.func170, caf170⟩, ⟨_, Tryz.func171, caf171⟩, ⟨_, Tryz.func172, caf172⟩, ⟨_, Tryz.func173, caf173⟩, ⟨_, Tryz.func174, caf174⟩, ⟨_, Tryz.func175, caf175⟩, ⟨_, Tryz.func176, caf176⟩, ⟨_, Tryz.func177, caf177⟩, ⟨_, Tryz.func178, caf178⟩, ⟨_, Tryz.func179, caf179⟩, ⟨_, Tryz.func180, caf180⟩, ⟨_, Tryz.func181, caf181⟩, ⟨_, Tryz.func184, caf184⟩, ⟨_, Tryz.func185, caf185⟩, ⟨_, Tryz.func186, caf186⟩, ⟨_, Tryz.func187, caf187⟩, ⟨_, Tryz.func189, caf189⟩, ⟨_, Tryz.func190, caf190⟩, ⟨_, Tryz.func191, caf191⟩, ⟨_, Tryz.func192, caf192⟩, ⟨_, Tryz.func201, caf201⟩, ⟨_, Tryz.func204, caf204⟩, ⟨_, Tryz.func205, caf205⟩, ⟨_, Tryz.func206, caf206⟩, ⟨_, Tryz.func207, caf207⟩, ⟨_, Tryz.func208, caf208⟩, ⟨_, Tryz.func209, caf209⟩, ⟨_, Tryz.func210, caf210⟩, ⟨_, Tryz.func211, caf211⟩, ⟨_, Tryz.func212, caf212⟩, ⟨_, Tryz.func213, caf213⟩, ⟨_, Tryz.func214, caf214⟩, ⟨_, Tryz.func215, caf215⟩, ⟨_, Tryz.func216, caf216⟩, ⟨_, Tryz.func217, caf217⟩, ⟨_, Tryz.func218, caf218⟩, ⟨_, Tryz.func219, caf219⟩, ⟨_, Tryz.func220, caf220⟩, ⟨_, Tryz.func222, caf222⟩, ⟨_, Tryz.func225, caf225⟩, ⟨_, Tryz.func234, caf234⟩, ⟨_, Tryz.func250, caf250⟩, ⟨_, Tryz.func251, caf251⟩, ⟨_, Tryz.func258, caf258⟩, ⟨_, Tryz.func259, caf259⟩, ⟨_, Tryz.func260, caf260⟩, ⟨_, Tryz.func261, caf261⟩, ⟨_, Tryz.func262, caf262⟩, ⟨_, Tryz.func263, caf263⟩, ⟨_, Tryz.func264, caf264⟩, ⟨_, Tryz.func265, caf265⟩, ⟨_, Tryz.func279, caf279⟩, ⟨_, Tryz.func280, caf280⟩, ⟨_, Tryz.func284, caf284⟩, trivial⟩
noncomputable def apT : Tr AFunc := treeOf apL
noncomputable def AP : Nat → Option AFunc := fun f => apT.getK f
theorem apOk : APOk Tryz.prog AP := apOk_of apAll
theorem mixed : Tryz.prog.follows .mixedOrders = true := by kernel_rfl
end Go.Proofs.YtidhpcjbllnjgaaGreatA
