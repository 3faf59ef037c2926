/- FnExactPlayHand: the statement, from the law of the abstract run. No condition. -/
import Derived.Test.YtgfclcpnefinoaaHCExactPlayHand3
import Derived.Test.YtgfclcpnefinoaaB6
import Derived.Test.YtgfclcpnefinoaaZ7
import Derived.Test.YtgfclcpnefinoaaProg
import Derived.Test.YtgfclcpnefinoaaRows
import Derived.ProofKit
import Derived.OpenShut
import Derived.ShutString
import Derived.ChangeOld
import Derived.Below
import Derived.SizedLaws
namespace Go.Proofs.Ytgfclcpnefinoaa.A.ExactPlayHand
open Go
def c : CC where
  T := [(3, ⟨1, 8, false, some [.int .i64 0], (.int .i64)⟩),
    (22, ⟨1, 8, false, some [.int .u64 0], (.int .u64)⟩),
    (24, ⟨5, 40, true, some [.int .u64 0, .int .i64 0, .int .i64 0, .int .i64 0, .int .i64 0], (.struct [(0, 1, false), (1, 1, false), (2, 1, false), (3, 1, false), (4, 1, false)])⟩),
    (25, ⟨1, 24, false, some [.nil], (.slice 89 20)⟩),
    (27, ⟨3, 40, true, some [.int .i64 0, .int .i64 0, .nil], (.struct [(0, 1, false), (1, 1, false), (2, 1, false)])⟩),
    (28, ⟨1, 24, false, some [.nil], (.slice 3 15)⟩),
    (30, ⟨5, 40, true, some [.int .u64 0, .int .i64 0, .int .i64 0, .int .i64 0, .int .i64 0], (.struct [(0, 1, false), (1, 1, false), (2, 1, false), (3, 1, false), (4, 1, false)])⟩),
    (31, ⟨1, 24, false, some [.nil], (.slice 58 16)⟩),
    (33, ⟨3, 40, true, some [.int .i64 0, .int .i64 0, .nil], (.struct [(0, 1, false), (1, 1, false), (2, 1, false)])⟩),
    (52, ⟨1, 24, false, some [.nil], (.slice 60 22)⟩),
    (53, ⟨1, 24, false, some [.nil], (.slice 75 11)⟩),
    (55, ⟨1, 24, true, some [.nil], (.struct [(0, 1, false)])⟩),
    (56, ⟨1, 24, false, some [.nil], (.slice 78 9)⟩),
    (58, ⟨6, 80, true, some [.int .u64 0, .int .u64 0, .int .i64 0, .int .i64 0, .nil, .nil], (.struct [(0, 1, false), (1, 1, false), (2, 1, false), (3, 1, false), (4, 1, true), (5, 1, false)])⟩),
    (60, ⟨10, 112, true, some [.int .i64 0, .int .u64 0, .int .i64 0, .int .i64 0, .int .u64 0, .int .u64 0, .int .i64 0, .int .i64 0, .nil, .nil], (.struct [(0, 1, false), (1, 1, false), (2, 1, false), (3, 1, false), (4, 6, true)])⟩),
    (75, ⟨5, 40, true, some [.int .u64 0, .int .u64 0, .int .u64 0, .int .u64 0, .int .i64 0], (.struct [(0, 1, false), (1, 1, false), (2, 1, false), (3, 1, false), (4, 1, false)])⟩),
    (78, ⟨2, 16, true, some [.int .i64 0, .int .u64 0], (.struct [(0, 1, false), (1, 1, false)])⟩),
    (84, ⟨1, 24, false, some [.nil], (.slice 147 12)⟩),
    (86, ⟨1, 24, true, some [.nil], (.struct [(0, 1, false)])⟩),
    (87, ⟨1, 24, false, some [.nil], (.slice 134 10)⟩),
    (89, ⟨6, 80, true, some [.int .u64 0, .int .u64 0, .int .i64 0, .int .i64 0, .nil, .nil], (.struct [(0, 1, false), (1, 1, false), (2, 1, false), (3, 1, false), (4, 1, true), (5, 1, false)])⟩),
    (134, ⟨2, 16, true, some [.int .i64 0, .int .u64 0], (.struct [(0, 1, false), (1, 1, false)])⟩),
    (147, ⟨5, 40, true, some [.int .u64 0, .int .u64 0, .int .u64 0, .int .u64 0, .int .i64 0], (.struct [(0, 1, false), (1, 1, false), (2, 1, false), (3, 1, false), (4, 1, false)])⟩)]
  F := [(3, 366), (5, 154), (6, 367), (7, 2), (8, 155), (9, 360), (10, 368), (11, 86), (12, 158), (13, 285), (14, 191), (15, 287), (16, 292), (19, 203), (20, 3), (21, 156), (22, 317), (23, 303), (24, 314), (25, 84), (26, 205), (27, 320), (28, 6), (29, 206), (30, 331), (31, 376), (32, 334), (33, 113), (34, 207), (35, 230), (36, 322), (37, 210), (38, 316), (39, 228), (41, 318), (42, 213), (43, 319), (45, 267), (46, 330), (47, 321), (48, 111), (49, 5), (50, 204), (51, 189), (52, 300), (53, 308), (54, 297), (55, 112), (56, 229), (57, 7), (58, 244), (59, 132), (60, 190), (61, 301), (62, 309), (63, 298), (64, 114), (65, 261), (66, 232), (67, 262), (68, 234), (69, 259), (70, 243), (71, 242), (72, 248), (73, 249), (76, 275), (77, 273), (78, 274), (79, 128), (80, 129), (81, 241), (82, 130), (83, 131), (84, 260), (85, 265), (86, 266), (87, 332), (88, 133), (89, 134), (100, 276), (101, 277), (102, 136), (103, 137), (104, 138), (106, 272), (109, 139), (110, 140), (116, 141), (118, 142)]
  eqT := [(78, [.i .i64, .i .u64])]
  adds := [105]
def F : Nat → Option RF := lk (tI10 ++ tI11 ++ tI13 ++ tI15 ++ tLAccount ++ tLBook ++ tLFin ++ tLHand ++ tLInt ++ tLShard ++ tLStore ++ tLibcmpCompareint ++ tLibcmpCompareuint64 ++ tLibcmpOrint ++ tLibcmpisNaNint ++ tLibcmpisNaNuint64 ++ tLibslicesContainsimplFinimplFin ++ tLibslicesIndexFuncimplShardimplShard ++ tLibslicesIndeximplFinimplFin ++ tS01d ++ tS10 ++ tS13 ++ tS15 ++ tWPlayHand)
def tab : List (Nat × FuncId × RF) := [(366, 3, r366), (154, 5, r154), (367, 6, r367), (2, 7, r2), (155, 8, r155), (360, 9, r360), (368, 10, r368), (86, 11, r86), (158, 12, r158), (285, 13, r285), (191, 14, r191), (287, 15, r287), (292, 16, r292), (203, 19, r203), (3, 20, r3), (156, 21, r156), (317, 22, r317), (303, 23, r303), (314, 24, r314), (84, 25, r84), (205, 26, r205), (320, 27, r320), (6, 28, r6), (206, 29, r206), (331, 30, r331), (334, 32, r334), (113, 33, r113), (207, 34, r207), (230, 35, r230), (322, 36, r322), (111, 48, r111), (5, 49, r5), (204, 50, r204), (228, 39, r228), (189, 51, r189), (300, 52, r300), (308, 53, r308), (297, 54, r297), (112, 55, r112), (229, 56, r229), (7, 57, r7), (244, 58, r244), (132, 59, r132), (190, 60, r190), (301, 61, r301), (309, 62, r309), (298, 63, r298), (114, 64, r114), (261, 65, r261), (232, 66, r232), (262, 67, r262), (234, 68, r234), (128, 79, r128), (129, 80, r129), (243, 70, r243), (242, 71, r242), (241, 81, r241), (259, 69, r259), (210, 37, r210), (316, 38, r316), (318, 41, r318), (130, 82, r130), (131, 83, r131), (260, 84, r260), (267, 45, r267), (265, 85, r265), (266, 86, r266), (213, 42, r213), (319, 43, r319), (321, 47, r321), (133, 88, r133), (134, 89, r134), (136, 102, r136), (137, 103, r137), (138, 104, r138), (275, 76, r275), (273, 77, r273), (274, 78, r274), (272, 106, r272), (248, 72, r248), (249, 73, r249), (139, 109, r139), (140, 110, r140), (141, 116, r141), (276, 100, r276), (277, 101, r277), (142, 118, r142)]
def tags : List (Nat × TypeId × Nat) := [(9, 78, 2), (10, 134, 2), (11, 75, 5), (12, 147, 5), (15, 3, 1), (16, 58, 6), (20, 89, 6), (22, 60, 10)]
open Go.Shelf
def ptab : List (Nat × FuncId × PrimF) := [(376, 31, (delF 22)), (330, 46, (delF 16)), (332, 87, (insF 16 80))]
theorem i60 : (Try.prog.info? 60).isSome = true := by kernel_rfl
noncomputable def inf60 : TypeInfo := (Try.prog.info? 60).get i60
theorem z60 : inf60.zero.isSome = true := by kernel_rfl
noncomputable def zv60 : Value := inf60.zero.get z60
theorem p376 : Z.DelT Try.prog (renD 31 3 4 60 52) 10 zv60 where
  mixed := by kernel_rfl
  f45 := ⟨(Try.prog.funcs[31]?.map (·.name)).getD "", by kernel_rfl, by kernel_rfl⟩
  t3 := by kernel_rfl
  t4 := by kernel_rfl
  t22 := by kernel_rfl
  i23 := ⟨inf60, (Option.some_get i60).symm, by kernel_rfl, by kernel_rfl, by decide, (Option.some_get z60).symm, List.all_eq_true.1 (show (zv60.cells.toList.all (·.oneCell')) = true from by kernel_rfl)⟩
theorem i58 : (Try.prog.info? 58).isSome = true := by kernel_rfl
noncomputable def inf58 : TypeInfo := (Try.prog.info? 58).get i58
theorem z58 : inf58.zero.isSome = true := by kernel_rfl
noncomputable def zv58 : Value := inf58.zero.get z58
theorem p330 : Z.DelT Try.prog (renD 46 3 4 58 31) 6 zv58 where
  mixed := by kernel_rfl
  f45 := ⟨(Try.prog.funcs[46]?.map (·.name)).getD "", by kernel_rfl, by kernel_rfl⟩
  t3 := by kernel_rfl
  t4 := by kernel_rfl
  t22 := by kernel_rfl
  i23 := ⟨inf58, (Option.some_get i58).symm, by kernel_rfl, by kernel_rfl, by decide, (Option.some_get z58).symm, List.all_eq_true.1 (show (zv58.cells.toList.all (·.oneCell')) = true from by kernel_rfl)⟩
theorem p332 : Z.InsT Try.prog (renI 87 107 108 3 4 58 31) 6 80 zv58 where
  mixed := by kernel_rfl
  f22 := ⟨(Try.prog.funcs[87]?.map (·.name)).getD "", by kernel_rfl, by kernel_rfl⟩
  f29 := ⟨Try.f107, Try.func107, by kernel_rfl, by kernel_rfl, by kernel_rfl, by kernel_rfl⟩
  t3 := by kernel_rfl
  t4 := by kernel_rfl
  t24 := by kernel_rfl
  i9 := ⟨inf58, (Option.some_get i58).symm, by kernel_rfl, by kernel_rfl, (Option.some_get z58).symm, by kernel_rfl, by decide⟩
theorem ok366 : FnOk Try.prog c F (366, 3, r366) := ⟨Try.f3, [], [[13, 14, 15, 6, 0, 2, 4, 1, 3, 5, 7, 8, 9, 10, 11, 12, 16, 17, 18], [0, 1, 2, 3, 4, 5, 6, 7, 8, 9, 10, 13, 14, 15, 16, 11, 17, 12, 18], [], [], [10, 11, 12, 4, 0, 2, 3, 1, 5, 6, 7, 8, 9, 13, 14, 15], [0, 1, 2, 3, 4, 5, 6, 7, 10, 11, 12, 13, 8, 14, 9, 15], [], [], [0, 1, 2, 3, 4], [0, 1, 2, 3, 4], [], [], [0, 1, 2, 3, 4], [0, 1, 2, 3, 4], [], [], [13, 14, 15, 6, 0, 2, 4, 1, 3, 5, 7, 8, 9, 10, 11, 12, 16, 17, 18], [0, 1, 2, 3, 4, 5, 6, 7, 8, 9, 10, 13, 14, 15, 16, 11, 17, 12, 18], [], []], Try.func3, by kernel_rfl, by kernel_rfl, by kernel_rfl⟩
theorem ok154 : FnOk Try.prog c F (154, 5, r154) := ⟨Try.f5, [], [], Try.func5, by kernel_rfl, by kernel_rfl, by kernel_rfl⟩
theorem ok367 : FnOk Try.prog c F (367, 6, r367) := ⟨Try.f6, [], [[0, 1, 3, 2, 4, 5, 6, 7], [0, 1, 2, 3, 4, 5, 6, 7], [], [], [4, 5, 0, 2, 1, 3, 6, 7], [0, 1, 2, 3, 4, 5, 6, 7], [], [], [3, 4, 8, 9, 10, 11, 12, 13, 14], [3, 4, 8, 9, 10, 11, 12, 13, 14, 17, 18, 19, 20], [0, 1, 2, 3, 4, 5], [0, 3, 1, 4, 2, 5], [8, 9], []], Try.func6, by kernel_rfl, by kernel_rfl, by kernel_rfl⟩
theorem ok2 : FnOk Try.prog c F (2, 7, r2) := ⟨Try.f7, [], [], Try.func7, by kernel_rfl, by kernel_rfl, by kernel_rfl⟩
theorem ok155 : FnOk Try.prog c F (155, 8, r155) := ⟨Try.f8, [], [], Try.func8, by kernel_rfl, by kernel_rfl, by kernel_rfl⟩
theorem ok360 : FnOk Try.prog c F (360, 9, r360) := ⟨Try.f9, [], [[0, 3, 4]], Try.func9, by kernel_rfl, by kernel_rfl, by kernel_rfl⟩
theorem ok368 : FnOk Try.prog c F (368, 10, r368) := ⟨Try.f10, [5, 6], [[0, 1, 2, 3, 4, 5], [0, 3, 1, 4, 2, 5], [8, 9], [], [4, 5, 6, 8, 9, 10, 11, 61, 62, 63], [8, 0, 1, 2, 3, 4, 5, 6, 7, 9, 10], [0, 1, 2, 3, 4, 5, 6, 8, 9, 7, 10], [], [], [0, 1, 2, 3, 4, 5], [0, 3, 1, 4, 2, 5], [8, 9], []], Try.func10, by kernel_rfl, by kernel_rfl, by kernel_rfl⟩
theorem ok86 : FnOk Try.prog c F (86, 11, r86) := ⟨Try.f11, [], [], Try.func11, by kernel_rfl, by kernel_rfl, by kernel_rfl⟩
theorem ok158 : FnOk Try.prog c F (158, 12, r158) := ⟨Try.f12, [], [], Try.func12, by kernel_rfl, by kernel_rfl, by kernel_rfl⟩
theorem ok285 : FnOk Try.prog c F (285, 13, r285) := ⟨Try.f13, [], [[0, 1, 5], [0, 1, 2, 4, 5, 6, 3, 7, 8], [0, 1, 2, 3, 4, 5, 6, 7, 8], [], []], Try.func13, by kernel_rfl, by kernel_rfl, by kernel_rfl⟩
theorem ok191 : FnOk Try.prog c F (191, 14, r191) := ⟨Try.f14, [], [], Try.func14, by kernel_rfl, by kernel_rfl, by kernel_rfl⟩
theorem ok287 : FnOk Try.prog c F (287, 15, r287) := ⟨Try.f15, [], [[0, 1, 5]], Try.func15, by kernel_rfl, by kernel_rfl, by kernel_rfl⟩
theorem ok292 : FnOk Try.prog c F (292, 16, r292) := ⟨Try.f16, [], [], Try.func16, by kernel_rfl, by kernel_rfl, by kernel_rfl⟩
theorem ok203 : FnOk Try.prog c F (203, 19, r203) := ⟨Try.f19, [], [[0, 1, 5]], Try.func19, by kernel_rfl, by kernel_rfl, by kernel_rfl⟩
theorem ok3 : FnOk Try.prog c F (3, 20, r3) := ⟨Try.f20, [], [], Try.func20, by kernel_rfl, by kernel_rfl, by kernel_rfl⟩
theorem ok156 : FnOk Try.prog c F (156, 21, r156) := ⟨Try.f21, [], [[1, 3], [0, 1, 2, 3, 4, 5, 6, 7, 8, 9, 10, 11, 12, 13, 16, 17, 14, 15, 18, 19, 20, 21, 22, 23, 24, 25], [0, 1, 2, 3, 4, 5, 6, 7, 8, 9, 10, 11, 12, 13, 14, 15, 16, 17, 18, 19, 20, 21, 22, 23, 24, 25], [], []], Try.func21, by kernel_rfl, by kernel_rfl, by kernel_rfl⟩
theorem ok317 : FnOk Try.prog c F (317, 22, r317) := ⟨Try.f22, [], [[1, 2, 3, 4], [4, 0, 1, 2, 3, 5, 6, 7, 8, 9, 10, 11], [0, 1, 2, 3, 4, 5, 6, 7, 8, 9, 10, 11], [], []], Try.func22, by kernel_rfl, by kernel_rfl, by kernel_rfl⟩
theorem ok303 : FnOk Try.prog c F (303, 23, r303) := ⟨Try.f23, [], [], Try.func23, by kernel_rfl, by kernel_rfl, by kernel_rfl⟩
theorem ok314 : FnOk Try.prog c F (314, 24, r314) := ⟨Try.f24, [], [], Try.func24, by kernel_rfl, by kernel_rfl, by kernel_rfl⟩
theorem ok84 : FnOk Try.prog c F (84, 25, r84) := ⟨Try.f25, [], [], Try.func25, by kernel_rfl, by kernel_rfl, by kernel_rfl⟩
theorem ok205 : FnOk Try.prog c F (205, 26, r205) := ⟨Try.f26, [], [[0, 3, 4]], Try.func26, by kernel_rfl, by kernel_rfl, by kernel_rfl⟩
theorem ok320 : FnOk Try.prog c F (320, 27, r320) := ⟨Try.f27, [], [[2, 3, 12, 13, 14], [0, 1, 2, 3, 4, 5, 6, 7], [0, 1, 2, 3, 4, 5, 6, 7], [], []], Try.func27, by kernel_rfl, by kernel_rfl, by kernel_rfl⟩
theorem ok6 : FnOk Try.prog c F (6, 28, r6) := ⟨Try.f28, [], [], Try.func28, by kernel_rfl, by kernel_rfl, by kernel_rfl⟩
theorem ok206 : FnOk Try.prog c F (206, 29, r206) := ⟨Try.f29, [], [[1, 26, 27, 28], [0, 1, 2, 3, 4, 5, 6, 7, 8, 9, 10, 11, 12, 13, 16, 17, 14, 15, 18, 19, 20, 21, 22, 23, 24, 25], [0, 1, 2, 3, 4, 5, 6, 7, 8, 9, 10, 11, 12, 13, 14, 15, 16, 17, 18, 19, 20, 21, 22, 23, 24, 25], [], []], Try.func29, by kernel_rfl, by kernel_rfl, by kernel_rfl⟩
theorem ok331 : FnOk Try.prog c F (331, 30, r331) := ⟨Try.f30, [], [[9, 0, 1, 2, 3, 4, 5, 6, 7, 8, 10], [0, 1, 2, 3, 4, 5, 6, 7, 8, 9, 10], [], []], Try.func30, by kernel_rfl, by kernel_rfl, by kernel_rfl⟩
theorem ok334 : FnOk Try.prog c F (334, 32, r334) := ⟨Try.f32, [], [], Try.func32, by kernel_rfl, by kernel_rfl, by kernel_rfl⟩
theorem ok113 : FnOk Try.prog c F (113, 33, r113) := ⟨Try.f33, [], [[0, 1, 2, 3, 4, 5, 6, 7, 8, 9, 10, 11, 12, 13, 14, 15, 16, 17, 18, 19, 20, 21, 22, 23, 24, 25, 26, 27, 28], [0, 1, 2, 3, 4, 5, 6, 7, 8, 9, 10, 11, 12, 13, 14, 15, 16, 17, 18, 19, 20, 21, 22, 23, 24, 25, 26, 27, 28], [], []], Try.func33, by kernel_rfl, by kernel_rfl, by kernel_rfl⟩
theorem ok207 : FnOk Try.prog c F (207, 34, r207) := ⟨Try.f34, [], [[0, 1, 5], [0, 1, 2, 4, 5, 6, 3, 7, 8, 9], [0, 1, 2, 3, 4, 5, 6, 7, 8, 9], [], []], Try.func34, by kernel_rfl, by kernel_rfl, by kernel_rfl⟩
theorem ok230 : FnOk Try.prog c F (230, 35, r230) := ⟨Try.f35, [], [[0, 1, 5]], Try.func35, by kernel_rfl, by kernel_rfl, by kernel_rfl⟩
theorem ok322 : FnOk Try.prog c F (322, 36, r322) := ⟨Try.f36, [], [[0, 1, 5]], Try.func36, by kernel_rfl, by kernel_rfl, by kernel_rfl⟩
theorem ok111 : FnOk Try.prog c F (111, 48, r111) := ⟨Try.f48, [], [], Try.func48, by kernel_rfl, by kernel_rfl, by kernel_rfl⟩
theorem ok5 : FnOk Try.prog c F (5, 49, r5) := ⟨Try.f49, [], [], Try.func49, by kernel_rfl, by kernel_rfl, by kernel_rfl⟩
theorem ok204 : FnOk Try.prog c F (204, 50, r204) := ⟨Try.f50, [], [[1, 3], [0, 1, 2, 3, 4, 5, 6, 7, 8, 9, 10, 11, 12, 13, 14, 15, 16, 17, 18, 19, 20, 23, 24, 21, 22, 25, 26, 27, 28, 29, 30, 31], [0, 1, 2, 3, 4, 5, 6, 7, 8, 9, 10, 11, 12, 13, 14, 15, 16, 17, 18, 19, 20, 21, 22, 23, 24, 25, 26, 27, 28, 29, 30, 31], [], [], [1, 5]], Try.func50, by kernel_rfl, by kernel_rfl, by kernel_rfl⟩
theorem ok228 : FnOk Try.prog c F (228, 39, r228) := ⟨Try.f39, [], [[1, 2, 3, 4]], Try.func39, by kernel_rfl, by kernel_rfl, by kernel_rfl⟩
theorem ok189 : FnOk Try.prog c F (189, 51, r189) := ⟨Try.f51, [], [], Try.func51, by kernel_rfl, by kernel_rfl, by kernel_rfl⟩
theorem ok300 : FnOk Try.prog c F (300, 52, r300) := ⟨Try.f52, [], [], Try.func52, by kernel_rfl, by kernel_rfl, by kernel_rfl⟩
theorem ok308 : FnOk Try.prog c F (308, 53, r308) := ⟨Try.f53, [], [[2, 3, 4, 6, 8], [2, 0, 1, 3, 4, 5, 6, 7, 8, 9, 14, 10, 11, 12, 13, 15, 16, 17, 18, 19], [0, 1, 2, 3, 4, 5, 6, 7, 8, 9, 10, 11, 12, 13, 14, 15, 16, 17, 18, 19], [], [], [2, 3, 6, 9, 10, 11, 12], [0, 1, 2, 5, 3, 4, 6, 7, 8, 9, 10, 11, 12], [0, 1, 2, 3, 4, 5, 6, 7, 8, 9, 10, 11, 12], [], [], [4, 0, 1, 2, 3, 5, 6, 7, 8, 9, 10, 11], [0, 1, 2, 3, 4, 5, 6, 7, 8, 9, 10, 11], [], []], Try.func53, by kernel_rfl, by kernel_rfl, by kernel_rfl⟩
theorem ok297 : FnOk Try.prog c F (297, 54, r297) := ⟨Try.f54, [], [[3, 6, 8, 9, 10], [4, 0, 1, 2, 3, 5, 6, 7, 8, 9, 10, 11], [0, 1, 2, 3, 4, 5, 6, 7, 8, 9, 10, 11], [], []], Try.func54, by kernel_rfl, by kernel_rfl, by kernel_rfl⟩
theorem ok112 : FnOk Try.prog c F (112, 55, r112) := ⟨Try.f55, [], [], Try.func55, by kernel_rfl, by kernel_rfl, by kernel_rfl⟩
theorem ok229 : FnOk Try.prog c F (229, 56, r229) := ⟨Try.f56, [], [], Try.func56, by kernel_rfl, by kernel_rfl, by kernel_rfl⟩
theorem ok7 : FnOk Try.prog c F (7, 57, r7) := ⟨Try.f57, [], [], Try.func57, by kernel_rfl, by kernel_rfl, by kernel_rfl⟩
theorem ok244 : FnOk Try.prog c F (244, 58, r244) := ⟨Try.f58, [], [[1, 46, 47, 48], [1, 76, 77, 78], [0, 1, 2, 3, 4, 5, 6, 7, 8, 9, 10, 11, 12, 13, 14, 15, 16, 17, 18, 19, 20, 23, 24, 21, 22, 25, 26, 27, 28, 29, 30, 31], [0, 1, 2, 3, 4, 5, 6, 7, 8, 9, 10, 11, 12, 13, 14, 15, 16, 17, 18, 19, 20, 21, 22, 23, 24, 25, 26, 27, 28, 29, 30, 31], [], []], Try.func58, by kernel_rfl, by kernel_rfl, by kernel_rfl⟩
theorem ok132 : FnOk Try.prog c F (132, 59, r132) := ⟨Try.f59, [], [], Try.func59, by kernel_rfl, by kernel_rfl, by kernel_rfl⟩
theorem ok190 : FnOk Try.prog c F (190, 60, r190) := ⟨Try.f60, [], [], Try.func60, by kernel_rfl, by kernel_rfl, by kernel_rfl⟩
theorem ok301 : FnOk Try.prog c F (301, 61, r301) := ⟨Try.f61, [], [], Try.func61, by kernel_rfl, by kernel_rfl, by kernel_rfl⟩
theorem ok309 : FnOk Try.prog c F (309, 62, r309) := ⟨Try.f62, [], [[2, 4, 6, 8, 9, 42, 43, 44]], Try.func62, by kernel_rfl, by kernel_rfl, by kernel_rfl⟩
theorem ok298 : FnOk Try.prog c F (298, 63, r298) := ⟨Try.f63, [], [], Try.func63, by kernel_rfl, by kernel_rfl, by kernel_rfl⟩
theorem ok114 : FnOk Try.prog c F (114, 64, r114) := ⟨Try.f64, [], [], Try.func64, by kernel_rfl, by kernel_rfl, by kernel_rfl⟩
theorem ok261 : FnOk Try.prog c F (261, 65, r261) := ⟨Try.f65, [], [[0, 1, 5]], Try.func65, by kernel_rfl, by kernel_rfl, by kernel_rfl⟩
theorem ok232 : FnOk Try.prog c F (232, 66, r232) := ⟨Try.f66, [], [[0, 1, 5]], Try.func66, by kernel_rfl, by kernel_rfl, by kernel_rfl⟩
theorem ok262 : FnOk Try.prog c F (262, 67, r262) := ⟨Try.f67, [], [[0, 1, 5]], Try.func67, by kernel_rfl, by kernel_rfl, by kernel_rfl⟩
theorem ok234 : FnOk Try.prog c F (234, 68, r234) := ⟨Try.f68, [], [[0, 1, 5]], Try.func68, by kernel_rfl, by kernel_rfl, by kernel_rfl⟩
theorem ok128 : FnOk Try.prog c F (128, 79, r128) := ⟨Try.f79, [], [], Try.func79, by kernel_rfl, by kernel_rfl, by kernel_rfl⟩
theorem ok129 : FnOk Try.prog c F (129, 80, r129) := ⟨Try.f80, [], [], Try.func80, by kernel_rfl, by kernel_rfl, by kernel_rfl⟩
theorem ok243 : FnOk Try.prog c F (243, 70, r243) := ⟨Try.f70, [], [[0, 3, 5], [0, 1, 2, 3, 4, 5], [0, 1, 2, 3, 4, 5], [], []], Try.func70, by kernel_rfl, by kernel_rfl, by kernel_rfl⟩
theorem ok242 : FnOk Try.prog c F (242, 71, r242) := ⟨Try.f71, [], [], Try.func71, by kernel_rfl, by kernel_rfl, by kernel_rfl⟩
theorem ok241 : FnOk Try.prog c F (241, 81, r241) := ⟨Try.f81, [], [[1, 3], [0, 1, 2, 5, 6, 3, 4, 7, 8, 9, 10, 11, 12, 13, 14, 15, 16, 17, 18, 19, 20, 21, 22, 23, 24, 25, 26, 27, 28, 29, 30, 31, 32, 33], [0, 1, 2, 3, 4, 5, 6, 7, 8, 9, 10, 11, 12, 13, 14, 15, 16, 17, 18, 19, 20, 21, 22, 23, 24, 25, 26, 27, 28, 29, 30, 31, 32, 33], [], []], Try.func81, by kernel_rfl, by kernel_rfl, by kernel_rfl⟩
theorem ok259 : FnOk Try.prog c F (259, 69, r259) := ⟨Try.f69, [], [[1, 2, 3, 4], [4, 0, 1, 2, 3, 5, 6, 7, 8, 9, 10], [0, 1, 2, 3, 4, 5, 6, 7, 8, 9, 10], [], []], Try.func69, by kernel_rfl, by kernel_rfl, by kernel_rfl⟩
theorem ok210 : FnOk Try.prog c F (210, 37, r210) := ⟨Try.f37, [], [[1, 2, 3, 7]], Try.func37, by kernel_rfl, by kernel_rfl, by kernel_rfl⟩
theorem ok316 : FnOk Try.prog c F (316, 38, r316) := ⟨Try.f38, [], [], Try.func38, by kernel_rfl, by kernel_rfl, by kernel_rfl⟩
theorem ok318 : FnOk Try.prog c F (318, 41, r318) := ⟨Try.f41, [], [[1, 4, 5, 6]], Try.func41, by kernel_rfl, by kernel_rfl, by kernel_rfl⟩
theorem ok130 : FnOk Try.prog c F (130, 82, r130) := ⟨Try.f82, [], [], Try.func82, by kernel_rfl, by kernel_rfl, by kernel_rfl⟩
theorem ok131 : FnOk Try.prog c F (131, 83, r131) := ⟨Try.f83, [], [[0, 3, 4]], Try.func83, by kernel_rfl, by kernel_rfl, by kernel_rfl⟩
theorem ok260 : FnOk Try.prog c F (260, 84, r260) := ⟨Try.f84, [], [], Try.func84, by kernel_rfl, by kernel_rfl, by kernel_rfl⟩
theorem ok267 : FnOk Try.prog c F (267, 45, r267) := ⟨Try.f45, [], [[0, 1, 2, 3, 5, 6, 7, 8, 4, 9, 10, 11, 12], [0, 1, 2, 3, 4, 5, 6, 7, 8, 9, 10, 11, 12], [], []], Try.func45, by kernel_rfl, by kernel_rfl, by kernel_rfl⟩
theorem ok265 : FnOk Try.prog c F (265, 85, r265) := ⟨Try.f85, [], [[1, 10, 11, 12], [0, 1, 2, 3, 4, 5, 6, 7, 8, 9, 10, 11, 12, 13, 14, 15, 16, 17, 18, 19, 20, 21, 22, 23, 24, 25, 26, 27, 30, 31, 28, 29, 32, 33, 34, 35, 36, 37, 38, 39], [0, 1, 2, 3, 4, 5, 6, 7, 8, 9, 10, 11, 12, 13, 14, 15, 16, 17, 18, 19, 20, 21, 22, 23, 24, 25, 26, 27, 28, 29, 30, 31, 32, 33, 34, 35, 36, 37, 38, 39], [], []], Try.func85, by kernel_rfl, by kernel_rfl, by kernel_rfl⟩
theorem ok266 : FnOk Try.prog c F (266, 86, r266) := ⟨Try.f86, [], [], Try.func86, by kernel_rfl, by kernel_rfl, by kernel_rfl⟩
theorem ok213 : FnOk Try.prog c F (213, 42, r213) := ⟨Try.f42, [4, 5], [], Try.func42, by kernel_rfl, by kernel_rfl, by kernel_rfl⟩
theorem ok319 : FnOk Try.prog c F (319, 43, r319) := ⟨Try.f43, [], [], Try.func43, by kernel_rfl, by kernel_rfl, by kernel_rfl⟩
theorem ok321 : FnOk Try.prog c F (321, 47, r321) := ⟨Try.f47, [], [[1, 2, 4, 10, 11]], Try.func47, by kernel_rfl, by kernel_rfl, by kernel_rfl⟩
theorem ok133 : FnOk Try.prog c F (133, 88, r133) := ⟨Try.f88, [], [], Try.func88, by kernel_rfl, by kernel_rfl, by kernel_rfl⟩
theorem ok134 : FnOk Try.prog c F (134, 89, r134) := ⟨Try.f89, [], [[0, 1, 5], [0, 1, 2, 4, 5, 6, 3, 7, 8, 9], [0, 1, 2, 3, 4, 5, 6, 7, 8, 9], [], []], Try.func89, by kernel_rfl, by kernel_rfl, by kernel_rfl⟩
theorem ok136 : FnOk Try.prog c F (136, 102, r136) := ⟨Try.f102, [], [], Try.func102, by kernel_rfl, by kernel_rfl, by kernel_rfl⟩
theorem ok137 : FnOk Try.prog c F (137, 103, r137) := ⟨Try.f103, [], [[0, 3, 4]], Try.func103, by kernel_rfl, by kernel_rfl, by kernel_rfl⟩
theorem ok138 : FnOk Try.prog c F (138, 104, r138) := ⟨Try.f104, [], [], Try.func104, by kernel_rfl, by kernel_rfl, by kernel_rfl⟩
theorem ok275 : FnOk Try.prog c F (275, 76, r275) := ⟨Try.f76, [], [[3, 6, 7, 8]], Try.func76, by kernel_rfl, by kernel_rfl, by kernel_rfl⟩
theorem ok273 : FnOk Try.prog c F (273, 77, r273) := ⟨Try.f77, [], [], Try.func77, by kernel_rfl, by kernel_rfl, by kernel_rfl⟩
theorem ok274 : FnOk Try.prog c F (274, 78, r274) := ⟨Try.f78, [], [], Try.func78, by kernel_rfl, by kernel_rfl, by kernel_rfl⟩
theorem ok272 : FnOk Try.prog c F (272, 106, r272) := ⟨Try.f106, [], [[0, 3, 7, 8], [1, 2, 3, 0, 4, 5], [0, 1, 2, 3, 4, 5], [], []], Try.func106, by kernel_rfl, by kernel_rfl, by kernel_rfl⟩
theorem ok248 : FnOk Try.prog c F (248, 72, r248) := ⟨Try.f72, [], [[0, 1, 7, 8]], Try.func72, by kernel_rfl, by kernel_rfl, by kernel_rfl⟩
theorem ok249 : FnOk Try.prog c F (249, 73, r249) := ⟨Try.f73, [], [], Try.func73, by kernel_rfl, by kernel_rfl, by kernel_rfl⟩
theorem ok139 : FnOk Try.prog c F (139, 109, r139) := ⟨Try.f109, [], [[0, 1, 5], [0, 1, 2, 4, 5, 6, 3, 7, 8, 9], [0, 1, 2, 3, 4, 5, 6, 7, 8, 9], [], []], Try.func109, by kernel_rfl, by kernel_rfl, by kernel_rfl⟩
theorem ok140 : FnOk Try.prog c F (140, 110, r140) := ⟨Try.f110, [], [], Try.func110, by kernel_rfl, by kernel_rfl, by kernel_rfl⟩
theorem ok141 : FnOk Try.prog c F (141, 116, r141) := ⟨Try.f116, [], [], Try.func116, by kernel_rfl, by kernel_rfl, by kernel_rfl⟩
theorem ok276 : FnOk Try.prog c F (276, 100, r276) := ⟨Try.f100, [], [], Try.func100, by kernel_rfl, by kernel_rfl, by kernel_rfl⟩
theorem ok277 : FnOk Try.prog c F (277, 101, r277) := ⟨Try.f101, [], [], Try.func101, by kernel_rfl, by kernel_rfl, by kernel_rfl⟩
theorem ok142 : FnOk Try.prog c F (142, 118, r142) := ⟨Try.f118, [], [], Try.func118, by kernel_rfl, by kernel_rfl, by kernel_rfl⟩
theorem okT : (c.T.all fun x => x.2.okB Try.prog (mkCfgZ Try.prog tab ptab tags).ET (mkCfgZ Try.prog tab ptab tags).SZ x.1) = true := by kernel_rfl
theorem okF : (c.F.all fun x => decide ((mkCfgZ Try.prog tab ptab tags).G x.2 = some x.1)) = true := by kernel_rfl
theorem okTab : AllT (FnOk Try.prog c F) tab := ⟨ok366, ok154, ok367, ok2, ok155, ok360, ok368, ok86, ok158, ok285, ok191, ok287, ok292, ok203, ok3, ok156, ok317, ok303, ok314, ok84, ok205, ok320, ok6, ok206, ok331, ok334, ok113, ok207, ok230, ok322, ok111, ok5, ok204, ok228, ok189, ok300, ok308, ok297, ok112, ok229, ok7, ok244, ok132, ok190, ok301, ok309, ok298, ok114, ok261, ok232, ok262, ok234, ok128, ok129, ok243, ok242, ok241, ok259, ok210, ok316, ok318, ok130, ok131, ok260, ok267, ok265, ok266, ok213, ok319, ok321, ok133, ok134, ok136, ok137, ok138, ok275, ok273, ok274, ok272, ok248, ok249, ok139, ok140, ok141, ok276, ok277, ok142, trivial⟩
theorem okP : AllT (PFn Try.prog F) ptab := ⟨⟨⟨Try.f31, Try.func31, by kernel_rfl, by kernel_rfl⟩, rfl, step_del _⟩, ⟨⟨Try.f46, Try.func46, by kernel_rfl, by kernel_rfl⟩, rfl, step_del _⟩, ⟨⟨Try.f87, Try.func87, by kernel_rfl, by kernel_rfl⟩, rfl, step_ins _ _⟩, trivial⟩
theorem prog (O : Nat) : ProgOk ((mkCfgZ Try.prog tab ptab tags).at O) c F (primZ ptab) :=
  mkProgZ okT okF okTab okP ⟨⟨Try.f105, Try.func105, by kernel_rfl, by kernel_rfl, by kernel_rfl, by kernel_rfl⟩, trivial⟩ ⟨⟨by kernel_rfl, by kernel_rfl, by kernel_rfl⟩, trivial⟩ O ⟨del_ok (ρ := renD 31 3 4 60 52) (k := 10) rfl rfl p376, del_ok (ρ := renD 46 3 4 58 31) (k := 6) rfl rfl p330, ins_ok (ρ := renI 87 107 108 3 4 58 31) (k := 6) rfl rfl p332, trivial⟩
theorem pr376 : PrimAt F (primZ ptab) 376 (delF 22) := primAt (ptab := ptab) (n := 376) (x := (31, (delF 22))) rfl rfl
theorem pr330 : PrimAt F (primZ ptab) 330 (delF 16) := primAt (ptab := ptab) (n := 330) (x := (46, (delF 16))) rfl rfl
theorem pr332 : PrimAt F (primZ ptab) 332 (insF 16 80) := primAt (ptab := ptab) (n := 332) (x := (87, (insF 16 80))) rfl rfl
theorem inI10 : AllT (fun x => F x.1 = some x.2) tI10 := ⟨rfl, rfl, trivial⟩
theorem inI11 : AllT (fun x => F x.1 = some x.2) tI11 := ⟨rfl, trivial⟩
theorem inI13 : AllT (fun x => F x.1 = some x.2) tI13 := ⟨rfl, rfl, rfl, rfl, rfl, rfl, rfl, rfl, rfl, rfl, rfl, rfl, rfl, trivial⟩
theorem inI15 : AllT (fun x => F x.1 = some x.2) tI15 := ⟨rfl, rfl, rfl, rfl, rfl, rfl, rfl, trivial⟩
theorem inLAccount : AllT (fun x => F x.1 = some x.2) tLAccount := ⟨rfl, rfl, rfl, rfl, rfl, rfl, rfl, trivial⟩
theorem inLBook : AllT (fun x => F x.1 = some x.2) tLBook := ⟨rfl, rfl, rfl, trivial⟩
theorem inLFin : AllT (fun x => F x.1 = some x.2) tLFin := ⟨rfl, rfl, rfl, rfl, rfl, rfl, rfl, trivial⟩
theorem inLHand : AllT (fun x => F x.1 = some x.2) tLHand := ⟨rfl, rfl, trivial⟩
theorem inLInt : AllT (fun x => F x.1 = some x.2) tLInt := ⟨rfl, rfl, rfl, trivial⟩
theorem inLShard : AllT (fun x => F x.1 = some x.2) tLShard := ⟨rfl, rfl, rfl, rfl, rfl, rfl, rfl, rfl, trivial⟩
theorem inLStore : AllT (fun x => F x.1 = some x.2) tLStore := ⟨rfl, rfl, rfl, rfl, rfl, trivial⟩
theorem inLibcmpCompareint : AllT (fun x => F x.1 = some x.2) tLibcmpCompareint := ⟨rfl, trivial⟩
theorem inLibcmpCompareuint64 : AllT (fun x => F x.1 = some x.2) tLibcmpCompareuint64 := ⟨rfl, trivial⟩
theorem inLibcmpOrint : AllT (fun x => F x.1 = some x.2) tLibcmpOrint := ⟨rfl, trivial⟩
theorem inLibcmpisNaNint : AllT (fun x => F x.1 = some x.2) tLibcmpisNaNint := ⟨rfl, trivial⟩
theorem inLibcmpisNaNuint64 : AllT (fun x => F x.1 = some x.2) tLibcmpisNaNuint64 := ⟨rfl, trivial⟩
theorem inLibslicesContainsimplFinimplFin : AllT (fun x => F x.1 = some x.2) tLibslicesContainsimplFinimplFin := ⟨rfl, trivial⟩
theorem inLibslicesIndexFuncimplShardimplShard : AllT (fun x => F x.1 = some x.2) tLibslicesIndexFuncimplShardimplShard := ⟨rfl, trivial⟩
theorem inLibslicesIndeximplFinimplFin : AllT (fun x => F x.1 = some x.2) tLibslicesIndeximplFinimplFin := ⟨rfl, trivial⟩
theorem inS01d : AllT (fun x => F x.1 = some x.2) tS01d := ⟨rfl, trivial⟩
theorem inS10 : AllT (fun x => F x.1 = some x.2) tS10 := ⟨rfl, rfl, trivial⟩
theorem inS13 : AllT (fun x => F x.1 = some x.2) tS13 := ⟨rfl, rfl, rfl, rfl, rfl, rfl, rfl, rfl, rfl, rfl, rfl, rfl, rfl, trivial⟩
theorem inS15 : AllT (fun x => F x.1 = some x.2) tS15 := ⟨rfl, rfl, rfl, rfl, rfl, trivial⟩
theorem inWPlayHand : AllT (fun x => F x.1 = some x.2) tWPlayHand := ⟨rfl, trivial⟩
end Go.Proofs.Ytgfclcpnefinoaa.A.ExactPlayHand
namespace Go.Proofs.Ytgfclcpnefinoaa.A
open Go
set_option linter.unusedSimpArgs false
set_option linter.unusedVariables false
set_option maxRecDepth 20000 in
set_option maxHeartbeats 2000000 in
theorem law_ExactPlayHand {F : Nat → Option RF} {Z : CallF} (hI10 : Has F tI10) (hI11 : Has F tI11) (hI13 : Has F tI13) (hI15 : Has F tI15) (hLAccount : Has F tLAccount) (hLBook : Has F tLBook) (hLFin : Has F tLFin) (hLHand : Has F tLHand) (hLInt : Has F tLInt) (hLShard : Has F tLShard) (hLStore : Has F tLStore) (hLibcmpCompareint : Has F tLibcmpCompareint) (hLibcmpCompareuint64 : Has F tLibcmpCompareuint64) (hLibcmpOrint : Has F tLibcmpOrint) (hLibcmpisNaNint : Has F tLibcmpisNaNint) (hLibcmpisNaNuint64 : Has F tLibcmpisNaNuint64) (hLibslicesContainsimplFinimplFin : Has F tLibslicesContainsimplFinimplFin) (hLibslicesIndexFuncimplShardimplShard : Has F tLibslicesIndexFuncimplShardimplShard) (hLibslicesIndeximplFinimplFin : Has F tLibslicesIndeximplFinimplFin) (hS01d : Has F tS01d) (hS10 : Has F tS10) (hS13 : Has F tS13) (hS15 : Has F tS15) (hWPlayHand : Has F tWPlayHand) (pr330 : PrimAt F Z 330 (delF 16)) (pr376 : PrimAt F Z 376 (delF 22)) (pr332 : PrimAt F Z 332 (insF 16 80)) (h : Heap) (avs : List V) (hfl : h.floor = h.next) (w : ArgsWf h 8 [shHand, shStore, shStore, shIntS] avs) : ∃ h', call F Z 366 avs h = some (.c (.bool true), h') := by
  obtain ⟨ac, _, rfl, aw, w1⟩ := ArgsWf.struct w
  obtain ⟨a, rfl, aok⟩ := Wf.isHand aw
  obtain ⟨sc, _, rfl, sw, w2⟩ := ArgsWf.struct w1
  obtain ⟨s, sp, sv, sok⟩ := Wf.isStore sw
  obtain ⟨sl1, sl2, sl3⟩ := Store.lenL sv
  obtain ⟨tc, _, rfl, tw, w3⟩ := ArgsWf.struct w2
  obtain ⟨t, tp, tv, tok⟩ := Wf.isStore tw
  obtain ⟨tl1, tl2, tl3⟩ := Store.lenL tv
  obtain ⟨osx, _, rfl, osw, w4⟩ := ArgsWf.slice w3
  obtain ⟨os, osp, osv, osok⟩ := Wf.isIntS osw
  obtain rfl := w4.nil
  have f0 : h.floor ≤ h.next := by omega
  rw [call_run F Z (hWPlayHand.lk (g := 366) rfl) _ _ rfl]
  simp only [run0, run1, run2, run3, run4, noSlot, ownS, ownK, memN, RO.dst, lk, drop, forget, number, Nat.reduceBEq, cut?, splice?, builds, Nat.reduceAdd, Nat.reduceLeDiff, ↓reduceIte, reduceCtorEq, qqa, qqb, qqc, qqd, qqe, qqf, qqg, qqh, qqi, qqj, qqk, qql, qqm, qqn, qqo, qqp, qqq, qqr, qqs, qqt, qqu, qqv, qqw, qqx, qqy, osv.len]
  by_cases hg2 : (os.length : Int) > 1048576
  · simp only [run0, run1, run2, run3, run4, noSlot, ownS, ownK, memN, RO.dst, lk, drop, forget, number, Nat.reduceBEq, cut?, splice?, builds, Nat.reduceAdd, Nat.reduceLeDiff, ↓reduceIte, reduceCtorEq, qqa, qqb, qqc, qqd, qqe, qqf, qqg, qqh, qqi, qqj, qqk, qql, qqm, qqn, qqo, qqp, qqq, qqr, qqs, qqt, qqu, qqv, qqw, qqx, qqy, hg2]
    exact ⟨_, rfl⟩
  have sm2 : os.length ≤ 1048576 := by omega
  obtain ⟨l0, s0, s0l, s0k⟩ := szStore_c hLStore hLShard hLBook hLAccount hLFin (Z := Z) sv 1048576 (by omega) (by omega)
  simp only [run0, run1, run2, run3, run4, noSlot, ownS, ownK, memN, RO.dst, lk, drop, forget, number, Nat.reduceBEq, cut?, splice?, builds, Nat.reduceAdd, Nat.reduceLeDiff, ↓reduceIte, reduceCtorEq, qqa, qqb, qqc, qqd, qqe, qqf, qqg, qqh, qqi, qqj, qqk, qql, qqm, qqn, qqo, qqp, qqq, qqr, qqs, qqt, qqu, qqv, qqw, qqx, qqy, s0, toHand_e hLHand, Hand.len, Hand.tak, Hand.drp, eqHand_run hLHand, sl1, sl2, sl3, tl1, tl2, tl3, osv.len, hg2]
  by_cases hn0 : l0 < 0
  · simp only [run0, run1, run2, run3, run4, noSlot, ownS, ownK, memN, RO.dst, lk, drop, forget, number, Nat.reduceBEq, cut?, splice?, builds, Nat.reduceAdd, Nat.reduceLeDiff, ↓reduceIte, reduceCtorEq, qqa, qqb, qqc, qqd, qqe, qqf, qqg, qqh, qqi, qqj, qqk, qql, qqm, qqn, qqo, qqp, qqq, qqr, qqs, qqt, qqu, qqv, qqw, qqx, qqy, hn0]
    exact ⟨_, rfl⟩
  have sm0 := s0k (by omega)
  obtain ⟨l1, s1, s1l, s1k⟩ := szStore_c hLStore hLShard hLBook hLAccount hLFin (Z := Z) tv l0 (by omega) (by omega)
  simp only [run0, run1, run2, run3, run4, noSlot, ownS, ownK, memN, RO.dst, lk, drop, forget, number, Nat.reduceBEq, cut?, splice?, builds, Nat.reduceAdd, Nat.reduceLeDiff, ↓reduceIte, reduceCtorEq, qqa, qqb, qqc, qqd, qqe, qqf, qqg, qqh, qqi, qqj, qqk, qql, qqm, qqn, qqo, qqp, qqq, qqr, qqs, qqt, qqu, qqv, qqw, qqx, qqy, s1, hn0, toHand_e hLHand, Hand.len, Hand.tak, Hand.drp, eqHand_run hLHand, sl1, sl2, sl3, tl1, tl2, tl3, osv.len, hg2]
  by_cases hn1 : l1 < 0
  · simp only [run0, run1, run2, run3, run4, noSlot, ownS, ownK, memN, RO.dst, lk, drop, forget, number, Nat.reduceBEq, cut?, splice?, builds, Nat.reduceAdd, Nat.reduceLeDiff, ↓reduceIte, reduceCtorEq, qqa, qqb, qqc, qqd, qqe, qqf, qqg, qqh, qqi, qqj, qqk, qql, qqm, qqn, qqo, qqp, qqq, qqr, qqs, qqt, qqu, qqv, qqw, qqx, qqy, hn1]
    exact ⟨_, rfl⟩
  have sm1 := s1k (by omega)
  have flr : h.floor = h.next := hfl
  have Tsv := Store.okL.lt sv
  have Ttv := Store.okL.lt tv
  have Tosv := osv.lt (Fl.ok _)
  obtain ⟨y1, hq1, p1, e1, oq1, vq1, qq1⟩ := toStore_c hLStore hLShard hLBook hLAccount hLFin (Z := Z) (h := ⟨h.next, h.next, h.get⟩) (Nat.le_refl _) (Store.okL.up sv _) sm0
  obtain ⟨h1, mq1⟩ : ∃ g, Heap.mk hq1.next h.floor hq1.get = g := ⟨_, rfl⟩
  have o1 : On h h1 := by rw [← mq1]; exact ⟨⟨oq1.ext.1, oq1.ext.2⟩, rfl⟩
  have v1 := Store.okI.up vq1 h.floor
  rw [mq1] at v1
  have q1 : Fre h p1 := ⟨qq1.lo, qq1.nd⟩
  replace sv := Store.okL.on sv o1
  replace tv := Store.okL.on tv o1
  replace osv := osv.on (Fl.ok _) o1
  have n1 := o1.ext.1
  have g1 := o1.fl
  have f1 := o1.le f0
  obtain ⟨vl1, vt1, vd1⟩ := Store.lenI v1
  obtain ⟨y2, hq2, p2, e2, oq2, vq2, qq2⟩ := toStore_c hLStore hLShard hLBook hLAccount hLFin (Z := Z) (h := ⟨h1.next, h1.next, h1.get⟩) (Nat.le_refl _) (Store.okL.up tv _) sm1
  obtain ⟨h2, mq2⟩ : ∃ g, Heap.mk hq2.next h1.floor hq2.get = g := ⟨_, rfl⟩
  have o2 : On h1 h2 := by rw [← mq2]; exact ⟨⟨oq2.ext.1, oq2.ext.2⟩, rfl⟩
  have v2 := Store.okI.up vq2 h1.floor
  rw [mq2] at v2
  have q2 : Fre h1 p2 := ⟨qq2.lo, qq2.nd⟩
  replace sv := Store.okL.on sv o2
  replace tv := Store.okL.on tv o2
  replace osv := osv.on (Fl.ok _) o2
  replace v1 := Store.okI.on v1 o2
  have n2 := o2.ext.1
  have g2 := o2.fl
  have f2 := o2.le f1
  obtain ⟨vl2, vt2, vd2⟩ := Store.lenI v2
  obtain ⟨y3, hq3, p3, e3, oq3, vq3, qq3⟩ := toIntS_c hLInt (Z := Z) (h := ⟨h2.next, h2.next, h2.get⟩) (Nat.le_refl _) (osv.up (Fl.ok _) _) sm2
  obtain ⟨h3, mq3⟩ : ∃ g, Heap.mk hq3.next h2.floor hq3.get = g := ⟨_, rfl⟩
  have o3 : On h2 h3 := by rw [← mq3]; exact ⟨⟨oq3.ext.1, oq3.ext.2⟩, rfl⟩
  have v3 := vq3.up (Fl.ok _) h2.floor
  rw [mq3] at v3
  have q3 : Fre h2 p3 := ⟨qq3.lo, qq3.nd⟩
  replace sv := Store.okL.on sv o3
  replace tv := Store.okL.on tv o3
  replace osv := osv.on (Fl.ok _) o3
  replace v1 := Store.okI.on v1 o3
  replace v2 := Store.okI.on v2 o3
  have n3 := o3.ext.1
  have g3 := o3.fl
  have f3 := o3.le f2
  obtain ⟨r4_1, r4_2, hq4, p4_1, p4_2, e4, oq4, vq4_1, qq4_1, vq4_2, qq4_2, dj4⟩ := sPlayHand_e ⟨hS01d, hS10, hS13⟩ hS01d hS15 (Z := Z) (h := ⟨h3.next, h3.next, h3.get⟩) (Nat.le_refl _) a (Store.okI.up v1 _) (Store.okI.up v2 _) (v3.up (Fl.ok _) _) aok sok sm0 tok sm1 osok
  obtain ⟨h4, mq4⟩ : ∃ g, Heap.mk hq4.next h3.floor hq4.get = g := ⟨_, rfl⟩
  have o4 : On h3 h4 := by rw [← mq4]; exact ⟨⟨oq4.ext.1, oq4.ext.2⟩, rfl⟩
  have v4_1 := Store.okI.up vq4_1 h3.floor
  rw [mq4] at v4_1
  have q4_1 : Fre h3 p4_1 := ⟨qq4_1.lo, qq4_1.nd⟩
  have v4_2 := Store.okI.up vq4_2 h3.floor
  rw [mq4] at v4_2
  have q4_2 : Fre h3 p4_2 := ⟨qq4_2.lo, qq4_2.nd⟩
  replace sv := Store.okL.on sv o4
  replace tv := Store.okL.on tv o4
  replace osv := osv.on (Fl.ok _) o4
  replace v1 := Store.okI.on v1 o4
  replace v2 := Store.okI.on v2 o4
  replace v3 := v3.on (Fl.ok _) o4
  have n4 := o4.ext.1
  have g4 := o4.fl
  have f4 := o4.le f3
  have Tv4_1 := Store.okI.lt v4_1
  have Tv4_2 := Store.okI.lt v4_2
  obtain ⟨vl4_1, vt4_1, vd4_1⟩ := Store.lenI v4_1
  obtain ⟨vl4_2, vt4_2, vd4_2⟩ := Store.lenI v4_2
  obtain ⟨y5, h5, p5, e5, o5, v5, q5⟩ := toStore_c hLStore hLShard hLBook hLAccount hLFin (Z := Z) f4 sv sm0
  replace sv := Store.okL.on sv o5
  replace tv := Store.okL.on tv o5
  replace osv := osv.on (Fl.ok _) o5
  replace v1 := Store.okI.on v1 o5
  replace v2 := Store.okI.on v2 o5
  replace v3 := v3.on (Fl.ok _) o5
  replace v4_1 := Store.okI.on v4_1 o5
  replace v4_2 := Store.okI.on v4_2 o5
  have n5 := o5.ext.1
  have g5 := o5.fl
  have f5 := o5.le f4
  have Tv5 := Store.okI.lt v5
  obtain ⟨vl5, vt5, vd5⟩ := Store.lenI v5
  obtain ⟨y6, h6, p6, e6, o6, v6, q6⟩ := toStore_c hLStore hLShard hLBook hLAccount hLFin (Z := Z) f5 tv sm1
  replace sv := Store.okL.on sv o6
  replace tv := Store.okL.on tv o6
  replace osv := osv.on (Fl.ok _) o6
  replace v1 := Store.okI.on v1 o6
  replace v2 := Store.okI.on v2 o6
  replace v3 := v3.on (Fl.ok _) o6
  replace v4_1 := Store.okI.on v4_1 o6
  replace v4_2 := Store.okI.on v4_2 o6
  replace v5 := Store.okI.on v5 o6
  have n6 := o6.ext.1
  have g6 := o6.fl
  have f6 := o6.le f5
  have Tv6 := Store.okI.lt v6
  obtain ⟨vl6, vt6, vd6⟩ := Store.lenI v6
  obtain ⟨y7, h7, p7, e7, o7, v7, q7⟩ := toIntS_c hLInt (Z := Z) f6 osv sm2
  replace sv := Store.okL.on sv o7
  replace tv := Store.okL.on tv o7
  replace osv := osv.on (Fl.ok _) o7
  replace v1 := Store.okI.on v1 o7
  replace v2 := Store.okI.on v2 o7
  replace v3 := v3.on (Fl.ok _) o7
  replace v4_1 := Store.okI.on v4_1 o7
  replace v4_2 := Store.okI.on v4_2 o7
  replace v5 := Store.okI.on v5 o7
  replace v6 := Store.okI.on v6 o7
  have n7 := o7.ext.1
  have g7 := o7.fl
  have f7 := o7.le f6
  have Tv7 := v7.lt (Fl.ok _)
  obtain ⟨r8_1, r8_2, hq8, p8_1, p8_2, e8, oq8, vq8_1, qq8_1, vq8_2, qq8_2, dj8⟩ := PlayHand_e ⟨hI10, hI11, hI13, hLibcmpCompareint, hLibcmpCompareuint64, hLibcmpOrint, hLibcmpisNaNint, hLibcmpisNaNuint64, hLibslicesIndeximplFinimplFin, hLibslicesContainsimplFinimplFin⟩ hI15 hLibslicesIndexFuncimplShardimplShard pr330 pr332 pr376 (Z := Z) (h := ⟨h7.next, h7.next, h7.get⟩) (Nat.le_refl _) a (Store.okI.up v5 _) (Store.okI.up v6 _) (v7.up (Fl.ok _) _) aok sok sm0 tok sm1 osok
  obtain ⟨h8, mq8⟩ : ∃ g, Heap.mk hq8.next h7.floor hq8.get = g := ⟨_, rfl⟩
  have o8 : On h7 h8 := by rw [← mq8]; exact ⟨⟨oq8.ext.1, oq8.ext.2⟩, rfl⟩
  have v8_1 := Store.okI.up vq8_1 h7.floor
  rw [mq8] at v8_1
  have q8_1 : Fre h7 p8_1 := ⟨qq8_1.lo, qq8_1.nd⟩
  have v8_2 := Store.okI.up vq8_2 h7.floor
  rw [mq8] at v8_2
  have q8_2 : Fre h7 p8_2 := ⟨qq8_2.lo, qq8_2.nd⟩
  replace sv := Store.okL.on sv o8
  replace tv := Store.okL.on tv o8
  replace osv := osv.on (Fl.ok _) o8
  replace v1 := Store.okI.on v1 o8
  replace v2 := Store.okI.on v2 o8
  replace v3 := v3.on (Fl.ok _) o8
  replace v4_1 := Store.okI.on v4_1 o8
  replace v4_2 := Store.okI.on v4_2 o8
  replace v5 := Store.okI.on v5 o8
  replace v6 := Store.okI.on v6 o8
  replace v7 := v7.on (Fl.ok _) o8
  have n8 := o8.ext.1
  have g8 := o8.fl
  have f8 := o8.le f7
  obtain ⟨vl8_1, vt8_1, vd8_1⟩ := Store.lenI v8_1
  obtain ⟨vl8_2, vt8_2, vd8_2⟩ := Store.lenI v8_2
  have c1 := eqStore_r hLStore hLShard hLBook hLAccount hLFin (Z := Z) v8_1 v4_1
  have c2 := eqStore_r hLStore hLShard hLBook hLAccount hLFin (Z := Z) v8_2 v4_2
  obtain ⟨y9, hq9, p9, e9, oq9, vq9, qq9⟩ := toStore_c hLStore hLShard hLBook hLAccount hLFin (Z := Z) (h := ⟨h8.next, h8.next, h8.get⟩) (Nat.le_refl _) (Store.okL.up sv _) sm0
  obtain ⟨h9, mq9⟩ : ∃ g, Heap.mk hq9.next h8.floor hq9.get = g := ⟨_, rfl⟩
  have o9 : On h8 h9 := by rw [← mq9]; exact ⟨⟨oq9.ext.1, oq9.ext.2⟩, rfl⟩
  have v9 := Store.okI.up vq9 h8.floor
  rw [mq9] at v9
  have q9 : Fre h8 p9 := ⟨qq9.lo, qq9.nd⟩
  replace sv := Store.okL.on sv o9
  replace tv := Store.okL.on tv o9
  replace osv := osv.on (Fl.ok _) o9
  replace v1 := Store.okI.on v1 o9
  replace v2 := Store.okI.on v2 o9
  replace v3 := v3.on (Fl.ok _) o9
  replace v4_1 := Store.okI.on v4_1 o9
  replace v4_2 := Store.okI.on v4_2 o9
  replace v5 := Store.okI.on v5 o9
  replace v6 := Store.okI.on v6 o9
  replace v7 := v7.on (Fl.ok _) o9
  replace v8_1 := Store.okI.on v8_1 o9
  replace v8_2 := Store.okI.on v8_2 o9
  have n9 := o9.ext.1
  have g9 := o9.fl
  have f9 := o9.le f8
  obtain ⟨vl9, vt9, vd9⟩ := Store.lenI v9
  have c3 := eqStore_r hLStore hLShard hLBook hLAccount hLFin (Z := Z) (h := ⟨h9.next, h9.next, h9.get⟩) (Store.okI.up v5 _) (Store.okI.up v9 _)
  obtain ⟨y10, hq10, p10, e10, oq10, vq10, qq10⟩ := toStore_c hLStore hLShard hLBook hLAccount hLFin (Z := Z) (h := ⟨h9.next, h9.next, h9.get⟩) (Nat.le_refl _) (Store.okL.up tv _) sm1
  obtain ⟨h10, mq10⟩ : ∃ g, Heap.mk hq10.next h9.floor hq10.get = g := ⟨_, rfl⟩
  have o10 : On h9 h10 := by rw [← mq10]; exact ⟨⟨oq10.ext.1, oq10.ext.2⟩, rfl⟩
  have v10 := Store.okI.up vq10 h9.floor
  rw [mq10] at v10
  have q10 : Fre h9 p10 := ⟨qq10.lo, qq10.nd⟩
  replace sv := Store.okL.on sv o10
  replace tv := Store.okL.on tv o10
  replace osv := osv.on (Fl.ok _) o10
  replace v1 := Store.okI.on v1 o10
  replace v2 := Store.okI.on v2 o10
  replace v3 := v3.on (Fl.ok _) o10
  replace v4_1 := Store.okI.on v4_1 o10
  replace v4_2 := Store.okI.on v4_2 o10
  replace v5 := Store.okI.on v5 o10
  replace v6 := Store.okI.on v6 o10
  replace v7 := v7.on (Fl.ok _) o10
  replace v8_1 := Store.okI.on v8_1 o10
  replace v8_2 := Store.okI.on v8_2 o10
  have n10 := o10.ext.1
  have g10 := o10.fl
  have f10 := o10.le f9
  obtain ⟨vl10, vt10, vd10⟩ := Store.lenI v10
  have c4 := eqStore_r hLStore hLShard hLBook hLAccount hLFin (Z := Z) (h := ⟨h10.next, h10.next, h10.get⟩) (Store.okI.up v6 _) (Store.okI.up v10 _)
  obtain ⟨y11, h11, p11, e11, o11, v11, q11⟩ := toIntS_c hLInt (Z := Z) f10 osv sm2
  replace sv := Store.okL.on sv o11
  replace tv := Store.okL.on tv o11
  replace osv := osv.on (Fl.ok _) o11
  replace v1 := Store.okI.on v1 o11
  replace v2 := Store.okI.on v2 o11
  replace v3 := v3.on (Fl.ok _) o11
  replace v4_1 := Store.okI.on v4_1 o11
  replace v4_2 := Store.okI.on v4_2 o11
  replace v5 := Store.okI.on v5 o11
  replace v6 := Store.okI.on v6 o11
  replace v7 := v7.on (Fl.ok _) o11
  replace v8_1 := Store.okI.on v8_1 o11
  replace v8_2 := Store.okI.on v8_2 o11
  have n11 := o11.ext.1
  have g11 := o11.fl
  have f11 := o11.le f10
  have c5 := eqIntS_run hLInt (Z := Z) v7 v11
  have hb1 := Store.wt_le sm0
  have hb2 := s.wt_nn
  have hb3 := Store.wt_le sm1
  have hb4 := t.wt_nn
  have hsm := playHand_small aok sok sm0 tok sm1 os
  have hb5 := Store.wt_le hsm.1
  have hb6 := (playHand a s t os).2.1.wt_nn
  have hb7 := Store.wt_le hsm.2
  have hb8 := (playHand a s t os).2.2.wt_nn
  have hb9 : os.length ≤ 1048576 := sm2
  have lo12 : ∀ id, id ∈ p5 → h11.floor ≤ id := fun id hid => by have := q5.lo id hid; omega
  obtain ⟨h12, m12, k12, u12⟩ := markStore_r hLStore hLShard hLBook hLAccount hLFin (Z := Z) v5 q5.nd lo12 (1) (by omega) (by omega)
  replace sv := Store.okL.mk' sv k12 fun id h1 h2 => by have a1 := q5.lo id h2; have a2 := Tsv id h1; omega
  replace tv := Store.okL.mk' tv k12 fun id h1 h2 => by have a1 := q5.lo id h2; have a2 := Ttv id h1; omega
  replace osv := osv.mk (Fl.ok _) k12 fun id h1 h2 => by have a1 := q5.lo id h2; have a2 := Tosv id h1; omega
  replace v4_1 := Store.okI.mk' v4_1 k12 fun id h1 h2 => by have a1 := q5.lo id h2; have a2 := Tv4_1 id h1; omega
  replace v4_2 := Store.okI.mk' v4_2 k12 fun id h1 h2 => by have a1 := q5.lo id h2; have a2 := Tv4_2 id h1; omega
  replace v6 := Store.okI.mk' v6 k12 fun id h1 h2 => by have a1 := q5.lo id h2; have a2 := Tv5 id h2; have a3 := q6.lo id h1; omega
  replace v7 := v7.mk (Fl.ok _) k12 fun id h1 h2 => by have a1 := q5.lo id h2; have a2 := Tv5 id h2; have a3 := q7.lo id h1; omega
  replace v8_1 := Store.okI.mk' v8_1 k12 fun id h1 h2 => by have a1 := q5.lo id h2; have a2 := Tv5 id h2; have a3 := q8_1.lo id h1; omega
  replace v8_2 := Store.okI.mk' v8_2 k12 fun id h1 h2 => by have a1 := q5.lo id h2; have a2 := Tv5 id h2; have a3 := q8_2.lo id h1; omega
  have n12 := k12.next
  have g12 := k12.fl
  have f12 : h12.floor ≤ h12.next := by omega
  replace v5 := u12
  have hk12 : ¬ (1 + s.wt : Int) < 0 := by omega
  have lo13 : ∀ id, id ∈ p6 → h12.floor ≤ id := fun id hid => by have := q6.lo id hid; omega
  obtain ⟨h13, m13, k13, u13⟩ := markStore_r hLStore hLShard hLBook hLAccount hLFin (Z := Z) v6 q6.nd lo13 (1 + s.wt) (by omega) (by omega)
  replace sv := Store.okL.mk' sv k13 fun id h1 h2 => by have a1 := q6.lo id h2; have a2 := Tsv id h1; omega
  replace tv := Store.okL.mk' tv k13 fun id h1 h2 => by have a1 := q6.lo id h2; have a2 := Ttv id h1; omega
  replace osv := osv.mk (Fl.ok _) k13 fun id h1 h2 => by have a1 := q6.lo id h2; have a2 := Tosv id h1; omega
  replace v4_1 := Store.okI.mk' v4_1 k13 fun id h1 h2 => by have a1 := q6.lo id h2; have a2 := Tv4_1 id h1; omega
  replace v4_2 := Store.okI.mk' v4_2 k13 fun id h1 h2 => by have a1 := q6.lo id h2; have a2 := Tv4_2 id h1; omega
  replace v7 := v7.mk (Fl.ok _) k13 fun id h1 h2 => by have a1 := q6.lo id h2; have a2 := Tv6 id h2; have a3 := q7.lo id h1; omega
  replace v8_1 := Store.okI.mk' v8_1 k13 fun id h1 h2 => by have a1 := q6.lo id h2; have a2 := Tv6 id h2; have a3 := q8_1.lo id h1; omega
  replace v8_2 := Store.okI.mk' v8_2 k13 fun id h1 h2 => by have a1 := q6.lo id h2; have a2 := Tv6 id h2; have a3 := q8_2.lo id h1; omega
  have n13 := k13.next
  have g13 := k13.fl
  have f13 : h13.floor ≤ h13.next := by omega
  replace v6 := u13
  have hk13 : ¬ (1 + s.wt + t.wt : Int) < 0 := by omega
  have lo14 : ∀ id, id ∈ p7 → h13.floor ≤ id := fun id hid => by have := q7.lo id hid; omega
  obtain ⟨h14, m14, k14, u14⟩ := markIntS_run hLInt (Z := Z) v7 lo14 (1 + s.wt + t.wt) (by omega) (by omega)
  replace sv := Store.okL.mk' sv k14 fun id h1 h2 => by have a1 := q7.lo id h2; have a2 := Tsv id h1; omega
  replace tv := Store.okL.mk' tv k14 fun id h1 h2 => by have a1 := q7.lo id h2; have a2 := Ttv id h1; omega
  replace osv := osv.mk (Fl.ok _) k14 fun id h1 h2 => by have a1 := q7.lo id h2; have a2 := Tosv id h1; omega
  replace v4_1 := Store.okI.mk' v4_1 k14 fun id h1 h2 => by have a1 := q7.lo id h2; have a2 := Tv4_1 id h1; omega
  replace v4_2 := Store.okI.mk' v4_2 k14 fun id h1 h2 => by have a1 := q7.lo id h2; have a2 := Tv4_2 id h1; omega
  replace v8_1 := Store.okI.mk' v8_1 k14 fun id h1 h2 => by have a1 := q7.lo id h2; have a2 := Tv7 id h2; have a3 := q8_1.lo id h1; omega
  replace v8_2 := Store.okI.mk' v8_2 k14 fun id h1 h2 => by have a1 := q7.lo id h2; have a2 := Tv7 id h2; have a3 := q8_2.lo id h1; omega
  have n14 := k14.next
  have g14 := k14.fl
  have f14 : h14.floor ≤ h14.next := by omega
  replace v7 := u14
  have hk14 : ¬ (1 + s.wt + t.wt + 1 * ((os.length : Nat) : Int) : Int) < 0 := by omega
  have c6 := eqStore_r hLStore hLShard hLBook hLAccount hLFin (Z := Z) v8_1 v4_1
  have c7 := eqStore_r hLStore hLShard hLBook hLAccount hLFin (Z := Z) v8_2 v4_2
  have lo15 : ∀ id, id ∈ p8_1 → h14.floor ≤ id := fun id hid => by have := q8_1.lo id hid; omega
  obtain ⟨h15, m15, k15, u15⟩ := markStore_r hLStore hLShard hLBook hLAccount hLFin (Z := Z) v8_1 q8_1.nd lo15 (1) (by omega) (by omega)
  replace sv := Store.okL.mk' sv k15 fun id h1 h2 => by have a1 := q8_1.lo id h2; have a2 := Tsv id h1; omega
  replace tv := Store.okL.mk' tv k15 fun id h1 h2 => by have a1 := q8_1.lo id h2; have a2 := Ttv id h1; omega
  replace osv := osv.mk (Fl.ok _) k15 fun id h1 h2 => by have a1 := q8_1.lo id h2; have a2 := Tosv id h1; omega
  replace v4_1 := Store.okI.mk' v4_1 k15 fun id h1 h2 => by have a1 := q8_1.lo id h2; have a2 := Tv4_1 id h1; omega
  replace v4_2 := Store.okI.mk' v4_2 k15 fun id h1 h2 => by have a1 := q8_1.lo id h2; have a2 := Tv4_2 id h1; omega
  replace v8_2 := Store.okI.mk' v8_2 k15 fun id h1 h2 => dj8 id h2 h1
  have n15 := k15.next
  have g15 := k15.fl
  have f15 : h15.floor ≤ h15.next := by omega
  replace v8_1 := u15
  have lo16 : ∀ id, id ∈ p8_2 → h15.floor ≤ id := fun id hid => by have := q8_2.lo id hid; omega
  obtain ⟨h16, m16, k16, u16⟩ := markStore_r hLStore hLShard hLBook hLAccount hLFin (Z := Z) v8_2 q8_2.nd lo16 (1 + ((playHand a s t os).2.1).wt) (by omega) (by omega)
  replace sv := Store.okL.mk' sv k16 fun id h1 h2 => by have a1 := q8_2.lo id h2; have a2 := Tsv id h1; omega
  replace tv := Store.okL.mk' tv k16 fun id h1 h2 => by have a1 := q8_2.lo id h2; have a2 := Ttv id h1; omega
  replace osv := osv.mk (Fl.ok _) k16 fun id h1 h2 => by have a1 := q8_2.lo id h2; have a2 := Tosv id h1; omega
  replace v4_1 := Store.okI.mk' v4_1 k16 fun id h1 h2 => by have a1 := q8_2.lo id h2; have a2 := Tv4_1 id h1; omega
  replace v4_2 := Store.okI.mk' v4_2 k16 fun id h1 h2 => by have a1 := q8_2.lo id h2; have a2 := Tv4_2 id h1; omega
  replace v8_1 := Store.okI.mk' v8_1 k16 fun id h1 h2 => dj8 id h1 h2
  have n16 := k16.next
  have g16 := k16.fl
  have f16 : h16.floor ≤ h16.next := by omega
  replace v8_2 := u16
  have hkk : ¬ (1 + ((playHand a s t os).2.1).wt + ((playHand a s t os).2.2).wt : Int) < 0 := by omega
  have d8 := heldStore_r hLStore hLShard hLBook hLAccount hLFin (Z := Z) v8_1 (by omega) (by omega)
  have hh9 : ¬ (1 + ((playHand a s t os).2.1).wt : Int) < 0 := by omega
  have d10 := heldStore_r hLStore hLShard hLBook hLAccount hLFin (Z := Z) v8_2 (by omega) (by omega)
  have hh11 : ¬ (1 + ((playHand a s t os).2.1).wt + ((playHand a s t os).2.2).wt : Int) < 0 := by omega
  obtain ⟨y17, hq17, p17, e17, oq17, vq17, qq17⟩ := toStore_c hLStore hLShard hLBook hLAccount hLFin (Z := Z) (h := ⟨h16.next, h16.next, h16.get⟩) (Nat.le_refl _) (Store.okL.up sv _) sm0
  obtain ⟨h17, mq17⟩ : ∃ g, Heap.mk hq17.next h16.floor hq17.get = g := ⟨_, rfl⟩
  have o17 : On h16 h17 := by rw [← mq17]; exact ⟨⟨oq17.ext.1, oq17.ext.2⟩, rfl⟩
  have v17 := Store.okI.up vq17 h16.floor
  rw [mq17] at v17
  have q17 : Fre h16 p17 := ⟨qq17.lo, qq17.nd⟩
  replace sv := Store.okL.on sv o17
  replace tv := Store.okL.on tv o17
  replace osv := osv.on (Fl.ok _) o17
  replace v4_1 := Store.okI.on v4_1 o17
  replace v4_2 := Store.okI.on v4_2 o17
  replace v8_1 := Store.okI.on v8_1 o17
  replace v8_2 := Store.okI.on v8_2 o17
  have n17 := o17.ext.1
  have g17 := o17.fl
  have f17 := o17.le f16
  obtain ⟨vl17, vt17, vd17⟩ := Store.lenI v17
  obtain ⟨y18, hq18, p18, e18, oq18, vq18, qq18⟩ := toStore_c hLStore hLShard hLBook hLAccount hLFin (Z := Z) (h := ⟨h17.next, h17.next, h17.get⟩) (Nat.le_refl _) (Store.okL.up tv _) sm1
  obtain ⟨h18, mq18⟩ : ∃ g, Heap.mk hq18.next h17.floor hq18.get = g := ⟨_, rfl⟩
  have o18 : On h17 h18 := by rw [← mq18]; exact ⟨⟨oq18.ext.1, oq18.ext.2⟩, rfl⟩
  have v18 := Store.okI.up vq18 h17.floor
  rw [mq18] at v18
  have q18 : Fre h17 p18 := ⟨qq18.lo, qq18.nd⟩
  replace sv := Store.okL.on sv o18
  replace tv := Store.okL.on tv o18
  replace osv := osv.on (Fl.ok _) o18
  replace v4_1 := Store.okI.on v4_1 o18
  replace v4_2 := Store.okI.on v4_2 o18
  replace v8_1 := Store.okI.on v8_1 o18
  replace v8_2 := Store.okI.on v8_2 o18
  replace v17 := Store.okI.on v17 o18
  have n18 := o18.ext.1
  have g18 := o18.fl
  have f18 := o18.le f17
  obtain ⟨vl18, vt18, vd18⟩ := Store.lenI v18
  obtain ⟨y19, hq19, p19, e19, oq19, vq19, qq19⟩ := toIntS_c hLInt (Z := Z) (h := ⟨h18.next, h18.next, h18.get⟩) (Nat.le_refl _) (osv.up (Fl.ok _) _) sm2
  obtain ⟨h19, mq19⟩ : ∃ g, Heap.mk hq19.next h18.floor hq19.get = g := ⟨_, rfl⟩
  have o19 : On h18 h19 := by rw [← mq19]; exact ⟨⟨oq19.ext.1, oq19.ext.2⟩, rfl⟩
  have v19 := vq19.up (Fl.ok _) h18.floor
  rw [mq19] at v19
  have q19 : Fre h18 p19 := ⟨qq19.lo, qq19.nd⟩
  replace sv := Store.okL.on sv o19
  replace tv := Store.okL.on tv o19
  replace osv := osv.on (Fl.ok _) o19
  replace v4_1 := Store.okI.on v4_1 o19
  replace v4_2 := Store.okI.on v4_2 o19
  replace v8_1 := Store.okI.on v8_1 o19
  replace v8_2 := Store.okI.on v8_2 o19
  replace v17 := Store.okI.on v17 o19
  replace v18 := Store.okI.on v18 o19
  have n19 := o19.ext.1
  have g19 := o19.fl
  have f19 := o19.le f18
  obtain ⟨r20_1, r20_2, hq20, p20_1, p20_2, e20, oq20, vq20_1, qq20_1, vq20_2, qq20_2, dj20⟩ := PlayHand_e ⟨hI10, hI11, hI13, hLibcmpCompareint, hLibcmpCompareuint64, hLibcmpOrint, hLibcmpisNaNint, hLibcmpisNaNuint64, hLibslicesIndeximplFinimplFin, hLibslicesContainsimplFinimplFin⟩ hI15 hLibslicesIndexFuncimplShardimplShard pr330 pr332 pr376 (Z := Z) (h := ⟨h19.next, h19.next, h19.get⟩) (Nat.le_refl _) a (Store.okI.up v17 _) (Store.okI.up v18 _) (v19.up (Fl.ok _) _) aok sok sm0 tok sm1 osok
  obtain ⟨h20, mq20⟩ : ∃ g, Heap.mk hq20.next h19.floor hq20.get = g := ⟨_, rfl⟩
  have o20 : On h19 h20 := by rw [← mq20]; exact ⟨⟨oq20.ext.1, oq20.ext.2⟩, rfl⟩
  have v20_1 := Store.okI.up vq20_1 h19.floor
  rw [mq20] at v20_1
  have q20_1 : Fre h19 p20_1 := ⟨qq20_1.lo, qq20_1.nd⟩
  have v20_2 := Store.okI.up vq20_2 h19.floor
  rw [mq20] at v20_2
  have q20_2 : Fre h19 p20_2 := ⟨qq20_2.lo, qq20_2.nd⟩
  replace sv := Store.okL.on sv o20
  replace tv := Store.okL.on tv o20
  replace osv := osv.on (Fl.ok _) o20
  replace v4_1 := Store.okI.on v4_1 o20
  replace v4_2 := Store.okI.on v4_2 o20
  replace v8_1 := Store.okI.on v8_1 o20
  replace v8_2 := Store.okI.on v8_2 o20
  replace v17 := Store.okI.on v17 o20
  replace v18 := Store.okI.on v18 o20
  replace v19 := v19.on (Fl.ok _) o20
  have n20 := o20.ext.1
  have g20 := o20.fl
  have f20 := o20.le f19
  obtain ⟨vl20_1, vt20_1, vd20_1⟩ := Store.lenI v20_1
  obtain ⟨vl20_2, vt20_2, vd20_2⟩ := Store.lenI v20_2
  have c12 := eqStore_r hLStore hLShard hLBook hLAccount hLFin (Z := Z) v20_1 v4_1
  have c13 := eqStore_r hLStore hLShard hLBook hLAccount hLFin (Z := Z) v20_2 v4_2
  have d14 := heldStore_r hLStore hLShard hLBook hLAccount hLFin (Z := Z) v8_1 (by omega) (by omega)
  have hh15 : ¬ (1 + ((playHand a s t os).2.1).wt : Int) < 0 := by omega
  have d16 := heldStore_r hLStore hLShard hLBook hLAccount hLFin (Z := Z) v8_2 (by omega) (by omega)
  have hh17 : ¬ (1 + ((playHand a s t os).2.1).wt + ((playHand a s t os).2.2).wt : Int) < 0 := by omega
  simp only [run0, run1, run2, run3, run4, noSlot, ownS, ownK, memN, RO.dst, lk, drop, forget, number, Nat.reduceBEq, cut?, splice?, builds, Nat.reduceAdd, Nat.reduceLeDiff, ↓reduceIte, reduceCtorEq, qqa, qqb, qqc, qqd, qqe, qqf, qqg, qqh, qqi, qqj, qqk, qql, qqm, qqn, qqo, qqp, qqq, qqr, qqs, qqt, qqu, qqv, qqw, qqx, qqy, hn0, hn1, toHand_e hLHand, Hand.len, Hand.tak, Hand.drp, eqHand_run hLHand, sl1, sl2, sl3, tl1, tl2, tl3, osv.len, hg2, mq1, e1, vl1, vt1, vd1, mq2, e2, vl2, vt2, vd2, mq3, e3, mq4, e4, vl4_1, vt4_1, vd4_1, vl4_2, vt4_2, vd4_2, e5, vl5, vt5, vd5, e6, vl6, vt6, vd6, e7, mq8, e8, vl8_1, vt8_1, vd8_1, vl8_2, vt8_2, vd8_2, c1, c2, mq9, e9, vl9, vt9, vd9, c3, mq10, e10, vl10, vt10, vd10, c4, e11, c5, m12, hk12, m13, hk13, m14, hk14, c6, c7, m15, m16, hkk, d8, hh9, d10, hh11, mq17, e17, vl17, vt17, vd17, mq18, e18, vl18, vt18, vd18, mq19, e19, mq20, e20, vl20_1, vt20_1, vd20_1, vl20_2, vt20_2, vd20_2, c12, c13, d14, hh15, d16, hh17]
  exact ⟨_, rfl⟩
end Go.Proofs.Ytgfclcpnefinoaa.A
namespace Go.Proofs.Ytgfclcpnefinoaa.A.ExactPlayHand
open Go Go.ChangeShapes Go.WideShapes Go.ChangeAt Go.RowKit
theorem own : ownKnob Try.prog.godebug = none := by kernel_rfl
set_option maxRecDepth 100000 in
theorem lifted (os : Os) (started : os.Started) (H : Type) (enc : TypeId × Value → H) :
    ReturnsInHanded {} Try.checked os 3 .any (Rows.fnExactPlayHandSpec.pre6 enc Try.prog Try.f3 Rows.fnExactPlayHandRow.domain false) (Rows.fnExactPlayHandSpec.post enc Try.prog Try.f3 false true false false) := by
  refine returnsInHanded_of_change_sized (C := Try.checked) own started (by kernel_rfl) Try.func3
    (ChangeSpec.witness6 (enc := enc) (C := Try.checked) false ⟨#[], #[.agg #[.int .u64 0, .int .i64 0, .int .i64 0, .int .i64 0, .int .i64 0], .agg #[.int .i64 0, .int .i64 0, .slice none 0 0], .agg #[.int .i64 0, .int .i64 0, .slice none 0 0], .slice none 0 0], []⟩ 8 (by kernel_rfl) (by kernel_rfl) (by kernel_rfl) (by kernel_rfl)) ?_
  intro W base args ds gs before hval hW _ _ _
  have hW' := hW
  obtain ⟨p, q, hA, hV, rfl, hfz, hnd⟩ := hW
  obtain ⟨rfl, rfl⟩ := trodVars_none hV
  have r0 : DataW.TrodAll enc Try.prog W 0 (fun _ => true) true [24, 27, 27, 28] args.toList ds p := hA
  obtain ⟨_, _, d0, _, _, _, _, rfl, _, _, r1⟩ := trodAll_cons r0
  obtain ⟨_, _, d1, _, _, _, _, rfl, _, _, r2⟩ := trodAll_cons r1
  obtain ⟨_, _, d2, _, _, _, _, rfl, _, _, r3⟩ := trodAll_cons r2
  obtain ⟨_, _, d3, _, _, _, _, rfl, _, _, r4⟩ := trodAll_cons r3
  obtain ⟨_, rfl, _⟩ := trodAll_nil r4
  refine (law_calls (ts := [24, 27, 27, 28]) (ss := [shHand, shStore, shStore, shIntS]) prog (show (mkCfgZ Try.prog tab ptab tags).G 366 = some 3 from by kernel_rfl) ⟨show shIs Try.prog (mkCfgZ Try.prog tab ptab tags).ET (mkCfgZ Try.prog tab ptab tags).SZ 8 24 shHand = true from by kernel_rfl, show shIs Try.prog (mkCfgZ Try.prog tab ptab tags).ET (mkCfgZ Try.prog tab ptab tags).SZ 8 27 shStore = true from by kernel_rfl, show shIs Try.prog (mkCfgZ Try.prog tab ptab tags).ET (mkCfgZ Try.prog tab ptab tags).SZ 8 27 shStore = true from by kernel_rfl, show shIs Try.prog (mkCfgZ Try.prog tab ptab tags).ET (mkCfgZ Try.prog tab ptab tags).SZ 8 28 shIntS = true from by kernel_rfl, trivial⟩ (law_ExactPlayHand inI10 inI11 inI13 inI15 inLAccount inLBook inLFin inLHand inLInt inLShard inLStore inLibcmpCompareint inLibcmpCompareuint64 inLibcmpOrint inLibcmpisNaNint inLibcmpisNaNuint64 inLibslicesContainsimplFinimplFin inLibslicesIndexFuncimplShardimplShard inLibslicesIndeximplFinimplFin inS01d inS10 inS13 inS15 inWPlayHand pr330 pr376 pr332) (fun j t v h1 => hval j t v (by rw [Try.params3]; exact (List.getElem?_toArray ..).trans h1)) hA).mono fun e W' ⟨he, bel⟩ => ?_
  subst he
  exact ⟨_, rfl, _, _, _, [], _, [], hW', trodAll_mk1 (shut_bool Try.underlying4 _), trodAll_below (by kernel_rfl) bel _ _ _ _ (by kernel_rfl) hA hA.lt, rfl, bel.frame _, fun h => by cases h⟩
theorem over : Rows.fnExactPlayHandRow.holds Try.pinned (OpenSpec.ofChange Rows.fnExactPlayHandSpec) :=
  OpenClaim.holds_of_wide 3 Try.f3 rfl rfl rfl rfl rfl rfl rfl ⟨rfl, rfl, rfl, rfl, rfl⟩ rfl rfl rfl rfl rfl (by kernel_rfl) Try.func3 (by kernel_rfl)
    (of_decide_eq_true (by kernel_rfl)) (by unfold Func.isWrapper; first | (rw [if_pos (by decide +kernel)]; kernel_rfl) | (rw [if_neg (by decide +kernel)]; exact ⟨rfl, rfl⟩))
    (fun os started H enc _ => lifted os started H enc)
end Go.Proofs.Ytgfclcpnefinoaa.A.ExactPlayHand
namespace Go.Proofs.Ytgfclcpnefinoaa
/-- The row. -/
theorem fnExactPlayHand_holds : Rows.FnExactPlayHandSaid := A.ExactPlayHand.over
#print axioms fnExactPlayHand_holds
end Go.Proofs.Ytgfclcpnefinoaa
