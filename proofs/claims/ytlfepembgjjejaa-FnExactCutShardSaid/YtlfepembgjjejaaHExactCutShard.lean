/- FnExactCutShard: the statement, from the law of the abstract run. No condition. -/
import Derived.Test.YtlfepembgjjejaaHCExactCutShard4
import Derived.Test.YtlfepembgjjejaaB6
import Derived.Test.YtlfepembgjjejaaZ7
import Derived.Test.YtlfepembgjjejaaProg
import Derived.Test.YtlfepembgjjejaaRows
import Derived.ProofKit
import Derived.OpenShut
import Derived.ShutString
import Derived.ChangeOld
import Derived.Below
import Derived.SizedLaws
/- The functions that FnExactCutShard reaches: the program's code against the compact code, entry by entry. -/
namespace Go.Proofs.Ytlfepembgjjejaa.A.ExactCutShard
open Go
def c : CC where
  T := [(3, ⟨1, 8, false, some [.int .i64 0], (.int .i64)⟩),
    (4, ⟨1, 1, false, some [.bool false], .bool⟩),
    (23, ⟨1, 8, false, some [.int .u64 0], (.int .u64)⟩),
    (25, ⟨1, 24, false, some [.nil], (.slice 3 15)⟩),
    (34, ⟨1, 24, false, some [.nil], (.slice 82 20)⟩),
    (36, ⟨3, 40, true, some [.int .i64 0, .int .i64 0, .nil], (.struct [(0, 1, false), (1, 1, false), (2, 1, false)])⟩),
    (38, ⟨1, 24, false, some [.nil], (.slice 70 16)⟩),
    (40, ⟨3, 40, true, some [.int .i64 0, .int .i64 0, .nil], (.struct [(0, 1, false), (1, 1, false), (2, 1, false)])⟩),
    (47, ⟨1, 24, false, some [.nil], (.slice 141 12)⟩),
    (49, ⟨1, 24, true, some [.nil], (.struct [(0, 1, false)])⟩),
    (53, ⟨1, 24, false, some [.nil], (.slice 113 11)⟩),
    (55, ⟨1, 24, true, some [.nil], (.struct [(0, 1, false)])⟩),
    (68, ⟨1, 24, false, some [.nil], (.slice 133 9)⟩),
    (70, ⟨6, 80, true, some [.int .u64 0, .int .u64 0, .int .i64 0, .int .i64 0, .nil, .nil], (.struct [(0, 1, false), (1, 1, false), (2, 1, false), (3, 1, false), (4, 1, true), (5, 1, false)])⟩),
    (80, ⟨1, 24, false, some [.nil], (.slice 150 10)⟩),
    (82, ⟨6, 80, true, some [.int .u64 0, .int .u64 0, .int .i64 0, .int .i64 0, .nil, .nil], (.struct [(0, 1, false), (1, 1, false), (2, 1, false), (3, 1, false), (4, 1, true), (5, 1, false)])⟩),
    (113, ⟨5, 40, true, some [.int .u64 0, .int .u64 0, .int .u64 0, .int .u64 0, .int .i64 0], (.struct [(0, 1, false), (1, 1, false), (2, 1, false), (3, 1, false), (4, 1, false)])⟩),
    (133, ⟨2, 16, true, some [.int .i64 0, .int .u64 0], (.struct [(0, 1, false), (1, 1, false)])⟩),
    (141, ⟨5, 40, true, some [.int .u64 0, .int .u64 0, .int .u64 0, .int .u64 0, .int .i64 0], (.struct [(0, 1, false), (1, 1, false), (2, 1, false), (3, 1, false), (4, 1, false)])⟩),
    (150, ⟨2, 16, true, some [.int .i64 0, .int .u64 0], (.struct [(0, 1, false), (1, 1, false)])⟩)]
  F := [(10, 310), (21, 154), (23, 155), (25, 158), (26, 191), (27, 292), (28, 128), (30, 130), (33, 133), (46, 111), (48, 112), (50, 114), (52, 311), (53, 312), (59, 211), (61, 212), (62, 230), (63, 203), (64, 316), (65, 317), (66, 318), (67, 205), (68, 319), (69, 320), (70, 321), (71, 207), (72, 322), (73, 136), (74, 259), (75, 241), (82, 137), (84, 139), (85, 261), (86, 262), (88, 156), (89, 228), (91, 206), (97, 129), (98, 204), (99, 131), (100, 244), (101, 229), (102, 332), (103, 134), (104, 232), (105, 333), (109, 248), (110, 247), (111, 5), (112, 234), (115, 141), (116, 260), (117, 265), (124, 142), (126, 7), (130, 242), (131, 243), (132, 138), (133, 266), (134, 267), (137, 140), (145, 272), (146, 275), (147, 273), (148, 274), (153, 276), (154, 277)]
  eqT := [(133, [.i .i64, .i .u64])]
  adds := [139]
def F : Nat → Option RF := lk (tI10 ++ tI11 ++ tI13 ++ tLAccount ++ tLBook ++ tLFin ++ tLShard ++ tLStore ++ tLibcmpCompareint ++ tLibcmpCompareuint64 ++ tLibcmpOrint ++ tLibcmpisNaNint ++ tLibcmpisNaNuint64 ++ tLibslicesContainsimplFinimplFin ++ tLibslicesIndexFuncimplShardimplShard ++ tLibslicesIndeximplFinimplFin ++ tS01d ++ tS10 ++ tS13 ++ tWCutShard)
def tab : List (Nat × FuncId × RF) := [(310, 10, r310), (154, 21, r154), (155, 23, r155), (158, 25, r158), (191, 26, r191), (292, 27, r292), (311, 52, r311), (312, 53, r312), (203, 63, r203), (205, 67, r205), (207, 71, r207), (230, 62, r230), (322, 72, r322), (211, 59, r211), (316, 64, r316), (317, 65, r317), (318, 66, r318), (228, 89, r228), (333, 105, r333), (212, 61, r212), (319, 68, r319), (320, 69, r320), (321, 70, r321), (111, 46, r111), (112, 48, r112), (114, 50, r114), (261, 85, r261), (232, 104, r232), (262, 86, r262), (234, 112, r234), (156, 88, r156), (5, 111, r5), (259, 74, r259), (248, 109, r248), (247, 110, r247), (206, 91, r206), (229, 101, r229), (128, 28, r128), (129, 97, r129), (130, 30, r130), (131, 99, r131), (133, 33, r133), (134, 103, r134), (204, 98, r204), (244, 100, r244), (7, 126, r7), (260, 116, r260), (136, 73, r136), (137, 82, r137), (138, 132, r138), (139, 84, r139), (140, 137, r140), (241, 75, r241), (242, 130, r242), (243, 131, r243), (265, 117, r265), (266, 133, r266), (267, 134, r267), (141, 115, r141), (142, 124, r142), (272, 145, r272), (275, 146, r275), (273, 147, r273), (274, 148, r274), (276, 153, r276), (277, 154, r277)]
def tags : List (Nat × TypeId × Nat) := [(9, 133, 2), (10, 150, 2), (11, 113, 5), (12, 141, 5), (15, 3, 1), (16, 70, 6), (20, 82, 6)]
open Go.Shelf
def ptab : List (Nat × FuncId × PrimF) := [(332, 102, (insF 16 80))]
theorem i70 : (Try.prog.info? 70).isSome = true := by kernel_rfl
noncomputable def inf70 : TypeInfo := (Try.prog.info? 70).get i70
theorem z70 : inf70.zero.isSome = true := by kernel_rfl
noncomputable def zv70 : Value := inf70.zero.get z70
theorem p332 : Z.InsT Try.prog (renI 102 135 136 3 4 70 38) 6 80 zv70 where
  mixed := by kernel_rfl
  f22 := ⟨(Try.prog.funcs[102]?.map (·.name)).getD "", by kernel_rfl, by kernel_rfl⟩
  f29 := ⟨Try.f135, Try.func135, by kernel_rfl, by kernel_rfl, by kernel_rfl, by kernel_rfl⟩
  t3 := by kernel_rfl
  t4 := by kernel_rfl
  t24 := by kernel_rfl
  i9 := ⟨inf70, (Option.some_get i70).symm, by kernel_rfl, by kernel_rfl, (Option.some_get z70).symm, by kernel_rfl, by decide⟩
theorem ok310 : FnOk Try.prog c F (310, 10, r310) := ⟨Try.f10, [], [[0, 1, 2, 3, 4], [0, 1, 2, 3, 4], []], Try.func10, by kernel_rfl, by kernel_rfl, by kernel_rfl⟩
theorem ok154 : FnOk Try.prog c F (154, 21, r154) := ⟨Try.f21, [], [], Try.func21, by kernel_rfl, by kernel_rfl, by kernel_rfl⟩
theorem ok155 : FnOk Try.prog c F (155, 23, r155) := ⟨Try.f23, [], [], Try.func23, by kernel_rfl, by kernel_rfl, by kernel_rfl⟩
theorem ok158 : FnOk Try.prog c F (158, 25, r158) := ⟨Try.f25, [], [], Try.func25, by kernel_rfl, by kernel_rfl, by kernel_rfl⟩
theorem ok191 : FnOk Try.prog c F (191, 26, r191) := ⟨Try.f26, [], [], Try.func26, by kernel_rfl, by kernel_rfl, by kernel_rfl⟩
theorem ok292 : FnOk Try.prog c F (292, 27, r292) := ⟨Try.f27, [], [], Try.func27, by kernel_rfl, by kernel_rfl, by kernel_rfl⟩
theorem ok311 : FnOk Try.prog c F (311, 52, r311) := ⟨Try.f52, [], [[1, 2, 3, 6, 8, 9, 10], [5, 6, 7, 0, 1, 2, 3, 4, 8, 9, 10, 11, 12], [0, 1, 2, 3, 4, 5, 6, 7, 8, 9, 10, 11, 12], [], [3, 6, 0, 1, 2, 4, 5, 7, 8, 9, 10, 11], [0, 1, 2, 3, 4, 5, 6, 7, 8, 9, 10, 11], [], [0, 1, 2, 3, 4, 5, 6, 7], [0, 1, 2, 3, 4, 5, 6, 7], []], Try.func52, by kernel_rfl, by kernel_rfl, by kernel_rfl⟩
theorem ok312 : FnOk Try.prog c F (312, 53, r312) := ⟨Try.f53, [11, 12], [[9, 10, 2, 3, 5, 0, 1, 4, 6, 7, 8, 11, 12], [0, 1, 2, 3, 4, 5, 6, 7, 8, 9, 10, 11, 12], [11, 12], [1, 2, 6, 8, 9, 10, 11, 12, 74, 75, 76], [0, 1, 2, 3, 4, 5, 6, 7, 8, 9, 10, 11, 12], [0, 1, 2, 3, 4, 5, 6, 7, 8, 9, 10, 11, 12], [], [1, 2, 6, 8, 9, 11, 12, 98, 99, 100], [0, 1, 2, 3, 4, 5, 6, 7, 8, 9, 10], [0, 1, 2, 3, 4, 5, 6, 7, 8, 9, 10], []], Try.func53, by kernel_rfl, by kernel_rfl, by kernel_rfl⟩
theorem ok203 : FnOk Try.prog c F (203, 63, r203) := ⟨Try.f63, [], [[0, 1, 5]], Try.func63, by kernel_rfl, by kernel_rfl, by kernel_rfl⟩
theorem ok205 : FnOk Try.prog c F (205, 67, r205) := ⟨Try.f67, [], [[0, 3, 4]], Try.func67, by kernel_rfl, by kernel_rfl, by kernel_rfl⟩
theorem ok207 : FnOk Try.prog c F (207, 71, r207) := ⟨Try.f71, [], [[0, 1, 5], [0, 1, 2, 4, 5, 6, 3, 7, 8, 9], [0, 1, 2, 3, 4, 5, 6, 7, 8, 9], []], Try.func71, by kernel_rfl, by kernel_rfl, by kernel_rfl⟩
theorem ok230 : FnOk Try.prog c F (230, 62, r230) := ⟨Try.f62, [], [[0, 1, 5]], Try.func62, by kernel_rfl, by kernel_rfl, by kernel_rfl⟩
theorem ok322 : FnOk Try.prog c F (322, 72, r322) := ⟨Try.f72, [], [[0, 1, 5]], Try.func72, by kernel_rfl, by kernel_rfl, by kernel_rfl⟩
theorem ok211 : FnOk Try.prog c F (211, 59, r211) := ⟨Try.f59, [], [[1, 2, 5]], Try.func59, by kernel_rfl, by kernel_rfl, by kernel_rfl⟩
theorem ok316 : FnOk Try.prog c F (316, 64, r316) := ⟨Try.f64, [], [], Try.func64, by kernel_rfl, by kernel_rfl, by kernel_rfl⟩
theorem ok317 : FnOk Try.prog c F (317, 65, r317) := ⟨Try.f65, [], [[1, 2, 3, 4], [4, 0, 1, 2, 3, 5, 6, 7, 8, 9, 10, 11], [0, 1, 2, 3, 4, 5, 6, 7, 8, 9, 10, 11], []], Try.func65, by kernel_rfl, by kernel_rfl, by kernel_rfl⟩
theorem ok318 : FnOk Try.prog c F (318, 66, r318) := ⟨Try.f66, [], [[1, 4, 5, 6]], Try.func66, by kernel_rfl, by kernel_rfl, by kernel_rfl⟩
theorem ok228 : FnOk Try.prog c F (228, 89, r228) := ⟨Try.f89, [], [[1, 2, 3, 4]], Try.func89, by kernel_rfl, by kernel_rfl, by kernel_rfl⟩
theorem ok333 : FnOk Try.prog c F (333, 105, r333) := ⟨Try.f105, [], [[1, 2, 4, 8, 9, 10], [6, 0, 1, 2, 3, 4, 5, 7, 8, 9, 10, 11, 12, 13], [0, 1, 2, 3, 4, 5, 6, 7, 8, 9, 10, 11, 12, 13], [], [1, 2, 4, 8, 9, 11], [4, 0, 1, 2, 3, 5, 6, 7, 8, 9, 10], [0, 1, 2, 3, 4, 5, 6, 7, 8, 9, 10], []], Try.func105, by kernel_rfl, by kernel_rfl, by kernel_rfl⟩
theorem ok212 : FnOk Try.prog c F (212, 61, r212) := ⟨Try.f61, [3], [], Try.func61, by kernel_rfl, by kernel_rfl, by kernel_rfl⟩
theorem ok319 : FnOk Try.prog c F (319, 68, r319) := ⟨Try.f68, [], [], Try.func68, by kernel_rfl, by kernel_rfl, by kernel_rfl⟩
theorem ok320 : FnOk Try.prog c F (320, 69, r320) := ⟨Try.f69, [], [[2, 3, 12, 13, 14], [0, 1, 2, 3, 4, 5, 6, 7], [0, 1, 2, 3, 4, 5, 6, 7], []], Try.func69, by kernel_rfl, by kernel_rfl, by kernel_rfl⟩
theorem ok321 : FnOk Try.prog c F (321, 70, r321) := ⟨Try.f70, [], [[1, 2, 4, 10, 11]], Try.func70, by kernel_rfl, by kernel_rfl, by kernel_rfl⟩
theorem ok111 : FnOk Try.prog c F (111, 46, r111) := ⟨Try.f46, [], [], Try.func46, by kernel_rfl, by kernel_rfl, by kernel_rfl⟩
theorem ok112 : FnOk Try.prog c F (112, 48, r112) := ⟨Try.f48, [], [], Try.func48, by kernel_rfl, by kernel_rfl, by kernel_rfl⟩
theorem ok114 : FnOk Try.prog c F (114, 50, r114) := ⟨Try.f50, [], [], Try.func50, by kernel_rfl, by kernel_rfl, by kernel_rfl⟩
theorem ok261 : FnOk Try.prog c F (261, 85, r261) := ⟨Try.f85, [], [[0, 1, 5]], Try.func85, by kernel_rfl, by kernel_rfl, by kernel_rfl⟩
theorem ok232 : FnOk Try.prog c F (232, 104, r232) := ⟨Try.f104, [], [[0, 1, 5]], Try.func104, by kernel_rfl, by kernel_rfl, by kernel_rfl⟩
theorem ok262 : FnOk Try.prog c F (262, 86, r262) := ⟨Try.f86, [], [[0, 1, 5]], Try.func86, by kernel_rfl, by kernel_rfl, by kernel_rfl⟩
theorem ok234 : FnOk Try.prog c F (234, 112, r234) := ⟨Try.f112, [], [[0, 1, 5]], Try.func112, by kernel_rfl, by kernel_rfl, by kernel_rfl⟩
theorem ok156 : FnOk Try.prog c F (156, 88, r156) := ⟨Try.f88, [], [[1, 3], [0, 1, 2, 3, 4, 5, 6, 7, 8, 9, 10, 11, 12, 13, 16, 17, 14, 15, 18, 19, 20, 21, 22, 23, 24, 25], [0, 1, 2, 3, 4, 5, 6, 7, 8, 9, 10, 11, 12, 13, 14, 15, 16, 17, 18, 19, 20, 21, 22, 23, 24, 25], []], Try.func88, by kernel_rfl, by kernel_rfl, by kernel_rfl⟩
theorem ok5 : FnOk Try.prog c F (5, 111, r5) := ⟨Try.f111, [], [], Try.func111, by kernel_rfl, by kernel_rfl, by kernel_rfl⟩
theorem ok259 : FnOk Try.prog c F (259, 74, r259) := ⟨Try.f74, [], [[1, 2, 3, 4], [4, 0, 1, 2, 3, 5, 6, 7, 8, 9, 10], [0, 1, 2, 3, 4, 5, 6, 7, 8, 9, 10], []], Try.func74, by kernel_rfl, by kernel_rfl, by kernel_rfl⟩
theorem ok248 : FnOk Try.prog c F (248, 109, r248) := ⟨Try.f109, [], [[0, 1, 7, 8]], Try.func109, by kernel_rfl, by kernel_rfl, by kernel_rfl⟩
theorem ok247 : FnOk Try.prog c F (247, 110, r247) := ⟨Try.f110, [], [], Try.func110, by kernel_rfl, by kernel_rfl, by kernel_rfl⟩
theorem ok206 : FnOk Try.prog c F (206, 91, r206) := ⟨Try.f91, [], [[1, 26, 27, 28], [0, 1, 2, 3, 4, 5, 6, 7, 8, 9, 10, 11, 12, 13, 16, 17, 14, 15, 18, 19, 20, 21, 22, 23, 24, 25], [0, 1, 2, 3, 4, 5, 6, 7, 8, 9, 10, 11, 12, 13, 14, 15, 16, 17, 18, 19, 20, 21, 22, 23, 24, 25], []], Try.func91, by kernel_rfl, by kernel_rfl, by kernel_rfl⟩
theorem ok229 : FnOk Try.prog c F (229, 101, r229) := ⟨Try.f101, [], [], Try.func101, by kernel_rfl, by kernel_rfl, by kernel_rfl⟩
theorem ok128 : FnOk Try.prog c F (128, 28, r128) := ⟨Try.f28, [], [], Try.func28, by kernel_rfl, by kernel_rfl, by kernel_rfl⟩
theorem ok129 : FnOk Try.prog c F (129, 97, r129) := ⟨Try.f97, [], [], Try.func97, by kernel_rfl, by kernel_rfl, by kernel_rfl⟩
theorem ok130 : FnOk Try.prog c F (130, 30, r130) := ⟨Try.f30, [], [], Try.func30, by kernel_rfl, by kernel_rfl, by kernel_rfl⟩
theorem ok131 : FnOk Try.prog c F (131, 99, r131) := ⟨Try.f99, [], [[0, 3, 4]], Try.func99, by kernel_rfl, by kernel_rfl, by kernel_rfl⟩
theorem ok133 : FnOk Try.prog c F (133, 33, r133) := ⟨Try.f33, [], [], Try.func33, by kernel_rfl, by kernel_rfl, by kernel_rfl⟩
theorem ok134 : FnOk Try.prog c F (134, 103, r134) := ⟨Try.f103, [], [[0, 1, 5], [0, 1, 2, 4, 5, 6, 3, 7, 8, 9], [0, 1, 2, 3, 4, 5, 6, 7, 8, 9], []], Try.func103, by kernel_rfl, by kernel_rfl, by kernel_rfl⟩
theorem ok204 : FnOk Try.prog c F (204, 98, r204) := ⟨Try.f98, [], [[1, 3], [0, 1, 2, 3, 4, 5, 6, 7, 8, 9, 10, 11, 12, 13, 14, 15, 16, 17, 18, 19, 20, 23, 24, 21, 22, 25, 26, 27, 28, 29, 30, 31], [0, 1, 2, 3, 4, 5, 6, 7, 8, 9, 10, 11, 12, 13, 14, 15, 16, 17, 18, 19, 20, 21, 22, 23, 24, 25, 26, 27, 28, 29, 30, 31], [], [1, 5]], Try.func98, by kernel_rfl, by kernel_rfl, by kernel_rfl⟩
theorem ok244 : FnOk Try.prog c F (244, 100, r244) := ⟨Try.f100, [], [[1, 46, 47, 48], [1, 76, 77, 78], [0, 1, 2, 3, 4, 5, 6, 7, 8, 9, 10, 11, 12, 13, 14, 15, 16, 17, 18, 19, 20, 23, 24, 21, 22, 25, 26, 27, 28, 29, 30, 31], [0, 1, 2, 3, 4, 5, 6, 7, 8, 9, 10, 11, 12, 13, 14, 15, 16, 17, 18, 19, 20, 21, 22, 23, 24, 25, 26, 27, 28, 29, 30, 31], []], Try.func100, by kernel_rfl, by kernel_rfl, by kernel_rfl⟩
theorem ok7 : FnOk Try.prog c F (7, 126, r7) := ⟨Try.f126, [], [], Try.func126, by kernel_rfl, by kernel_rfl, by kernel_rfl⟩
theorem ok260 : FnOk Try.prog c F (260, 116, r260) := ⟨Try.f116, [], [], Try.func116, by kernel_rfl, by kernel_rfl, by kernel_rfl⟩
theorem ok136 : FnOk Try.prog c F (136, 73, r136) := ⟨Try.f73, [], [], Try.func73, by kernel_rfl, by kernel_rfl, by kernel_rfl⟩
theorem ok137 : FnOk Try.prog c F (137, 82, r137) := ⟨Try.f82, [], [[0, 3, 4]], Try.func82, by kernel_rfl, by kernel_rfl, by kernel_rfl⟩
theorem ok138 : FnOk Try.prog c F (138, 132, r138) := ⟨Try.f132, [], [], Try.func132, by kernel_rfl, by kernel_rfl, by kernel_rfl⟩
theorem ok139 : FnOk Try.prog c F (139, 84, r139) := ⟨Try.f84, [], [[0, 1, 5], [0, 1, 2, 4, 5, 6, 3, 7, 8, 9], [0, 1, 2, 3, 4, 5, 6, 7, 8, 9], []], Try.func84, by kernel_rfl, by kernel_rfl, by kernel_rfl⟩
theorem ok140 : FnOk Try.prog c F (140, 137, r140) := ⟨Try.f137, [], [], Try.func137, by kernel_rfl, by kernel_rfl, by kernel_rfl⟩
theorem ok241 : FnOk Try.prog c F (241, 75, r241) := ⟨Try.f75, [], [[1, 3], [0, 1, 2, 5, 6, 3, 4, 7, 8, 9, 10, 11, 12, 13, 14, 15, 16, 17, 18, 19, 20, 21, 22, 23, 24, 25, 26, 27, 28, 29, 30, 31, 32, 33], [0, 1, 2, 3, 4, 5, 6, 7, 8, 9, 10, 11, 12, 13, 14, 15, 16, 17, 18, 19, 20, 21, 22, 23, 24, 25, 26, 27, 28, 29, 30, 31, 32, 33], []], Try.func75, by kernel_rfl, by kernel_rfl, by kernel_rfl⟩
theorem ok242 : FnOk Try.prog c F (242, 130, r242) := ⟨Try.f130, [], [], Try.func130, by kernel_rfl, by kernel_rfl, by kernel_rfl⟩
theorem ok243 : FnOk Try.prog c F (243, 131, r243) := ⟨Try.f131, [], [[0, 3, 5], [0, 1, 2, 3, 4, 5], [0, 1, 2, 3, 4, 5], []], Try.func131, by kernel_rfl, by kernel_rfl, by kernel_rfl⟩
theorem ok265 : FnOk Try.prog c F (265, 117, r265) := ⟨Try.f117, [], [[1, 10, 11, 12], [0, 1, 2, 3, 4, 5, 6, 7, 8, 9, 10, 11, 12, 13, 14, 15, 16, 17, 18, 19, 20, 21, 22, 23, 24, 25, 26, 27, 30, 31, 28, 29, 32, 33, 34, 35, 36, 37, 38, 39], [0, 1, 2, 3, 4, 5, 6, 7, 8, 9, 10, 11, 12, 13, 14, 15, 16, 17, 18, 19, 20, 21, 22, 23, 24, 25, 26, 27, 28, 29, 30, 31, 32, 33, 34, 35, 36, 37, 38, 39], []], Try.func117, by kernel_rfl, by kernel_rfl, by kernel_rfl⟩
theorem ok266 : FnOk Try.prog c F (266, 133, r266) := ⟨Try.f133, [], [], Try.func133, by kernel_rfl, by kernel_rfl, by kernel_rfl⟩
theorem ok267 : FnOk Try.prog c F (267, 134, r267) := ⟨Try.f134, [], [[0, 1, 2, 3, 5, 6, 7, 8, 4, 9, 10, 11, 12], [0, 1, 2, 3, 4, 5, 6, 7, 8, 9, 10, 11, 12], []], Try.func134, by kernel_rfl, by kernel_rfl, by kernel_rfl⟩
theorem ok141 : FnOk Try.prog c F (141, 115, r141) := ⟨Try.f115, [], [], Try.func115, by kernel_rfl, by kernel_rfl, by kernel_rfl⟩
theorem ok142 : FnOk Try.prog c F (142, 124, r142) := ⟨Try.f124, [], [], Try.func124, by kernel_rfl, by kernel_rfl, by kernel_rfl⟩
theorem ok272 : FnOk Try.prog c F (272, 145, r272) := ⟨Try.f145, [], [[0, 3, 7, 8], [1, 2, 3, 0, 4, 5], [0, 1, 2, 3, 4, 5], []], Try.func145, by kernel_rfl, by kernel_rfl, by kernel_rfl⟩
theorem ok275 : FnOk Try.prog c F (275, 146, r275) := ⟨Try.f146, [], [[3, 6, 7, 8]], Try.func146, by kernel_rfl, by kernel_rfl, by kernel_rfl⟩
theorem ok273 : FnOk Try.prog c F (273, 147, r273) := ⟨Try.f147, [], [], Try.func147, by kernel_rfl, by kernel_rfl, by kernel_rfl⟩
theorem ok274 : FnOk Try.prog c F (274, 148, r274) := ⟨Try.f148, [], [], Try.func148, by kernel_rfl, by kernel_rfl, by kernel_rfl⟩
theorem ok276 : FnOk Try.prog c F (276, 153, r276) := ⟨Try.f153, [], [], Try.func153, by kernel_rfl, by kernel_rfl, by kernel_rfl⟩
theorem ok277 : FnOk Try.prog c F (277, 154, r277) := ⟨Try.f154, [], [], Try.func154, by kernel_rfl, by kernel_rfl, by kernel_rfl⟩
theorem okT : (c.T.all fun x => x.2.okB Try.prog (mkCfgZ Try.prog tab ptab tags).ET (mkCfgZ Try.prog tab ptab tags).SZ x.1) = true := by kernel_rfl
theorem okF : (c.F.all fun x => decide ((mkCfgZ Try.prog tab ptab tags).G x.2 = some x.1)) = true := by kernel_rfl
theorem okTab : AllT (FnOk Try.prog c F) tab := ⟨ok310, ok154, ok155, ok158, ok191, ok292, ok311, ok312, ok203, ok205, ok207, ok230, ok322, ok211, ok316, ok317, ok318, ok228, ok333, ok212, ok319, ok320, ok321, ok111, ok112, ok114, ok261, ok232, ok262, ok234, ok156, ok5, ok259, ok248, ok247, ok206, ok229, ok128, ok129, ok130, ok131, ok133, ok134, ok204, ok244, ok7, ok260, ok136, ok137, ok138, ok139, ok140, ok241, ok242, ok243, ok265, ok266, ok267, ok141, ok142, ok272, ok275, ok273, ok274, ok276, ok277, trivial⟩
theorem okP : AllT (PFn Try.prog F) ptab := ⟨⟨⟨Try.f102, Try.func102, by kernel_rfl, by kernel_rfl⟩, rfl, step_ins _ _⟩, trivial⟩
theorem prog (O : Nat) : ProgOk ((mkCfgZ Try.prog tab ptab tags).at O) c F (primZ ptab) :=
  mkProgZ okT okF okTab okP ⟨⟨Try.f139, Try.func139, by kernel_rfl, by kernel_rfl, by kernel_rfl, by kernel_rfl⟩, trivial⟩ ⟨⟨by kernel_rfl, by kernel_rfl, by kernel_rfl⟩, trivial⟩ O ⟨ins_ok (ρ := renI 102 135 136 3 4 70 38) (k := 6) rfl rfl p332, trivial⟩
theorem pr332 : PrimAt F (primZ ptab) 332 (insF 16 80) := primAt (ptab := ptab) (n := 332) (x := (102, (insF 16 80))) rfl rfl
theorem inI10 : AllT (fun x => F x.1 = some x.2) tI10 := ⟨rfl, rfl, rfl, rfl, rfl, rfl, rfl, rfl, rfl, rfl, rfl, rfl, rfl, trivial⟩
theorem inI11 : AllT (fun x => F x.1 = some x.2) tI11 := ⟨rfl, rfl, rfl, rfl, rfl, rfl, trivial⟩
theorem inI13 : AllT (fun x => F x.1 = some x.2) tI13 := ⟨rfl, rfl, rfl, rfl, rfl, rfl, rfl, rfl, rfl, rfl, rfl, rfl, rfl, rfl, rfl, rfl, rfl, rfl, rfl, rfl, trivial⟩
theorem inLAccount : AllT (fun x => F x.1 = some x.2) tLAccount := ⟨rfl, rfl, rfl, rfl, rfl, rfl, rfl, trivial⟩
theorem inLBook : AllT (fun x => F x.1 = some x.2) tLBook := ⟨rfl, rfl, rfl, rfl, rfl, trivial⟩
theorem inLFin : AllT (fun x => F x.1 = some x.2) tLFin := ⟨rfl, rfl, rfl, rfl, rfl, rfl, rfl, trivial⟩
theorem inLShard : AllT (fun x => F x.1 = some x.2) tLShard := ⟨rfl, rfl, rfl, rfl, rfl, rfl, rfl, rfl, rfl, rfl, trivial⟩
theorem inLStore : AllT (fun x => F x.1 = some x.2) tLStore := ⟨rfl, rfl, rfl, rfl, rfl, rfl, rfl, rfl, rfl, trivial⟩
theorem inLibcmpCompareint : AllT (fun x => F x.1 = some x.2) tLibcmpCompareint := ⟨rfl, trivial⟩
theorem inLibcmpCompareuint64 : AllT (fun x => F x.1 = some x.2) tLibcmpCompareuint64 := ⟨rfl, trivial⟩
theorem inLibcmpOrint : AllT (fun x => F x.1 = some x.2) tLibcmpOrint := ⟨rfl, trivial⟩
theorem inLibcmpisNaNint : AllT (fun x => F x.1 = some x.2) tLibcmpisNaNint := ⟨rfl, trivial⟩
theorem inLibcmpisNaNuint64 : AllT (fun x => F x.1 = some x.2) tLibcmpisNaNuint64 := ⟨rfl, trivial⟩
theorem inLibslicesContainsimplFinimplFin : AllT (fun x => F x.1 = some x.2) tLibslicesContainsimplFinimplFin := ⟨rfl, trivial⟩
theorem inLibslicesIndexFuncimplShardimplShard : AllT (fun x => F x.1 = some x.2) tLibslicesIndexFuncimplShardimplShard := ⟨rfl, trivial⟩
theorem inLibslicesIndeximplFinimplFin : AllT (fun x => F x.1 = some x.2) tLibslicesIndeximplFinimplFin := ⟨rfl, trivial⟩
theorem inS01d : AllT (fun x => F x.1 = some x.2) tS01d := ⟨rfl, rfl, rfl, rfl, rfl, rfl, rfl, rfl, rfl, trivial⟩
theorem inS10 : AllT (fun x => F x.1 = some x.2) tS10 := ⟨rfl, rfl, rfl, rfl, rfl, rfl, rfl, rfl, rfl, rfl, rfl, rfl, rfl, trivial⟩
theorem inS13 : AllT (fun x => F x.1 = some x.2) tS13 := ⟨rfl, rfl, rfl, rfl, rfl, rfl, rfl, rfl, rfl, rfl, rfl, rfl, rfl, rfl, rfl, rfl, rfl, rfl, rfl, rfl, rfl, trivial⟩
theorem inWCutShard : AllT (fun x => F x.1 = some x.2) tWCutShard := ⟨rfl, trivial⟩
end Go.Proofs.Ytlfepembgjjejaa.A.ExactCutShard
/- CutShard: the law's function, run on any arguments, answers true. -/
namespace Go.Proofs.Ytlfepembgjjejaa.A
open Go
set_option linter.unusedSimpArgs false
set_option linter.unusedVariables false
set_option maxHeartbeats 2000000 in
theorem law_ExactCutShard {F : Nat → Option RF} {Z : CallF} (hI10 : Has F tI10) (hI11 : Has F tI11) (hI13 : Has F tI13) (hLAccount : Has F tLAccount) (hLBook : Has F tLBook) (hLFin : Has F tLFin) (hLShard : Has F tLShard) (hLStore : Has F tLStore) (hLibcmpCompareint : Has F tLibcmpCompareint) (hLibcmpCompareuint64 : Has F tLibcmpCompareuint64) (hLibcmpOrint : Has F tLibcmpOrint) (hLibcmpisNaNint : Has F tLibcmpisNaNint) (hLibcmpisNaNuint64 : Has F tLibcmpisNaNuint64) (hLibslicesContainsimplFinimplFin : Has F tLibslicesContainsimplFinimplFin) (hLibslicesIndexFuncimplShardimplShard : Has F tLibslicesIndexFuncimplShardimplShard) (hLibslicesIndeximplFinimplFin : Has F tLibslicesIndeximplFinimplFin) (hS01d : Has F tS01d) (hS10 : Has F tS10) (hS13 : Has F tS13) (hWCutShard : Has F tWCutShard) (pr332 : PrimAt F Z 332 (insF 16 80)) (h : Heap) (avs : List V) (hfl : h.floor = h.next) (w : ArgsWf h 8 [shStore, .int .u64, .int .i64] avs) : ∃ h', call F Z 310 avs h = some (.c (.bool true), h') := by
  obtain ⟨sc, _, rfl, sw, w1⟩ := ArgsWf.struct w
  obtain ⟨s, sp, sv, sok⟩ := Wf.isStore sw
  obtain ⟨sl1, sl2, sl3⟩ := Store.lenL sv
  obtain ⟨a, _, rfl, aw, w2⟩ := ArgsWf.int w1
  obtain ⟨e, _, rfl, ew, w3⟩ := ArgsWf.int w2
  obtain rfl := w3.nil
  have f0 : h.floor ≤ h.next := by omega
  rw [call_run F Z (hWCutShard.lk (g := 310) rfl) _ _ rfl]
  obtain ⟨l0, s0, s0l, s0k⟩ := szStore_c hLStore hLShard hLBook hLAccount hLFin (Z := Z) sv 1048576 (by omega) (by omega)
  simp only [run0, run1, run2, run3, run4, noSlot, ownS, ownK, memN, RO.dst, lk, drop, forget, number, Nat.reduceBEq, cut?, splice?, builds, List.length_cons, List.length_nil, List.drop_succ_cons, List.drop_zero, List.take_succ_cons, List.take_zero, List.cons_append, List.nil_append, List.append_nil, List.drop_nil, List.take_nil, Nat.reduceAdd, Nat.reduceLeDiff, Nat.zero_add, Nat.add_zero, ↓reduceIte, Bool.not_true, Bool.not_false, decide_true, decide_false, eq_self, bne_self_eq_false, List.getElem?_cons_zero, List.getElem?_cons_succ, decide_eq_true_eq, Bool.false_eq_true, Bool.true_eq_false, reduceCtorEq, Nat.le_refl, s0, sl1, sl2, sl3]
  by_cases hn0 : l0 < 0
  · simp only [run0, run1, run2, run3, run4, noSlot, ownS, ownK, memN, RO.dst, lk, drop, forget, number, Nat.reduceBEq, cut?, splice?, builds, List.length_cons, List.length_nil, List.drop_succ_cons, List.drop_zero, List.take_succ_cons, List.take_zero, List.cons_append, List.nil_append, List.append_nil, List.drop_nil, List.take_nil, Nat.reduceAdd, Nat.reduceLeDiff, Nat.zero_add, Nat.add_zero, ↓reduceIte, Bool.not_true, Bool.not_false, decide_true, decide_false, eq_self, bne_self_eq_false, List.getElem?_cons_zero, List.getElem?_cons_succ, decide_eq_true_eq, Bool.false_eq_true, Bool.true_eq_false, reduceCtorEq, Nat.le_refl, hn0]
    exact ⟨_, rfl⟩
  have sm0 := s0k (by omega)
  have flr : h.floor = h.next := hfl
  have Tsv := Store.okL.lt sv
  obtain ⟨y1, h1, p1, e1, o1, v1, q1⟩ := toStore_c hLStore hLShard hLBook hLAccount hLFin (Z := Z) f0 sv sm0
  replace sv := Store.okL.on sv o1
  have n1 := o1.ext.1
  have g1 := o1.fl
  have f1 := o1.le f0
  obtain ⟨vl1, vt1, vd1⟩ := Store.lenI v1
  obtain ⟨r2_0, h2, p2_0, e2, o2, v2_0, q2_0⟩ := sCutShard_c ⟨hS01d, hS10, hS13⟩ (Z := Z) f1 v1 a e (wfU aw) sok sm0
  replace sv := Store.okL.on sv o2
  replace v1 := Store.okI.on v1 o2
  have n2 := o2.ext.1
  have g2 := o2.fl
  have f2 := o2.le f1
  have Tv2_0 := Store.okI.lt v2_0
  obtain ⟨vl2_0, vt2_0, vd2_0⟩ := Store.lenI v2_0
  obtain ⟨y3, h3, p3, e3, o3, v3, q3⟩ := toStore_c hLStore hLShard hLBook hLAccount hLFin (Z := Z) f2 sv sm0
  replace sv := Store.okL.on sv o3
  replace v1 := Store.okI.on v1 o3
  replace v2_0 := Store.okI.on v2_0 o3
  have n3 := o3.ext.1
  have g3 := o3.fl
  have f3 := o3.le f2
  have Tv3 := Store.okI.lt v3
  obtain ⟨vl3, vt3, vd3⟩ := Store.lenI v3
  obtain ⟨r4_0, h4, p4_0, e4, o4, v4_0, q4_0⟩ := CutShard_c ⟨hI10, hI11, hI13, hLibcmpCompareint, hLibcmpCompareuint64, hLibcmpOrint, hLibcmpisNaNint, hLibcmpisNaNuint64, hLibslicesIndeximplFinimplFin, hLibslicesContainsimplFinimplFin⟩ hLibslicesIndexFuncimplShardimplShard pr332 (Z := Z) f3 v3 a e (wfU aw) sok sm0
  replace sv := Store.okL.on sv o4
  replace v1 := Store.okI.on v1 o4
  replace v2_0 := Store.okI.on v2_0 o4
  replace v3 := Store.okI.on v3 o4
  have n4 := o4.ext.1
  have g4 := o4.fl
  have f4 := o4.le f3
  obtain ⟨vl4_0, vt4_0, vd4_0⟩ := Store.lenI v4_0
  have c1 := eqStore_r hLStore hLShard hLBook hLAccount hLFin (Z := Z) v4_0 v2_0
  obtain ⟨y5, hq5, p5, e5, oq5, vq5, qq5⟩ := toStore_c hLStore hLShard hLBook hLAccount hLFin (Z := Z) (h := ⟨h4.next, h4.next, h4.get⟩) (Nat.le_refl _) (Store.okL.up sv _) sm0
  obtain ⟨h5, mq5⟩ : ∃ g, Heap.mk hq5.next h4.floor hq5.get = g := ⟨_, rfl⟩
  have o5 : On h4 h5 := by rw [← mq5]; exact ⟨⟨oq5.ext.1, oq5.ext.2⟩, rfl⟩
  have v5 := Store.okI.up vq5 h4.floor
  rw [mq5] at v5
  have q5 : Fre h4 p5 := ⟨qq5.lo, qq5.nd⟩
  replace sv := Store.okL.on sv o5
  replace v1 := Store.okI.on v1 o5
  replace v2_0 := Store.okI.on v2_0 o5
  replace v3 := Store.okI.on v3 o5
  replace v4_0 := Store.okI.on v4_0 o5
  have n5 := o5.ext.1
  have g5 := o5.fl
  have f5 := o5.le f4
  obtain ⟨vl5, vt5, vd5⟩ := Store.lenI v5
  have c2 := eqStore_r hLStore hLShard hLBook hLAccount hLFin (Z := Z) (h := ⟨h5.next, h5.next, h5.get⟩) (Store.okI.up v3 _) (Store.okI.up v5 _)
  have hb1 := Store.wt_le sm0
  have hb2 := s.wt_nn
  have hb3 := Store.wt_le (cutShard_small sm0 a e)
  have hb4 := (cutShard s a e).1.wt_nn
  have lo6 : ∀ id, id ∈ p3 → h5.floor ≤ id := fun id hid => by have := q3.lo id hid; omega
  obtain ⟨h6, m6, k6, u6⟩ := markStore_r hLStore hLShard hLBook hLAccount hLFin (Z := Z) v3 q3.nd lo6 (1) (by omega) (by omega)
  replace sv := Store.okL.mk' sv k6 fun id h1 h2 => by have a1 := q3.lo id h2; have a2 := Tsv id h1; omega
  replace v2_0 := Store.okI.mk' v2_0 k6 fun id h1 h2 => by have a1 := q3.lo id h2; have a2 := Tv2_0 id h1; omega
  replace v4_0 := Store.okI.mk' v4_0 k6 fun id h1 h2 => by have a1 := q3.lo id h2; have a2 := Tv3 id h2; have a3 := q4_0.lo id h1; omega
  have n6 := k6.next
  have g6 := k6.fl
  have f6 : h6.floor ≤ h6.next := by omega
  replace v3 := u6
  have hk6 : ¬ (1 + s.wt : Int) < 0 := by omega
  have c3 := eqStore_r hLStore hLShard hLBook hLAccount hLFin (Z := Z) v4_0 v2_0
  have lo7 : ∀ id, id ∈ p4_0 → h6.floor ≤ id := fun id hid => by have := q4_0.lo id hid; omega
  obtain ⟨h7, m7, k7, u7⟩ := markStore_r hLStore hLShard hLBook hLAccount hLFin (Z := Z) v4_0 q4_0.nd lo7 (1) (by omega) (by omega)
  replace sv := Store.okL.mk' sv k7 fun id h1 h2 => by have a1 := q4_0.lo id h2; have a2 := Tsv id h1; omega
  replace v2_0 := Store.okI.mk' v2_0 k7 fun id h1 h2 => by have a1 := q4_0.lo id h2; have a2 := Tv2_0 id h1; omega
  have n7 := k7.next
  have g7 := k7.fl
  have f7 : h7.floor ≤ h7.next := by omega
  replace v4_0 := u7
  have hkk : ¬ (1 + ((cutShard s a e).1).wt : Int) < 0 := by omega
  have d4 := heldStore_r hLStore hLShard hLBook hLAccount hLFin (Z := Z) v4_0 (by omega) (by omega)
  have hh5 : ¬ (1 + ((cutShard s a e).1).wt : Int) < 0 := by omega
  obtain ⟨y8, h8, p8, e8, o8, v8, q8⟩ := toStore_c hLStore hLShard hLBook hLAccount hLFin (Z := Z) f7 sv sm0
  replace sv := Store.okL.on sv o8
  replace v2_0 := Store.okI.on v2_0 o8
  replace v4_0 := Store.okI.on v4_0 o8
  have n8 := o8.ext.1
  have g8 := o8.fl
  have f8 := o8.le f7
  obtain ⟨vl8, vt8, vd8⟩ := Store.lenI v8
  obtain ⟨r9_0, h9, p9_0, e9, o9, v9_0, q9_0⟩ := CutShard_c ⟨hI10, hI11, hI13, hLibcmpCompareint, hLibcmpCompareuint64, hLibcmpOrint, hLibcmpisNaNint, hLibcmpisNaNuint64, hLibslicesIndeximplFinimplFin, hLibslicesContainsimplFinimplFin⟩ hLibslicesIndexFuncimplShardimplShard pr332 (Z := Z) f8 v8 a e (wfU aw) sok sm0
  replace sv := Store.okL.on sv o9
  replace v2_0 := Store.okI.on v2_0 o9
  replace v4_0 := Store.okI.on v4_0 o9
  replace v8 := Store.okI.on v8 o9
  have n9 := o9.ext.1
  have g9 := o9.fl
  have f9 := o9.le f8
  obtain ⟨vl9_0, vt9_0, vd9_0⟩ := Store.lenI v9_0
  have c6 := eqStore_r hLStore hLShard hLBook hLAccount hLFin (Z := Z) v9_0 v2_0
  have d7 := heldStore_r hLStore hLShard hLBook hLAccount hLFin (Z := Z) v4_0 (by omega) (by omega)
  have hh8 : ¬ (1 + ((cutShard s a e).1).wt : Int) < 0 := by omega
  simp only [run0, run1, run2, run3, run4, noSlot, ownS, ownK, memN, RO.dst, lk, drop, forget, number, Nat.reduceBEq, cut?, splice?, builds, List.length_cons, List.length_nil, List.drop_succ_cons, List.drop_zero, List.take_succ_cons, List.take_zero, List.cons_append, List.nil_append, List.append_nil, List.drop_nil, List.take_nil, Nat.reduceAdd, Nat.reduceLeDiff, Nat.zero_add, Nat.add_zero, ↓reduceIte, Bool.not_true, Bool.not_false, decide_true, decide_false, eq_self, bne_self_eq_false, List.getElem?_cons_zero, List.getElem?_cons_succ, decide_eq_true_eq, Bool.false_eq_true, Bool.true_eq_false, reduceCtorEq, Nat.le_refl, hn0, sl1, sl2, sl3, e1, vl1, vt1, vd1, e2, vl2_0, vt2_0, vd2_0, e3, vl3, vt3, vd3, e4, vl4_0, vt4_0, vd4_0, c1, mq5, e5, vl5, vt5, vd5, c2, m6, hk6, c3, m7, hkk, d4, hh5, e8, vl8, vt8, vd8, e9, vl9_0, vt9_0, vd9_0, c6, d7, hh8]
  exact ⟨_, rfl⟩
end Go.Proofs.Ytlfepembgjjejaa.A
/- FnExactCutShard: the row's statement, from the law of the abstract run. No condition. -/
namespace Go.Proofs.Ytlfepembgjjejaa.A.ExactCutShard
open Go Go.ChangeShapes Go.WideShapes Go.ChangeAt Go.RowKit
theorem own : ownKnob Try.prog.godebug = none := by kernel_rfl
set_option maxRecDepth 100000 in
theorem lifted (os : Os) (started : os.Started) (H : Type) (enc : TypeId × Value → H) :
    ReturnsInHanded {} Try.checked os 10 .any (Rows.fnExactCutShardSpec.pre6 enc Try.prog Try.f10 Rows.fnExactCutShardRow.domain false) (Rows.fnExactCutShardSpec.post enc Try.prog Try.f10 false true false false) := by
  refine returnsInHanded_of_change_sized (C := Try.checked) own started (by kernel_rfl) Try.func10
    (ChangeSpec.witness6 (enc := enc) (C := Try.checked) false ⟨#[], #[.agg #[.int .i64 0, .int .i64 0, .slice none 0 0], .int .u64 0, .int .i64 0], []⟩ 8 (by kernel_rfl) (by kernel_rfl) (by kernel_rfl) (by kernel_rfl)) ?_
  intro W base args ds gs before hval hW _ _ _
  have hW' := hW
  obtain ⟨p, q, hA, hV, rfl, hfz, hnd⟩ := hW
  obtain ⟨rfl, rfl⟩ := trodVars_none hV
  have r0 : DataW.TrodAll enc Try.prog W 0 (fun _ => true) true [36, 23, 3] args.toList ds p := hA
  obtain ⟨_, _, d0, _, _, _, _, rfl, _, _, r1⟩ := trodAll_cons r0
  obtain ⟨_, _, d1, _, _, _, _, rfl, _, _, r2⟩ := trodAll_cons r1
  obtain ⟨_, _, d2, _, _, _, _, rfl, _, _, r3⟩ := trodAll_cons r2
  obtain ⟨_, rfl, _⟩ := trodAll_nil r3
  refine (law_calls (ts := [36, 23, 3]) (ss := [shStore, (.int .u64), (.int .i64)]) prog (show (mkCfgZ Try.prog tab ptab tags).G 310 = some 10 from by kernel_rfl) ⟨show shIs Try.prog (mkCfgZ Try.prog tab ptab tags).ET (mkCfgZ Try.prog tab ptab tags).SZ 8 36 shStore = true from by kernel_rfl, show shIs Try.prog (mkCfgZ Try.prog tab ptab tags).ET (mkCfgZ Try.prog tab ptab tags).SZ 8 23 (.int .u64) = true from by kernel_rfl, show shIs Try.prog (mkCfgZ Try.prog tab ptab tags).ET (mkCfgZ Try.prog tab ptab tags).SZ 8 3 (.int .i64) = true from by kernel_rfl, trivial⟩ (law_ExactCutShard inI10 inI11 inI13 inLAccount inLBook inLFin inLShard inLStore inLibcmpCompareint inLibcmpCompareuint64 inLibcmpOrint inLibcmpisNaNint inLibcmpisNaNuint64 inLibslicesContainsimplFinimplFin inLibslicesIndexFuncimplShardimplShard inLibslicesIndeximplFinimplFin inS01d inS10 inS13 inWCutShard pr332) (fun j t v h1 => hval j t v (by rw [Try.params10]; exact (List.getElem?_toArray ..).trans h1)) hA).mono fun e W' ⟨he, bel⟩ => ?_
  subst he
  exact ⟨_, rfl, _, _, _, [], _, [], hW', trodAll_mk1 (shut_bool Try.underlying4 _), trodAll_below (by kernel_rfl) bel _ _ _ _ (by kernel_rfl) hA hA.lt, rfl, bel.frame _, fun h => by cases h⟩
theorem over : Rows.fnExactCutShardRow.holds Try.pinned (OpenSpec.ofChange Rows.fnExactCutShardSpec) :=
  OpenClaim.holds_of_wide 10 Try.f10 rfl rfl rfl rfl rfl rfl rfl ⟨rfl, rfl, rfl, rfl, rfl⟩ rfl rfl rfl rfl rfl (by kernel_rfl) Try.func10 (by kernel_rfl)
    (of_decide_eq_true (by kernel_rfl)) (by unfold Func.isWrapper; first | (rw [if_pos (by decide +kernel)]; kernel_rfl) | (rw [if_neg (by decide +kernel)]; exact ⟨rfl, rfl⟩))
    (fun os started H enc _ => lifted os started H enc)
end Go.Proofs.Ytlfepembgjjejaa.A.ExactCutShard
namespace Go.Proofs.Ytlfepembgjjejaa
/-- The row. -/
theorem fnExactCutShard_holds : Rows.FnExactCutShardSaid := A.ExactCutShard.over
#print axioms fnExactCutShard_holds
end Go.Proofs.Ytlfepembgjjejaa
