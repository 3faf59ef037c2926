/- FnExactHolders: the statement, from the law of the abstract run. No condition. -/
import Derived.Test.YtlfepembgjjejaaHCExactHolders4
import Derived.Test.YtlfepembgjjejaaB6
import Derived.Test.YtlfepembgjjejaaProg
import Derived.Test.YtlfepembgjjejaaRows
import Derived.ProofKit
import Derived.OpenShut
import Derived.ShutString
import Derived.ChangeOld
import Derived.Below
import Derived.SizedLaws
/- The functions that FnExactHolders reaches: the program's code against the compact code, entry by entry. -/
namespace Go.Proofs.Ytlfepembgjjejaa.A.ExactHolders
open Go
def c : CC where
  T := [(3, ⟨1, 8, false, some [.int .i64 0], (.int .i64)⟩),
    (22, ⟨1, 24, false, some [.nil], (.slice 36 17)⟩),
    (23, ⟨1, 8, false, some [.int .u64 0], (.int .u64)⟩),
    (25, ⟨1, 24, false, some [.nil], (.slice 3 15)⟩),
    (27, ⟨1, 24, false, some [.nil], (.slice 40 18)⟩),
    (34, ⟨1, 24, false, some [.nil], (.slice 82 20)⟩),
    (36, ⟨3, 40, true, some [.int .i64 0, .int .i64 0, .nil], (.struct [(0, 1, false), (1, 1, false), (2, 1, false)])⟩),
    (38, ⟨1, 24, false, some [.nil], (.slice 70 16)⟩),
    (40, ⟨3, 40, true, some [.int .i64 0, .int .i64 0, .nil], (.struct [(0, 1, false), (1, 1, false), (2, 1, false)])⟩),
    (47, ⟨1, 24, false, some [.nil], (.slice 141 12)⟩),
    (49, ⟨1, 24, true, some [.nil], (.struct [(0, 1, false)])⟩),
    (53, ⟨1, 24, false, some [.nil], (.slice 113 11)⟩),
    (55, ⟨1, 24, true, some [.nil], (.struct [(0, 1, false)])⟩),
    (68, ⟨1, 24, false, some [.nil], (.slice 133 9)⟩),
    (70, ⟨6, 80, true, some [.int .u64 0, .int .u64 0, .int .i64 0, .int .i64 0, .nil, .nil], (.struct [(0, 1, false), (1, 1, false), (2, 1, false), (3, 1, false), (4, 1, true), (5, 1, false)])⟩),
    (80, ⟨1, 24, false, some [.nil], (.slice 150 10)⟩),
    (82, ⟨6, 80, true, some [.int .u64 0, .int .u64 0, .int .i64 0, .int .i64 0, .nil, .nil], (.struct [(0, 1, false), (1, 1, false), (2, 1, false), (3, 1, false), (4, 1, true), (5, 1, false)])⟩),
    (113, ⟨5, 40, true, some [.int .u64 0, .int .u64 0, .int .u64 0, .int .u64 0, .int .i64 0], (.struct [(0, 1, false), (1, 1, false), (2, 1, false), (3, 1, false), (4, 1, false)])⟩),
    (133, ⟨2, 16, true, some [.int .i64 0, .int .u64 0], (.struct [(0, 1, false), (1, 1, false)])⟩),
    (141, ⟨5, 40, true, some [.int .u64 0, .int .u64 0, .int .u64 0, .int .u64 0, .int .i64 0], (.struct [(0, 1, false), (1, 1, false), (2, 1, false), (3, 1, false), (4, 1, false)])⟩),
    (150, ⟨2, 16, true, some [.int .i64 0, .int .u64 0], (.struct [(0, 1, false), (1, 1, false)])⟩)]
  F := [(3, 282), (12, 169), (13, 283), (14, 170), (15, 284), (16, 285), (17, 173), (18, 286), (19, 287), (20, 288), (21, 154), (23, 155), (25, 158), (28, 128), (30, 130), (33, 133), (46, 111), (48, 112), (50, 114), (58, 214), (59, 211), (60, 216), (61, 212), (62, 230), (63, 203), (67, 205), (71, 207), (73, 136), (75, 241), (82, 137), (84, 139), (85, 261), (88, 156), (91, 206), (97, 129), (98, 204), (99, 131), (100, 244), (103, 134), (104, 232), (107, 251), (108, 250), (109, 248), (110, 247), (111, 5), (115, 141), (117, 265), (124, 142), (126, 7), (130, 242), (131, 243), (132, 138), (133, 266), (134, 267), (137, 140), (138, 268), (145, 272), (146, 275), (147, 273), (148, 274), (153, 276), (154, 277)]
  eqT := [(133, [.i .i64, .i .u64])]
  adds := [139]
def F : Nat → Option RF := lk (tI10 ++ tI11 ++ tI13 ++ tI15 ++ tLAccount ++ tLBook ++ tLFin ++ tLInt ++ tLShard ++ tLStore ++ tLibcmpCompareint ++ tLibcmpCompareuint64 ++ tLibcmpOrint ++ tLibcmpisNaNint ++ tLibcmpisNaNuint64 ++ tLibslicesContainsFuncimplStoreimplStore ++ tLibslicesContainsimplFinimplFin ++ tLibslicesIndexFuncimplShardimplShard ++ tLibslicesIndexFuncimplStoreimplStore ++ tLibslicesIndeximplFinimplFin ++ tS01d ++ tS10 ++ tS13 ++ tS15 ++ tWHolders)
def tab : List (Nat × FuncId × RF) := [(282, 3, r282), (169, 12, r169), (283, 13, r283), (170, 14, r170), (284, 15, r284), (285, 16, r285), (173, 17, r173), (286, 18, r286), (287, 19, r287), (288, 20, r288), (154, 21, r154), (214, 58, r214), (211, 59, r211), (155, 23, r155), (216, 60, r216), (212, 61, r212), (158, 25, r158), (230, 62, r230), (203, 63, r203), (156, 88, r156), (205, 67, r205), (251, 107, r251), (250, 108, r250), (248, 109, r248), (247, 110, r247), (207, 71, r207), (261, 85, r261), (232, 104, r232), (111, 46, r111), (204, 98, r204), (5, 111, r5), (112, 48, r112), (268, 138, r268), (206, 91, r206), (114, 50, r114), (128, 28, r128), (129, 97, r129), (241, 75, r241), (242, 130, r242), (243, 131, r243), (130, 30, r130), (131, 99, r131), (244, 100, r244), (7, 126, r7), (133, 33, r133), (134, 103, r134), (136, 73, r136), (137, 82, r137), (138, 132, r138), (265, 117, r265), (266, 133, r266), (267, 134, r267), (139, 84, r139), (140, 137, r140), (141, 115, r141), (272, 145, r272), (275, 146, r275), (273, 147, r273), (274, 148, r274), (142, 124, r142), (276, 153, r276), (277, 154, r277)]
def tags : List (Nat × TypeId × Nat) := [(9, 133, 2), (10, 150, 2), (11, 113, 5), (12, 141, 5), (15, 3, 1), (16, 70, 6), (17, 36, 3), (18, 40, 3), (20, 82, 6)]
theorem ok282 : FnOk Try.prog c F (282, 3, r282) := ⟨Try.f3, [], [], Try.func3, by kernel_rfl, by kernel_rfl, by kernel_rfl⟩
theorem ok169 : FnOk Try.prog c F (169, 12, r169) := ⟨Try.f12, [], [[0, 1, 5]], Try.func12, by kernel_rfl, by kernel_rfl, by kernel_rfl⟩
theorem ok283 : FnOk Try.prog c F (283, 13, r283) := ⟨Try.f13, [], [[0, 1, 5, 6]], Try.func13, by kernel_rfl, by kernel_rfl, by kernel_rfl⟩
theorem ok170 : FnOk Try.prog c F (170, 14, r170) := ⟨Try.f14, [], [[0, 3, 4]], Try.func14, by kernel_rfl, by kernel_rfl, by kernel_rfl⟩
theorem ok284 : FnOk Try.prog c F (284, 15, r284) := ⟨Try.f15, [], [[1, 5, 13, 14, 15]], Try.func15, by kernel_rfl, by kernel_rfl, by kernel_rfl⟩
theorem ok285 : FnOk Try.prog c F (285, 16, r285) := ⟨Try.f16, [], [[0, 1, 5], [0, 1, 2, 4, 5, 6, 3, 7, 8], [0, 1, 2, 3, 4, 5, 6, 7, 8]], Try.func16, by kernel_rfl, by kernel_rfl, by kernel_rfl⟩
theorem ok173 : FnOk Try.prog c F (173, 17, r173) := ⟨Try.f17, [], [[0, 1, 5], [0, 1, 2, 4, 5, 6, 3, 7, 8, 9], [0, 1, 2, 3, 4, 5, 6, 7, 8, 9]], Try.func17, by kernel_rfl, by kernel_rfl, by kernel_rfl⟩
theorem ok286 : FnOk Try.prog c F (286, 18, r286) := ⟨Try.f18, [], [[0, 1, 5]], Try.func18, by kernel_rfl, by kernel_rfl, by kernel_rfl⟩
theorem ok287 : FnOk Try.prog c F (287, 19, r287) := ⟨Try.f19, [], [[0, 1, 5]], Try.func19, by kernel_rfl, by kernel_rfl, by kernel_rfl⟩
theorem ok288 : FnOk Try.prog c F (288, 20, r288) := ⟨Try.f20, [], [[0, 1, 5]], Try.func20, by kernel_rfl, by kernel_rfl, by kernel_rfl⟩
theorem ok154 : FnOk Try.prog c F (154, 21, r154) := ⟨Try.f21, [], [], Try.func21, by kernel_rfl, by kernel_rfl, by kernel_rfl⟩
theorem ok214 : FnOk Try.prog c F (214, 58, r214) := ⟨Try.f58, [], [[0, 3]], Try.func58, by kernel_rfl, by kernel_rfl, by kernel_rfl⟩
theorem ok211 : FnOk Try.prog c F (211, 59, r211) := ⟨Try.f59, [], [[1, 2, 5]], Try.func59, by kernel_rfl, by kernel_rfl, by kernel_rfl⟩
theorem ok155 : FnOk Try.prog c F (155, 23, r155) := ⟨Try.f23, [], [], Try.func23, by kernel_rfl, by kernel_rfl, by kernel_rfl⟩
theorem ok216 : FnOk Try.prog c F (216, 60, r216) := ⟨Try.f60, [], [], Try.func60, by kernel_rfl, by kernel_rfl, by kernel_rfl⟩
theorem ok212 : FnOk Try.prog c F (212, 61, r212) := ⟨Try.f61, [3], [], Try.func61, by kernel_rfl, by kernel_rfl, by kernel_rfl⟩
theorem ok158 : FnOk Try.prog c F (158, 25, r158) := ⟨Try.f25, [], [], Try.func25, by kernel_rfl, by kernel_rfl, by kernel_rfl⟩
theorem ok230 : FnOk Try.prog c F (230, 62, r230) := ⟨Try.f62, [], [[0, 1, 5]], Try.func62, by kernel_rfl, by kernel_rfl, by kernel_rfl⟩
theorem ok203 : FnOk Try.prog c F (203, 63, r203) := ⟨Try.f63, [], [[0, 1, 5]], Try.func63, by kernel_rfl, by kernel_rfl, by kernel_rfl⟩
theorem ok156 : FnOk Try.prog c F (156, 88, r156) := ⟨Try.f88, [], [[1, 3], [0, 1, 2, 3, 4, 5, 6, 7, 8, 9, 10, 11, 12, 13, 16, 17, 14, 15, 18, 19, 20, 21, 22, 23, 24, 25], [0, 1, 2, 3, 4, 5, 6, 7, 8, 9, 10, 11, 12, 13, 14, 15, 16, 17, 18, 19, 20, 21, 22, 23, 24, 25]], Try.func88, by kernel_rfl, by kernel_rfl, by kernel_rfl⟩
theorem ok205 : FnOk Try.prog c F (205, 67, r205) := ⟨Try.f67, [], [[0, 3, 4]], Try.func67, by kernel_rfl, by kernel_rfl, by kernel_rfl⟩
theorem ok251 : FnOk Try.prog c F (251, 107, r251) := ⟨Try.f107, [], [], Try.func107, by kernel_rfl, by kernel_rfl, by kernel_rfl⟩
theorem ok250 : FnOk Try.prog c F (250, 108, r250) := ⟨Try.f108, [], [], Try.func108, by kernel_rfl, by kernel_rfl, by kernel_rfl⟩
theorem ok248 : FnOk Try.prog c F (248, 109, r248) := ⟨Try.f109, [], [[0, 1, 7, 8]], Try.func109, by kernel_rfl, by kernel_rfl, by kernel_rfl⟩
theorem ok247 : FnOk Try.prog c F (247, 110, r247) := ⟨Try.f110, [], [], Try.func110, by kernel_rfl, by kernel_rfl, by kernel_rfl⟩
theorem ok207 : FnOk Try.prog c F (207, 71, r207) := ⟨Try.f71, [], [[0, 1, 5], [0, 1, 2, 4, 5, 6, 3, 7, 8, 9], [0, 1, 2, 3, 4, 5, 6, 7, 8, 9]], Try.func71, by kernel_rfl, by kernel_rfl, by kernel_rfl⟩
theorem ok261 : FnOk Try.prog c F (261, 85, r261) := ⟨Try.f85, [], [[0, 1, 5]], Try.func85, by kernel_rfl, by kernel_rfl, by kernel_rfl⟩
theorem ok232 : FnOk Try.prog c F (232, 104, r232) := ⟨Try.f104, [], [[0, 1, 5]], Try.func104, by kernel_rfl, by kernel_rfl, by kernel_rfl⟩
theorem ok111 : FnOk Try.prog c F (111, 46, r111) := ⟨Try.f46, [], [], Try.func46, by kernel_rfl, by kernel_rfl, by kernel_rfl⟩
theorem ok204 : FnOk Try.prog c F (204, 98, r204) := ⟨Try.f98, [], [[1, 3], [0, 1, 2, 3, 4, 5, 6, 7, 8, 9, 10, 11, 12, 13, 14, 15, 16, 17, 18, 19, 20, 23, 24, 21, 22, 25, 26, 27, 28, 29, 30, 31], [0, 1, 2, 3, 4, 5, 6, 7, 8, 9, 10, 11, 12, 13, 14, 15, 16, 17, 18, 19, 20, 21, 22, 23, 24, 25, 26, 27, 28, 29, 30, 31], [1, 5]], Try.func98, by kernel_rfl, by kernel_rfl, by kernel_rfl⟩
theorem ok5 : FnOk Try.prog c F (5, 111, r5) := ⟨Try.f111, [], [], Try.func111, by kernel_rfl, by kernel_rfl, by kernel_rfl⟩
theorem ok112 : FnOk Try.prog c F (112, 48, r112) := ⟨Try.f48, [], [], Try.func48, by kernel_rfl, by kernel_rfl, by kernel_rfl⟩
theorem ok268 : FnOk Try.prog c F (268, 138, r268) := ⟨Try.f138, [], [[0, 1, 7, 8]], Try.func138, by kernel_rfl, by kernel_rfl, by kernel_rfl⟩
theorem ok206 : FnOk Try.prog c F (206, 91, r206) := ⟨Try.f91, [], [[1, 26, 27, 28], [0, 1, 2, 3, 4, 5, 6, 7, 8, 9, 10, 11, 12, 13, 16, 17, 14, 15, 18, 19, 20, 21, 22, 23, 24, 25], [0, 1, 2, 3, 4, 5, 6, 7, 8, 9, 10, 11, 12, 13, 14, 15, 16, 17, 18, 19, 20, 21, 22, 23, 24, 25]], Try.func91, by kernel_rfl, by kernel_rfl, by kernel_rfl⟩
theorem ok114 : FnOk Try.prog c F (114, 50, r114) := ⟨Try.f50, [], [], Try.func50, by kernel_rfl, by kernel_rfl, by kernel_rfl⟩
theorem ok128 : FnOk Try.prog c F (128, 28, r128) := ⟨Try.f28, [], [], Try.func28, by kernel_rfl, by kernel_rfl, by kernel_rfl⟩
theorem ok129 : FnOk Try.prog c F (129, 97, r129) := ⟨Try.f97, [], [], Try.func97, by kernel_rfl, by kernel_rfl, by kernel_rfl⟩
theorem ok241 : FnOk Try.prog c F (241, 75, r241) := ⟨Try.f75, [], [[1, 3], [0, 1, 2, 5, 6, 3, 4, 7, 8, 9, 10, 11, 12, 13, 14, 15, 16, 17, 18, 19, 20, 21, 22, 23, 24, 25, 26, 27, 28, 29, 30, 31, 32, 33], [0, 1, 2, 3, 4, 5, 6, 7, 8, 9, 10, 11, 12, 13, 14, 15, 16, 17, 18, 19, 20, 21, 22, 23, 24, 25, 26, 27, 28, 29, 30, 31, 32, 33]], Try.func75, by kernel_rfl, by kernel_rfl, by kernel_rfl⟩
theorem ok242 : FnOk Try.prog c F (242, 130, r242) := ⟨Try.f130, [], [], Try.func130, by kernel_rfl, by kernel_rfl, by kernel_rfl⟩
theorem ok243 : FnOk Try.prog c F (243, 131, r243) := ⟨Try.f131, [], [[0, 3, 5], [0, 1, 2, 3, 4, 5], [0, 1, 2, 3, 4, 5]], Try.func131, by kernel_rfl, by kernel_rfl, by kernel_rfl⟩
theorem ok130 : FnOk Try.prog c F (130, 30, r130) := ⟨Try.f30, [], [], Try.func30, by kernel_rfl, by kernel_rfl, by kernel_rfl⟩
theorem ok131 : FnOk Try.prog c F (131, 99, r131) := ⟨Try.f99, [], [[0, 3, 4]], Try.func99, by kernel_rfl, by kernel_rfl, by kernel_rfl⟩
theorem ok244 : FnOk Try.prog c F (244, 100, r244) := ⟨Try.f100, [], [[1, 46, 47, 48], [1, 76, 77, 78], [0, 1, 2, 3, 4, 5, 6, 7, 8, 9, 10, 11, 12, 13, 14, 15, 16, 17, 18, 19, 20, 23, 24, 21, 22, 25, 26, 27, 28, 29, 30, 31], [0, 1, 2, 3, 4, 5, 6, 7, 8, 9, 10, 11, 12, 13, 14, 15, 16, 17, 18, 19, 20, 21, 22, 23, 24, 25, 26, 27, 28, 29, 30, 31]], Try.func100, by kernel_rfl, by kernel_rfl, by kernel_rfl⟩
theorem ok7 : FnOk Try.prog c F (7, 126, r7) := ⟨Try.f126, [], [], Try.func126, by kernel_rfl, by kernel_rfl, by kernel_rfl⟩
theorem ok133 : FnOk Try.prog c F (133, 33, r133) := ⟨Try.f33, [], [], Try.func33, by kernel_rfl, by kernel_rfl, by kernel_rfl⟩
theorem ok134 : FnOk Try.prog c F (134, 103, r134) := ⟨Try.f103, [], [[0, 1, 5], [0, 1, 2, 4, 5, 6, 3, 7, 8, 9], [0, 1, 2, 3, 4, 5, 6, 7, 8, 9]], Try.func103, by kernel_rfl, by kernel_rfl, by kernel_rfl⟩
theorem ok136 : FnOk Try.prog c F (136, 73, r136) := ⟨Try.f73, [], [], Try.func73, by kernel_rfl, by kernel_rfl, by kernel_rfl⟩
theorem ok137 : FnOk Try.prog c F (137, 82, r137) := ⟨Try.f82, [], [[0, 3, 4]], Try.func82, by kernel_rfl, by kernel_rfl, by kernel_rfl⟩
theorem ok138 : FnOk Try.prog c F (138, 132, r138) := ⟨Try.f132, [], [], Try.func132, by kernel_rfl, by kernel_rfl, by kernel_rfl⟩
theorem ok265 : FnOk Try.prog c F (265, 117, r265) := ⟨Try.f117, [], [[1, 10, 11, 12], [0, 1, 2, 3, 4, 5, 6, 7, 8, 9, 10, 11, 12, 13, 14, 15, 16, 17, 18, 19, 20, 21, 22, 23, 24, 25, 26, 27, 30, 31, 28, 29, 32, 33, 34, 35, 36, 37, 38, 39], [0, 1, 2, 3, 4, 5, 6, 7, 8, 9, 10, 11, 12, 13, 14, 15, 16, 17, 18, 19, 20, 21, 22, 23, 24, 25, 26, 27, 28, 29, 30, 31, 32, 33, 34, 35, 36, 37, 38, 39]], Try.func117, by kernel_rfl, by kernel_rfl, by kernel_rfl⟩
theorem ok266 : FnOk Try.prog c F (266, 133, r266) := ⟨Try.f133, [], [], Try.func133, by kernel_rfl, by kernel_rfl, by kernel_rfl⟩
theorem ok267 : FnOk Try.prog c F (267, 134, r267) := ⟨Try.f134, [], [[0, 1, 2, 3, 5, 6, 7, 8, 4, 9, 10, 11, 12], [0, 1, 2, 3, 4, 5, 6, 7, 8, 9, 10, 11, 12]], Try.func134, by kernel_rfl, by kernel_rfl, by kernel_rfl⟩
theorem ok139 : FnOk Try.prog c F (139, 84, r139) := ⟨Try.f84, [], [[0, 1, 5], [0, 1, 2, 4, 5, 6, 3, 7, 8, 9], [0, 1, 2, 3, 4, 5, 6, 7, 8, 9]], Try.func84, by kernel_rfl, by kernel_rfl, by kernel_rfl⟩
theorem ok140 : FnOk Try.prog c F (140, 137, r140) := ⟨Try.f137, [], [], Try.func137, by kernel_rfl, by kernel_rfl, by kernel_rfl⟩
theorem ok141 : FnOk Try.prog c F (141, 115, r141) := ⟨Try.f115, [], [], Try.func115, by kernel_rfl, by kernel_rfl, by kernel_rfl⟩
theorem ok272 : FnOk Try.prog c F (272, 145, r272) := ⟨Try.f145, [], [[0, 3, 7, 8], [1, 2, 3, 0, 4, 5], [0, 1, 2, 3, 4, 5]], Try.func145, by kernel_rfl, by kernel_rfl, by kernel_rfl⟩
theorem ok275 : FnOk Try.prog c F (275, 146, r275) := ⟨Try.f146, [], [[3, 6, 7, 8]], Try.func146, by kernel_rfl, by kernel_rfl, by kernel_rfl⟩
theorem ok273 : FnOk Try.prog c F (273, 147, r273) := ⟨Try.f147, [], [], Try.func147, by kernel_rfl, by kernel_rfl, by kernel_rfl⟩
theorem ok274 : FnOk Try.prog c F (274, 148, r274) := ⟨Try.f148, [], [], Try.func148, by kernel_rfl, by kernel_rfl, by kernel_rfl⟩
theorem ok142 : FnOk Try.prog c F (142, 124, r142) := ⟨Try.f124, [], [], Try.func124, by kernel_rfl, by kernel_rfl, by kernel_rfl⟩
theorem ok276 : FnOk Try.prog c F (276, 153, r276) := ⟨Try.f153, [], [], Try.func153, by kernel_rfl, by kernel_rfl, by kernel_rfl⟩
theorem ok277 : FnOk Try.prog c F (277, 154, r277) := ⟨Try.f154, [], [], Try.func154, by kernel_rfl, by kernel_rfl, by kernel_rfl⟩
theorem okT : (c.T.all fun x => x.2.okB Try.prog (mkCfg Try.prog tab tags).ET (mkCfg Try.prog tab tags).SZ x.1) = true := by kernel_rfl
theorem okF : (c.F.all fun x => decide ((lk tab x.2).map (·.1) = some x.1)) = true := by kernel_rfl
theorem okTab : AllT (FnOk Try.prog c F) tab := ⟨ok282, ok169, ok283, ok170, ok284, ok285, ok173, ok286, ok287, ok288, ok154, ok214, ok211, ok155, ok216, ok212, ok158, ok230, ok203, ok156, ok205, ok251, ok250, ok248, ok247, ok207, ok261, ok232, ok111, ok204, ok5, ok112, ok268, ok206, ok114, ok128, ok129, ok241, ok242, ok243, ok130, ok131, ok244, ok7, ok133, ok134, ok136, ok137, ok138, ok265, ok266, ok267, ok139, ok140, ok141, ok272, ok275, ok273, ok274, ok142, ok276, ok277, trivial⟩
theorem prog (O : Nat) : ProgOk ((mkCfg Try.prog tab tags).at O) c F (fun _ _ _ => none) :=
  mkProg okT okF okTab ⟨⟨Try.f139, Try.func139, by kernel_rfl, by kernel_rfl, by kernel_rfl, by kernel_rfl⟩, trivial⟩ ⟨⟨by kernel_rfl, by kernel_rfl, by kernel_rfl⟩, trivial⟩ O
theorem inI10 : AllT (fun x => F x.1 = some x.2) tI10 := ⟨rfl, rfl, rfl, rfl, rfl, rfl, rfl, rfl, rfl, rfl, rfl, rfl, rfl, trivial⟩
theorem inI11 : AllT (fun x => F x.1 = some x.2) tI11 := ⟨rfl, rfl, rfl, rfl, rfl, rfl, trivial⟩
theorem inI13 : AllT (fun x => F x.1 = some x.2) tI13 := ⟨rfl, rfl, rfl, rfl, rfl, rfl, rfl, rfl, rfl, rfl, rfl, rfl, rfl, rfl, rfl, rfl, rfl, rfl, rfl, trivial⟩
theorem inI15 : AllT (fun x => F x.1 = some x.2) tI15 := ⟨rfl, rfl, rfl, rfl, rfl, rfl, rfl, rfl, rfl, rfl, rfl, rfl, rfl, rfl, rfl, trivial⟩
theorem inLAccount : AllT (fun x => F x.1 = some x.2) tLAccount := ⟨rfl, rfl, rfl, rfl, rfl, rfl, rfl, trivial⟩
theorem inLBook : AllT (fun x => F x.1 = some x.2) tLBook := ⟨rfl, rfl, rfl, rfl, rfl, trivial⟩
theorem inLFin : AllT (fun x => F x.1 = some x.2) tLFin := ⟨rfl, rfl, rfl, rfl, rfl, rfl, rfl, trivial⟩
theorem inLInt : AllT (fun x => F x.1 = some x.2) tLInt := ⟨rfl, rfl, rfl, trivial⟩
theorem inLShard : AllT (fun x => F x.1 = some x.2) tLShard := ⟨rfl, rfl, rfl, rfl, rfl, rfl, rfl, rfl, rfl, rfl, trivial⟩
theorem inLStore : AllT (fun x => F x.1 = some x.2) tLStore := ⟨rfl, rfl, rfl, rfl, rfl, rfl, rfl, rfl, rfl, trivial⟩
theorem inLibcmpCompareint : AllT (fun x => F x.1 = some x.2) tLibcmpCompareint := ⟨rfl, trivial⟩
theorem inLibcmpCompareuint64 : AllT (fun x => F x.1 = some x.2) tLibcmpCompareuint64 := ⟨rfl, trivial⟩
theorem inLibcmpOrint : AllT (fun x => F x.1 = some x.2) tLibcmpOrint := ⟨rfl, trivial⟩
theorem inLibcmpisNaNint : AllT (fun x => F x.1 = some x.2) tLibcmpisNaNint := ⟨rfl, trivial⟩
theorem inLibcmpisNaNuint64 : AllT (fun x => F x.1 = some x.2) tLibcmpisNaNuint64 := ⟨rfl, trivial⟩
theorem inLibslicesContainsFuncimplStoreimplStore : AllT (fun x => F x.1 = some x.2) tLibslicesContainsFuncimplStoreimplStore := ⟨rfl, trivial⟩
theorem inLibslicesContainsimplFinimplFin : AllT (fun x => F x.1 = some x.2) tLibslicesContainsimplFinimplFin := ⟨rfl, trivial⟩
theorem inLibslicesIndexFuncimplShardimplShard : AllT (fun x => F x.1 = some x.2) tLibslicesIndexFuncimplShardimplShard := ⟨rfl, trivial⟩
theorem inLibslicesIndexFuncimplStoreimplStore : AllT (fun x => F x.1 = some x.2) tLibslicesIndexFuncimplStoreimplStore := ⟨rfl, trivial⟩
theorem inLibslicesIndeximplFinimplFin : AllT (fun x => F x.1 = some x.2) tLibslicesIndeximplFinimplFin := ⟨rfl, trivial⟩
theorem inS01d : AllT (fun x => F x.1 = some x.2) tS01d := ⟨rfl, rfl, rfl, rfl, rfl, rfl, rfl, rfl, trivial⟩
theorem inS10 : AllT (fun x => F x.1 = some x.2) tS10 := ⟨rfl, rfl, rfl, rfl, rfl, rfl, rfl, rfl, rfl, rfl, rfl, rfl, rfl, trivial⟩
theorem inS13 : AllT (fun x => F x.1 = some x.2) tS13 := ⟨rfl, rfl, rfl, rfl, rfl, rfl, rfl, rfl, rfl, rfl, rfl, rfl, rfl, rfl, rfl, rfl, rfl, rfl, rfl, trivial⟩
theorem inS15 : AllT (fun x => F x.1 = some x.2) tS15 := ⟨rfl, rfl, rfl, rfl, rfl, rfl, rfl, rfl, rfl, trivial⟩
theorem inWHolders : AllT (fun x => F x.1 = some x.2) tWHolders := ⟨rfl, trivial⟩
end Go.Proofs.Ytlfepembgjjejaa.A.ExactHolders
/- Holders: the law's function, run on any arguments, answers true. -/
namespace Go.Proofs.Ytlfepembgjjejaa.A
open Go
set_option linter.unusedSimpArgs false
set_option linter.unusedVariables false
set_option maxHeartbeats 2000000 in
theorem law_ExactHolders {F : Nat → Option RF} {Z : CallF} (hI10 : Has F tI10) (hI11 : Has F tI11) (hI13 : Has F tI13) (hI15 : Has F tI15) (hLAccount : Has F tLAccount) (hLBook : Has F tLBook) (hLFin : Has F tLFin) (hLInt : Has F tLInt) (hLShard : Has F tLShard) (hLStore : Has F tLStore) (hLibcmpCompareint : Has F tLibcmpCompareint) (hLibcmpCompareuint64 : Has F tLibcmpCompareuint64) (hLibcmpOrint : Has F tLibcmpOrint) (hLibcmpisNaNint : Has F tLibcmpisNaNint) (hLibcmpisNaNuint64 : Has F tLibcmpisNaNuint64) (hLibslicesContainsFuncimplStoreimplStore : Has F tLibslicesContainsFuncimplStoreimplStore) (hLibslicesContainsimplFinimplFin : Has F tLibslicesContainsimplFinimplFin) (hLibslicesIndexFuncimplShardimplShard : Has F tLibslicesIndexFuncimplShardimplShard) (hLibslicesIndexFuncimplStoreimplStore : Has F tLibslicesIndexFuncimplStoreimplStore) (hLibslicesIndeximplFinimplFin : Has F tLibslicesIndeximplFinimplFin) (hS01d : Has F tS01d) (hS10 : Has F tS10) (hS13 : Has F tS13) (hS15 : Has F tS15) (hWHolders : Has F tWHolders) (h : Heap) (avs : List V) (hfl : h.floor = h.next) (w : ArgsWf h 8 [shStoreS, .int .u64] avs) : ∃ h', call F Z 282 avs h = some (.c (.bool true), h') := by
  obtain ⟨lx, _, rfl, lw, w1⟩ := ArgsWf.slice w
  obtain ⟨l, lp, lv, lok⟩ := SlR.ofWf (R := Store.RL) (A := fun t => t.Ok) (fun r hr => by obtain ⟨t, fp, v, ok⟩ := Wf.isStore hr.2; exact ⟨t, fp, v, ok⟩) lw
  obtain ⟨id, _, rfl, idw, w2⟩ := ArgsWf.int w1
  obtain rfl := w2.nil
  have f0 : h.floor ≤ h.next := by omega
  rw [call_run F Z (hWHolders.lk (g := 282) rfl) _ _ rfl]
  obtain ⟨l0, s0, s0l, s0k⟩ := szStoreS_c hLStore hLShard hLBook hLAccount hLFin (Z := Z) lv 1048576 (by omega) (by omega)
  simp only [run0, run1, run2, run3, run4, noSlot, memN, RO.dst, lk, drop, forget, number, Nat.reduceBEq, cut?, splice?, builds, List.length_cons, List.length_nil, List.drop_succ_cons, List.drop_zero, List.take_succ_cons, List.take_zero, List.cons_append, List.nil_append, List.append_nil, List.drop_nil, List.take_nil, Nat.reduceAdd, Nat.reduceLeDiff, Nat.zero_add, Nat.add_zero, ↓reduceIte, Bool.not_true, Bool.not_false, decide_true, decide_false, eq_self, bne_self_eq_false, List.getElem?_cons_zero, List.getElem?_cons_succ, decide_eq_true_eq, Bool.false_eq_true, Bool.true_eq_false, reduceCtorEq, Nat.le_refl, s0]
  by_cases hn0 : l0 < 0
  · simp only [run0, run1, run2, run3, run4, noSlot, memN, RO.dst, lk, drop, forget, number, Nat.reduceBEq, cut?, splice?, builds, List.length_cons, List.length_nil, List.drop_succ_cons, List.drop_zero, List.take_succ_cons, List.take_zero, List.cons_append, List.nil_append, List.append_nil, List.drop_nil, List.take_nil, Nat.reduceAdd, Nat.reduceLeDiff, Nat.zero_add, Nat.add_zero, ↓reduceIte, Bool.not_true, Bool.not_false, decide_true, decide_false, eq_self, bne_self_eq_false, List.getElem?_cons_zero, List.getElem?_cons_succ, decide_eq_true_eq, Bool.false_eq_true, Bool.true_eq_false, reduceCtorEq, Nat.le_refl, hn0]
    exact ⟨_, rfl⟩
  have sm0 := s0k (by omega)
  have flr : h.floor = h.next := hfl
  have Tlv := lv.lt Store.okL
  obtain ⟨y1, h1, p1, e1, o1, v1, q1⟩ := toStoreS_c hLStore hLShard hLBook hLAccount hLFin (Z := Z) f0 lv sm0
  replace lv := lv.on Store.okL o1
  have n1 := o1.ext.1
  have g1 := o1.fl
  have f1 := o1.le f0
  obtain ⟨r2_0, h2, p2_0, e2, o2, v2_0, q2_0⟩ := sHolders_c ⟨hS01d, hS10, hS13⟩ hS15 (Z := Z) f1 v1 id lok
  replace lv := lv.on Store.okL o2
  replace v1 := v1.on Store.okI o2
  have n2 := o2.ext.1
  have g2 := o2.fl
  have f2 := o2.le f1
  have Tv2_0 := v2_0.lt (Fl.ok _)
  obtain ⟨y3, h3, p3, e3, o3, v3, q3⟩ := toStoreS_c hLStore hLShard hLBook hLAccount hLFin (Z := Z) f2 lv sm0
  replace lv := lv.on Store.okL o3
  replace v1 := v1.on Store.okI o3
  replace v2_0 := v2_0.on (Fl.ok _) o3
  have n3 := o3.ext.1
  have g3 := o3.fl
  have f3 := o3.le f2
  have Tv3 := v3.lt Store.okI
  obtain ⟨r4_0, h4, p4_0, e4, o4, v4_0, q4_0⟩ := Holders_c ⟨hI10, hI11, hI13, hLibcmpCompareint, hLibcmpCompareuint64, hLibcmpOrint, hLibcmpisNaNint, hLibcmpisNaNuint64, hLibslicesIndeximplFinimplFin, hLibslicesContainsimplFinimplFin⟩ ⟨hI15, hLibslicesIndexFuncimplStoreimplStore, hLibslicesContainsFuncimplStoreimplStore⟩ hLibslicesIndexFuncimplShardimplShard (Z := Z) f3 v3 id lok
  replace lv := lv.on Store.okL o4
  replace v1 := v1.on Store.okI o4
  replace v2_0 := v2_0.on (Fl.ok _) o4
  replace v3 := v3.on Store.okI o4
  have n4 := o4.ext.1
  have g4 := o4.fl
  have f4 := o4.le f3
  have c1 := eqIntS_run hLInt (Z := Z) v4_0 v2_0
  obtain ⟨y5, h5, p5, e5, o5, v5, q5⟩ := toStoreS_c hLStore hLShard hLBook hLAccount hLFin (Z := Z) f4 lv sm0
  replace lv := lv.on Store.okL o5
  replace v1 := v1.on Store.okI o5
  replace v2_0 := v2_0.on (Fl.ok _) o5
  replace v3 := v3.on Store.okI o5
  replace v4_0 := v4_0.on (Fl.ok _) o5
  have n5 := o5.ext.1
  have g5 := o5.fl
  have f5 := o5.le f4
  have c2 := eqStoreS_r hLStore hLShard hLBook hLAccount hLFin (Z := Z) v3 v5
  have hb1 := Store.wtS_le sm0
  have hb2 := Store.wtS_nn l
  have hb3 := holders_len l id
  have hb4 := sm0.1
  have lo6 : ∀ id, id ∈ p3 → h5.floor ≤ id := fun id hid => by have := q3.lo id hid; omega
  obtain ⟨h6, m6, k6, u6⟩ := markStoreS_r hLStore hLShard hLBook hLAccount hLFin (Z := Z) v3 q3.nd lo6 (1) (by omega) (by omega)
  replace lv := lv.mk Store.okL k6 fun id h1 h2 => by have a1 := q3.lo id h2; have a2 := Tlv id h1; omega
  replace v2_0 := v2_0.mk (Fl.ok _) k6 fun id h1 h2 => by have a1 := q3.lo id h2; have a2 := Tv2_0 id h1; omega
  replace v4_0 := v4_0.mk (Fl.ok _) k6 fun id h1 h2 => by have a1 := q3.lo id h2; have a2 := Tv3 id h2; have a3 := q4_0.lo id h1; omega
  have n6 := k6.next
  have g6 := k6.fl
  have f6 : h6.floor ≤ h6.next := by omega
  replace v3 := u6
  have hk6 : ¬ (1 + Store.wtS l : Int) < 0 := by omega
  have c3 := eqIntS_run hLInt (Z := Z) v4_0 v2_0
  have lo7 : ∀ id, id ∈ p4_0 → h6.floor ≤ id := fun id hid => by have := q4_0.lo id hid; omega
  obtain ⟨h7, m7, k7, u7⟩ := markIntS_run hLInt (Z := Z) v4_0 lo7 (1) (by omega) (by omega)
  replace lv := lv.mk Store.okL k7 fun id h1 h2 => by have a1 := q4_0.lo id h2; have a2 := Tlv id h1; omega
  replace v2_0 := v2_0.mk (Fl.ok _) k7 fun id h1 h2 => by have a1 := q4_0.lo id h2; have a2 := Tv2_0 id h1; omega
  have n7 := k7.next
  have g7 := k7.fl
  have f7 : h7.floor ≤ h7.next := by omega
  replace v4_0 := u7
  have hkk : ¬ (1 + 1 * (((holders l id).length : Nat) : Int) : Int) < 0 := by omega
  have d4 := heldIntS_run hLInt (Z := Z) v4_0 (by omega) (by omega)
  have hh5 : ¬ (1 + 1 * (((holders l id).length : Nat) : Int) : Int) < 0 := by omega
  obtain ⟨y8, h8, p8, e8, o8, v8, q8⟩ := toStoreS_c hLStore hLShard hLBook hLAccount hLFin (Z := Z) f7 lv sm0
  replace lv := lv.on Store.okL o8
  replace v2_0 := v2_0.on (Fl.ok _) o8
  replace v4_0 := v4_0.on (Fl.ok _) o8
  have n8 := o8.ext.1
  have g8 := o8.fl
  have f8 := o8.le f7
  obtain ⟨r9_0, h9, p9_0, e9, o9, v9_0, q9_0⟩ := Holders_c ⟨hI10, hI11, hI13, hLibcmpCompareint, hLibcmpCompareuint64, hLibcmpOrint, hLibcmpisNaNint, hLibcmpisNaNuint64, hLibslicesIndeximplFinimplFin, hLibslicesContainsimplFinimplFin⟩ ⟨hI15, hLibslicesIndexFuncimplStoreimplStore, hLibslicesContainsFuncimplStoreimplStore⟩ hLibslicesIndexFuncimplShardimplShard (Z := Z) f8 v8 id lok
  replace lv := lv.on Store.okL o9
  replace v2_0 := v2_0.on (Fl.ok _) o9
  replace v4_0 := v4_0.on (Fl.ok _) o9
  replace v8 := v8.on Store.okI o9
  have n9 := o9.ext.1
  have g9 := o9.fl
  have f9 := o9.le f8
  have c6 := eqIntS_run hLInt (Z := Z) v9_0 v2_0
  have d7 := heldIntS_run hLInt (Z := Z) v4_0 (by omega) (by omega)
  have hh8 : ¬ (1 + 1 * (((holders l id).length : Nat) : Int) : Int) < 0 := by omega
  simp only [run0, run1, run2, run3, run4, noSlot, memN, RO.dst, lk, drop, forget, number, Nat.reduceBEq, cut?, splice?, builds, List.length_cons, List.length_nil, List.drop_succ_cons, List.drop_zero, List.take_succ_cons, List.take_zero, List.cons_append, List.nil_append, List.append_nil, List.drop_nil, List.take_nil, Nat.reduceAdd, Nat.reduceLeDiff, Nat.zero_add, Nat.add_zero, ↓reduceIte, Bool.not_true, Bool.not_false, decide_true, decide_false, eq_self, bne_self_eq_false, List.getElem?_cons_zero, List.getElem?_cons_succ, decide_eq_true_eq, Bool.false_eq_true, Bool.true_eq_false, reduceCtorEq, Nat.le_refl, hn0, e1, e2, e3, e4, c1, e5, c2, m6, hk6, c3, m7, hkk, d4, hh5, e8, e9, c6, d7, hh8]
  exact ⟨_, rfl⟩
end Go.Proofs.Ytlfepembgjjejaa.A
/- FnExactHolders: the row's statement, from the law of the abstract run. No condition. -/
namespace Go.Proofs.Ytlfepembgjjejaa.A.ExactHolders
open Go Go.ChangeShapes Go.WideShapes Go.ChangeAt Go.RowKit
theorem own : ownKnob Try.prog.godebug = none := by kernel_rfl
set_option maxRecDepth 100000 in
theorem lifted (os : Os) (started : os.Started) (H : Type) (enc : TypeId × Value → H) :
    ReturnsInHanded {} Try.checked os 3 .any (Rows.fnExactHoldersSpec.pre6 enc Try.prog Try.f3 Rows.fnExactHoldersRow.domain false) (Rows.fnExactHoldersSpec.post enc Try.prog Try.f3 false true false false) := by
  refine returnsInHanded_of_change_sized (C := Try.checked) own started (by kernel_rfl) Try.func3
    (ChangeSpec.witness6 (enc := enc) (C := Try.checked) false ⟨#[], #[.slice none 0 0, .int .u64 0], []⟩ 8 (by kernel_rfl) (by kernel_rfl) (by kernel_rfl) (by kernel_rfl)) ?_
  intro W base args ds gs before hval hW _ _ _
  have hW' := hW
  obtain ⟨p, q, hA, hV, rfl, hfz, hnd⟩ := hW
  obtain ⟨rfl, rfl⟩ := trodVars_none hV
  have r0 : DataW.TrodAll enc Try.prog W 0 (fun _ => true) true [22, 23] args.toList ds p := hA
  obtain ⟨_, _, d0, _, _, _, _, rfl, _, _, r1⟩ := trodAll_cons r0
  obtain ⟨_, _, d1, _, _, _, _, rfl, _, _, r2⟩ := trodAll_cons r1
  obtain ⟨_, rfl, _⟩ := trodAll_nil r2
  refine (law_calls (ts := [22, 23]) (ss := [shStoreS, (.int .u64)]) prog (show (mkCfg Try.prog tab tags).G 282 = some 3 from by kernel_rfl) ⟨show shIs Try.prog (mkCfg Try.prog tab tags).ET (mkCfg Try.prog tab tags).SZ 8 22 shStoreS = true from by kernel_rfl, show shIs Try.prog (mkCfg Try.prog tab tags).ET (mkCfg Try.prog tab tags).SZ 8 23 (.int .u64) = true from by kernel_rfl, trivial⟩ (law_ExactHolders inI10 inI11 inI13 inI15 inLAccount inLBook inLFin inLInt inLShard inLStore inLibcmpCompareint inLibcmpCompareuint64 inLibcmpOrint inLibcmpisNaNint inLibcmpisNaNuint64 inLibslicesContainsFuncimplStoreimplStore inLibslicesContainsimplFinimplFin inLibslicesIndexFuncimplShardimplShard inLibslicesIndexFuncimplStoreimplStore inLibslicesIndeximplFinimplFin inS01d inS10 inS13 inS15 inWHolders) (fun j t v h1 => hval j t v (by rw [Try.params3]; exact (List.getElem?_toArray ..).trans h1)) hA).mono fun e W' ⟨he, bel⟩ => ?_
  subst he
  exact ⟨_, rfl, _, _, _, [], _, [], hW', trodAll_mk1 (shut_bool Try.underlying4 _), trodAll_below (by kernel_rfl) bel _ _ _ _ (by kernel_rfl) hA hA.lt, rfl, bel.frame _, fun h => by cases h⟩
theorem over : Rows.fnExactHoldersRow.holds Try.pinned (OpenSpec.ofChange Rows.fnExactHoldersSpec) :=
  OpenClaim.holds_of_wide 3 Try.f3 rfl rfl rfl rfl rfl rfl rfl ⟨rfl, rfl, rfl, rfl, rfl⟩ rfl rfl rfl rfl rfl (by kernel_rfl) Try.func3 (by kernel_rfl)
    (of_decide_eq_true (by kernel_rfl)) (by unfold Func.isWrapper; first | (rw [if_pos (by decide +kernel)]; kernel_rfl) | (rw [if_neg (by decide +kernel)]; exact ⟨rfl, rfl⟩))
    (fun os started H enc _ => lifted os started H enc)
end Go.Proofs.Ytlfepembgjjejaa.A.ExactHolders
namespace Go.Proofs.Ytlfepembgjjejaa
/-- The row. -/
theorem fnExactHolders_holds : Rows.FnExactHoldersSaid := A.ExactHolders.over
#print axioms fnExactHolders_holds
end Go.Proofs.Ytlfepembgjjejaa
