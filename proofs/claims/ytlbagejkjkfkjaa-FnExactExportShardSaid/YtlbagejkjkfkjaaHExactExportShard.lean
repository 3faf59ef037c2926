/- FnExactExportShard: the statement, from the law of the abstract run. No condition. -/
import Derived.Test.YtlbagejkjkfkjaaHCExactExportShard3
import Derived.Test.YtlbagejkjkfkjaaB6
import Derived.Test.YtlbagejkjkfkjaaProg
import Derived.Test.YtlbagejkjkfkjaaRows
import Derived.ProofKit
import Derived.OpenShut
import Derived.ShutString
import Derived.ChangeOld
import Derived.Below
import Derived.SizedLaws
/- The functions that FnExactExportShard reaches: the program's code against the compact code, entry by entry. -/
namespace Go.Proofs.Ytlbagejkjkfkjaa.A.ExactExportShard
open Go
def c : CC where
  T := [(3, ⟨1, 8, false, some [.int .i64 0], (.int .i64)⟩),
    (4, ⟨1, 1, false, some [.bool false], .bool⟩),
    (24, ⟨1, 8, false, some [.int .u64 0], (.int .u64)⟩),
    (62, ⟨1, 24, false, some [.nil], (.slice 83 20)⟩),
    (64, ⟨3, 40, true, some [.int .i64 0, .int .i64 0, .nil], (.struct [(0, 1, false), (1, 1, false), (2, 1, false)])⟩),
    (67, ⟨1, 24, false, some [.nil], (.slice 93 16)⟩),
    (69, ⟨3, 40, true, some [.int .i64 0, .int .i64 0, .nil], (.struct [(0, 1, false), (1, 1, false), (2, 1, false)])⟩),
    (78, ⟨1, 24, false, some [.nil], (.slice 246 12)⟩),
    (80, ⟨1, 24, true, some [.nil], (.struct [(0, 1, false)])⟩),
    (81, ⟨1, 24, false, some [.nil], (.slice 235 10)⟩),
    (83, ⟨6, 80, true, some [.int .u64 0, .int .u64 0, .int .i64 0, .int .i64 0, .nil, .nil], (.struct [(0, 1, false), (1, 1, false), (2, 1, false), (3, 1, false), (4, 1, true), (5, 1, false)])⟩),
    (88, ⟨1, 24, false, some [.nil], (.slice 208 11)⟩),
    (90, ⟨1, 24, true, some [.nil], (.struct [(0, 1, false)])⟩),
    (91, ⟨1, 24, false, some [.nil], (.slice 205 9)⟩),
    (93, ⟨6, 80, true, some [.int .u64 0, .int .u64 0, .int .i64 0, .int .i64 0, .nil, .nil], (.struct [(0, 1, false), (1, 1, false), (2, 1, false), (3, 1, false), (4, 1, true), (5, 1, false)])⟩),
    (129, ⟨1, 24, false, some [.nil], (.slice 3 15)⟩),
    (205, ⟨2, 16, true, some [.int .i64 0, .int .u64 0], (.struct [(0, 1, false), (1, 1, false)])⟩),
    (208, ⟨5, 40, true, some [.int .u64 0, .int .u64 0, .int .u64 0, .int .u64 0, .int .i64 0], (.struct [(0, 1, false), (1, 1, false), (2, 1, false), (3, 1, false), (4, 1, false)])⟩),
    (235, ⟨2, 16, true, some [.int .i64 0, .int .u64 0], (.struct [(0, 1, false), (1, 1, false)])⟩),
    (246, ⟨5, 40, true, some [.int .u64 0, .int .u64 0, .int .u64 0, .int .u64 0, .int .i64 0], (.struct [(0, 1, false), (1, 1, false), (2, 1, false), (3, 1, false), (4, 1, false)])⟩)]
  F := [(14, 188), (31, 154), (32, 156), (33, 155), (35, 158), (71, 189), (72, 190), (73, 114), (74, 191), (75, 192), (76, 193), (93, 203), (94, 5), (95, 204), (96, 205), (97, 206), (98, 207), (102, 111), (103, 210), (105, 112), (107, 213), (134, 228), (135, 229), (136, 133), (137, 134), (138, 230), (139, 231), (140, 232), (141, 233), (142, 234), (153, 241), (154, 242), (155, 243), (156, 7), (157, 244), (159, 128), (160, 129), (161, 130), (162, 131), (163, 248), (165, 249), (183, 259), (184, 260), (185, 139), (186, 140), (187, 261), (188, 262), (195, 265), (196, 266), (197, 267), (198, 136), (199, 137), (200, 138), (205, 142), (206, 272), (207, 275), (208, 273), (209, 274), (210, 141), (213, 276), (214, 277)]
  eqT := [(205, [.i .i64, .i .u64])]
  adds := [101]
def F : Nat → Option RF := lk (tI10 ++ tI11 ++ tI13 ++ tLAccount ++ tLBook ++ tLFin ++ tLShard ++ tLStore ++ tLibcmpCompareint ++ tLibcmpCompareuint64 ++ tLibcmpOrint ++ tLibcmpisNaNint ++ tLibcmpisNaNuint64 ++ tLibslicesContainsimplFinimplFin ++ tLibslicesIndexFuncimplShardimplShard ++ tLibslicesIndeximplFinimplFin ++ tS01d ++ tS10 ++ tS13 ++ tWExportShard)
def tab : List (Nat × FuncId × RF) := [(188, 14, r188), (154, 31, r154), (155, 33, r155), (158, 35, r158), (189, 71, r189), (190, 72, r190), (114, 73, r114), (191, 74, r191), (192, 75, r192), (193, 76, r193), (203, 93, r203), (205, 96, r205), (207, 98, r207), (156, 32, r156), (210, 103, r210), (228, 134, r228), (206, 97, r206), (213, 107, r213), (229, 135, r229), (133, 136, r133), (134, 137, r134), (230, 138, r230), (231, 139, r231), (232, 140, r232), (233, 141, r233), (234, 142, r234), (111, 102, r111), (112, 105, r112), (5, 94, r5), (204, 95, r204), (259, 183, r259), (7, 156, r7), (244, 157, r244), (248, 163, r248), (249, 165, r249), (260, 184, r260), (139, 185, r139), (140, 186, r140), (261, 187, r261), (262, 188, r262), (128, 159, r128), (129, 160, r129), (130, 161, r130), (131, 162, r131), (241, 153, r241), (242, 154, r242), (243, 155, r243), (265, 195, r265), (266, 196, r266), (267, 197, r267), (142, 205, r142), (136, 198, r136), (137, 199, r137), (138, 200, r138), (272, 206, r272), (275, 207, r275), (273, 208, r273), (274, 209, r274), (141, 210, r141), (276, 213, r276), (277, 214, r277)]
def tags : List (Nat × TypeId × Nat) := [(9, 205, 2), (10, 235, 2), (11, 208, 5), (12, 246, 5), (15, 3, 1), (16, 93, 6), (20, 83, 6)]
theorem ok188 : FnOk Try.prog c F (188, 14, r188) := ⟨Try.f14, [], [[0, 1, 2, 3, 4], [0, 1, 2, 3, 4]], Try.func14, by kernel_rfl, by kernel_rfl, by kernel_rfl⟩
theorem ok154 : FnOk Try.prog c F (154, 31, r154) := ⟨Try.f31, [], [], Try.func31, by kernel_rfl, by kernel_rfl, by kernel_rfl⟩
theorem ok155 : FnOk Try.prog c F (155, 33, r155) := ⟨Try.f33, [], [], Try.func33, by kernel_rfl, by kernel_rfl, by kernel_rfl⟩
theorem ok158 : FnOk Try.prog c F (158, 35, r158) := ⟨Try.f35, [], [], Try.func35, by kernel_rfl, by kernel_rfl, by kernel_rfl⟩
theorem ok189 : FnOk Try.prog c F (189, 71, r189) := ⟨Try.f71, [], [], Try.func71, by kernel_rfl, by kernel_rfl, by kernel_rfl⟩
theorem ok190 : FnOk Try.prog c F (190, 72, r190) := ⟨Try.f72, [], [], Try.func72, by kernel_rfl, by kernel_rfl, by kernel_rfl⟩
theorem ok114 : FnOk Try.prog c F (114, 73, r114) := ⟨Try.f73, [], [], Try.func73, by kernel_rfl, by kernel_rfl, by kernel_rfl⟩
theorem ok191 : FnOk Try.prog c F (191, 74, r191) := ⟨Try.f74, [], [], Try.func74, by kernel_rfl, by kernel_rfl, by kernel_rfl⟩
theorem ok192 : FnOk Try.prog c F (192, 75, r192) := ⟨Try.f75, [], [], Try.func75, by kernel_rfl, by kernel_rfl, by kernel_rfl⟩
theorem ok193 : FnOk Try.prog c F (193, 76, r193) := ⟨Try.f76, [], [], Try.func76, by kernel_rfl, by kernel_rfl, by kernel_rfl⟩
theorem ok203 : FnOk Try.prog c F (203, 93, r203) := ⟨Try.f93, [], [[0, 1, 5]], Try.func93, by kernel_rfl, by kernel_rfl, by kernel_rfl⟩
theorem ok205 : FnOk Try.prog c F (205, 96, r205) := ⟨Try.f96, [], [[0, 3, 4]], Try.func96, by kernel_rfl, by kernel_rfl, by kernel_rfl⟩
theorem ok207 : FnOk Try.prog c F (207, 98, r207) := ⟨Try.f98, [], [[0, 1, 5], [0, 1, 2, 4, 5, 6, 3, 7, 8, 9], [0, 1, 2, 3, 4, 5, 6, 7, 8, 9]], Try.func98, by kernel_rfl, by kernel_rfl, by kernel_rfl⟩
theorem ok156 : FnOk Try.prog c F (156, 32, r156) := ⟨Try.f32, [], [[1, 3], [0, 1, 2, 3, 4, 5, 6, 7, 8, 9, 10, 11, 12, 13, 16, 17, 14, 15, 18, 19, 20, 21, 22, 23, 24, 25], [0, 1, 2, 3, 4, 5, 6, 7, 8, 9, 10, 11, 12, 13, 14, 15, 16, 17, 18, 19, 20, 21, 22, 23, 24, 25]], Try.func32, by kernel_rfl, by kernel_rfl, by kernel_rfl⟩
theorem ok210 : FnOk Try.prog c F (210, 103, r210) := ⟨Try.f103, [], [[1, 2, 3, 7]], Try.func103, by kernel_rfl, by kernel_rfl, by kernel_rfl⟩
theorem ok228 : FnOk Try.prog c F (228, 134, r228) := ⟨Try.f134, [], [[1, 2, 3, 4]], Try.func134, by kernel_rfl, by kernel_rfl, by kernel_rfl⟩
theorem ok206 : FnOk Try.prog c F (206, 97, r206) := ⟨Try.f97, [], [[1, 26, 27, 28], [0, 1, 2, 3, 4, 5, 6, 7, 8, 9, 10, 11, 12, 13, 16, 17, 14, 15, 18, 19, 20, 21, 22, 23, 24, 25], [0, 1, 2, 3, 4, 5, 6, 7, 8, 9, 10, 11, 12, 13, 14, 15, 16, 17, 18, 19, 20, 21, 22, 23, 24, 25]], Try.func97, by kernel_rfl, by kernel_rfl, by kernel_rfl⟩
theorem ok213 : FnOk Try.prog c F (213, 107, r213) := ⟨Try.f107, [4, 5], [], Try.func107, by kernel_rfl, by kernel_rfl, by kernel_rfl⟩
theorem ok229 : FnOk Try.prog c F (229, 135, r229) := ⟨Try.f135, [], [], Try.func135, by kernel_rfl, by kernel_rfl, by kernel_rfl⟩
theorem ok133 : FnOk Try.prog c F (133, 136, r133) := ⟨Try.f136, [], [], Try.func136, by kernel_rfl, by kernel_rfl, by kernel_rfl⟩
theorem ok134 : FnOk Try.prog c F (134, 137, r134) := ⟨Try.f137, [], [[0, 1, 5], [0, 1, 2, 4, 5, 6, 3, 7, 8, 9], [0, 1, 2, 3, 4, 5, 6, 7, 8, 9]], Try.func137, by kernel_rfl, by kernel_rfl, by kernel_rfl⟩
theorem ok230 : FnOk Try.prog c F (230, 138, r230) := ⟨Try.f138, [], [[0, 1, 5]], Try.func138, by kernel_rfl, by kernel_rfl, by kernel_rfl⟩
theorem ok231 : FnOk Try.prog c F (231, 139, r231) := ⟨Try.f139, [], [], Try.func139, by kernel_rfl, by kernel_rfl, by kernel_rfl⟩
theorem ok232 : FnOk Try.prog c F (232, 140, r232) := ⟨Try.f140, [], [[0, 1, 5]], Try.func140, by kernel_rfl, by kernel_rfl, by kernel_rfl⟩
theorem ok233 : FnOk Try.prog c F (233, 141, r233) := ⟨Try.f141, [], [], Try.func141, by kernel_rfl, by kernel_rfl, by kernel_rfl⟩
theorem ok234 : FnOk Try.prog c F (234, 142, r234) := ⟨Try.f142, [], [[0, 1, 5]], Try.func142, by kernel_rfl, by kernel_rfl, by kernel_rfl⟩
theorem ok111 : FnOk Try.prog c F (111, 102, r111) := ⟨Try.f102, [], [], Try.func102, by kernel_rfl, by kernel_rfl, by kernel_rfl⟩
theorem ok112 : FnOk Try.prog c F (112, 105, r112) := ⟨Try.f105, [], [], Try.func105, by kernel_rfl, by kernel_rfl, by kernel_rfl⟩
theorem ok5 : FnOk Try.prog c F (5, 94, r5) := ⟨Try.f94, [], [], Try.func94, by kernel_rfl, by kernel_rfl, by kernel_rfl⟩
theorem ok204 : FnOk Try.prog c F (204, 95, r204) := ⟨Try.f95, [], [[1, 3], [0, 1, 2, 3, 4, 5, 6, 7, 8, 9, 10, 11, 12, 13, 14, 15, 16, 17, 18, 19, 20, 23, 24, 21, 22, 25, 26, 27, 28, 29, 30, 31], [0, 1, 2, 3, 4, 5, 6, 7, 8, 9, 10, 11, 12, 13, 14, 15, 16, 17, 18, 19, 20, 21, 22, 23, 24, 25, 26, 27, 28, 29, 30, 31], [1, 5]], Try.func95, by kernel_rfl, by kernel_rfl, by kernel_rfl⟩
theorem ok259 : FnOk Try.prog c F (259, 183, r259) := ⟨Try.f183, [], [[1, 2, 3, 4], [4, 0, 1, 2, 3, 5, 6, 7, 8, 9, 10], [0, 1, 2, 3, 4, 5, 6, 7, 8, 9, 10]], Try.func183, by kernel_rfl, by kernel_rfl, by kernel_rfl⟩
theorem ok7 : FnOk Try.prog c F (7, 156, r7) := ⟨Try.f156, [], [], Try.func156, by kernel_rfl, by kernel_rfl, by kernel_rfl⟩
theorem ok244 : FnOk Try.prog c F (244, 157, r244) := ⟨Try.f157, [], [[1, 46, 47, 48], [1, 76, 77, 78], [0, 1, 2, 3, 4, 5, 6, 7, 8, 9, 10, 11, 12, 13, 14, 15, 16, 17, 18, 19, 20, 23, 24, 21, 22, 25, 26, 27, 28, 29, 30, 31], [0, 1, 2, 3, 4, 5, 6, 7, 8, 9, 10, 11, 12, 13, 14, 15, 16, 17, 18, 19, 20, 21, 22, 23, 24, 25, 26, 27, 28, 29, 30, 31]], Try.func157, by kernel_rfl, by kernel_rfl, by kernel_rfl⟩
theorem ok248 : FnOk Try.prog c F (248, 163, r248) := ⟨Try.f163, [], [[0, 1, 7, 8]], Try.func163, by kernel_rfl, by kernel_rfl, by kernel_rfl⟩
theorem ok249 : FnOk Try.prog c F (249, 165, r249) := ⟨Try.f165, [], [], Try.func165, by kernel_rfl, by kernel_rfl, by kernel_rfl⟩
theorem ok260 : FnOk Try.prog c F (260, 184, r260) := ⟨Try.f184, [], [], Try.func184, by kernel_rfl, by kernel_rfl, by kernel_rfl⟩
theorem ok139 : FnOk Try.prog c F (139, 185, r139) := ⟨Try.f185, [], [[0, 1, 5], [0, 1, 2, 4, 5, 6, 3, 7, 8, 9], [0, 1, 2, 3, 4, 5, 6, 7, 8, 9]], Try.func185, by kernel_rfl, by kernel_rfl, by kernel_rfl⟩
theorem ok140 : FnOk Try.prog c F (140, 186, r140) := ⟨Try.f186, [], [], Try.func186, by kernel_rfl, by kernel_rfl, by kernel_rfl⟩
theorem ok261 : FnOk Try.prog c F (261, 187, r261) := ⟨Try.f187, [], [[0, 1, 5]], Try.func187, by kernel_rfl, by kernel_rfl, by kernel_rfl⟩
theorem ok262 : FnOk Try.prog c F (262, 188, r262) := ⟨Try.f188, [], [[0, 1, 5]], Try.func188, by kernel_rfl, by kernel_rfl, by kernel_rfl⟩
theorem ok128 : FnOk Try.prog c F (128, 159, r128) := ⟨Try.f159, [], [], Try.func159, by kernel_rfl, by kernel_rfl, by kernel_rfl⟩
theorem ok129 : FnOk Try.prog c F (129, 160, r129) := ⟨Try.f160, [], [], Try.func160, by kernel_rfl, by kernel_rfl, by kernel_rfl⟩
theorem ok130 : FnOk Try.prog c F (130, 161, r130) := ⟨Try.f161, [], [], Try.func161, by kernel_rfl, by kernel_rfl, by kernel_rfl⟩
theorem ok131 : FnOk Try.prog c F (131, 162, r131) := ⟨Try.f162, [], [[0, 3, 4]], Try.func162, by kernel_rfl, by kernel_rfl, by kernel_rfl⟩
theorem ok241 : FnOk Try.prog c F (241, 153, r241) := ⟨Try.f153, [], [[1, 3], [0, 1, 2, 5, 6, 3, 4, 7, 8, 9, 10, 11, 12, 13, 14, 15, 16, 17, 18, 19, 20, 21, 22, 23, 24, 25, 26, 27, 28, 29, 30, 31, 32, 33], [0, 1, 2, 3, 4, 5, 6, 7, 8, 9, 10, 11, 12, 13, 14, 15, 16, 17, 18, 19, 20, 21, 22, 23, 24, 25, 26, 27, 28, 29, 30, 31, 32, 33]], Try.func153, by kernel_rfl, by kernel_rfl, by kernel_rfl⟩
theorem ok242 : FnOk Try.prog c F (242, 154, r242) := ⟨Try.f154, [], [], Try.func154, by kernel_rfl, by kernel_rfl, by kernel_rfl⟩
theorem ok243 : FnOk Try.prog c F (243, 155, r243) := ⟨Try.f155, [], [[0, 3, 5], [0, 1, 2, 3, 4, 5], [0, 1, 2, 3, 4, 5]], Try.func155, by kernel_rfl, by kernel_rfl, by kernel_rfl⟩
theorem ok265 : FnOk Try.prog c F (265, 195, r265) := ⟨Try.f195, [], [[1, 10, 11, 12], [0, 1, 2, 3, 4, 5, 6, 7, 8, 9, 10, 11, 12, 13, 14, 15, 16, 17, 18, 19, 20, 21, 22, 23, 24, 25, 26, 27, 30, 31, 28, 29, 32, 33, 34, 35, 36, 37, 38, 39], [0, 1, 2, 3, 4, 5, 6, 7, 8, 9, 10, 11, 12, 13, 14, 15, 16, 17, 18, 19, 20, 21, 22, 23, 24, 25, 26, 27, 28, 29, 30, 31, 32, 33, 34, 35, 36, 37, 38, 39]], Try.func195, by kernel_rfl, by kernel_rfl, by kernel_rfl⟩
theorem ok266 : FnOk Try.prog c F (266, 196, r266) := ⟨Try.f196, [], [], Try.func196, by kernel_rfl, by kernel_rfl, by kernel_rfl⟩
theorem ok267 : FnOk Try.prog c F (267, 197, r267) := ⟨Try.f197, [], [[0, 1, 2, 3, 5, 6, 7, 8, 4, 9, 10, 11, 12], [0, 1, 2, 3, 4, 5, 6, 7, 8, 9, 10, 11, 12]], Try.func197, by kernel_rfl, by kernel_rfl, by kernel_rfl⟩
theorem ok142 : FnOk Try.prog c F (142, 205, r142) := ⟨Try.f205, [], [], Try.func205, by kernel_rfl, by kernel_rfl, by kernel_rfl⟩
theorem ok136 : FnOk Try.prog c F (136, 198, r136) := ⟨Try.f198, [], [], Try.func198, by kernel_rfl, by kernel_rfl, by kernel_rfl⟩
theorem ok137 : FnOk Try.prog c F (137, 199, r137) := ⟨Try.f199, [], [[0, 3, 4]], Try.func199, by kernel_rfl, by kernel_rfl, by kernel_rfl⟩
theorem ok138 : FnOk Try.prog c F (138, 200, r138) := ⟨Try.f200, [], [], Try.func200, by kernel_rfl, by kernel_rfl, by kernel_rfl⟩
theorem ok272 : FnOk Try.prog c F (272, 206, r272) := ⟨Try.f206, [], [[0, 3, 7, 8], [1, 2, 3, 0, 4, 5], [0, 1, 2, 3, 4, 5]], Try.func206, by kernel_rfl, by kernel_rfl, by kernel_rfl⟩
theorem ok275 : FnOk Try.prog c F (275, 207, r275) := ⟨Try.f207, [], [[3, 6, 7, 8]], Try.func207, by kernel_rfl, by kernel_rfl, by kernel_rfl⟩
theorem ok273 : FnOk Try.prog c F (273, 208, r273) := ⟨Try.f208, [], [], Try.func208, by kernel_rfl, by kernel_rfl, by kernel_rfl⟩
theorem ok274 : FnOk Try.prog c F (274, 209, r274) := ⟨Try.f209, [], [], Try.func209, by kernel_rfl, by kernel_rfl, by kernel_rfl⟩
theorem ok141 : FnOk Try.prog c F (141, 210, r141) := ⟨Try.f210, [], [], Try.func210, by kernel_rfl, by kernel_rfl, by kernel_rfl⟩
theorem ok276 : FnOk Try.prog c F (276, 213, r276) := ⟨Try.f213, [], [], Try.func213, by kernel_rfl, by kernel_rfl, by kernel_rfl⟩
theorem ok277 : FnOk Try.prog c F (277, 214, r277) := ⟨Try.f214, [], [], Try.func214, by kernel_rfl, by kernel_rfl, by kernel_rfl⟩
theorem okT : (c.T.all fun x => x.2.okB Try.prog (mkCfg Try.prog tab tags).ET (mkCfg Try.prog tab tags).SZ x.1) = true := by kernel_rfl
theorem okF : (c.F.all fun x => decide ((lk tab x.2).map (·.1) = some x.1)) = true := by kernel_rfl
theorem okTab : AllT (FnOk Try.prog c F) tab := ⟨ok188, ok154, ok155, ok158, ok189, ok190, ok114, ok191, ok192, ok193, ok203, ok205, ok207, ok156, ok210, ok228, ok206, ok213, ok229, ok133, ok134, ok230, ok231, ok232, ok233, ok234, ok111, ok112, ok5, ok204, ok259, ok7, ok244, ok248, ok249, ok260, ok139, ok140, ok261, ok262, ok128, ok129, ok130, ok131, ok241, ok242, ok243, ok265, ok266, ok267, ok142, ok136, ok137, ok138, ok272, ok275, ok273, ok274, ok141, ok276, ok277, trivial⟩
theorem prog (O : Nat) : ProgOk ((mkCfg Try.prog tab tags).at O) c F (fun _ _ _ => none) :=
  mkProg okT okF okTab ⟨⟨Try.f101, Try.func101, by kernel_rfl, by kernel_rfl, by kernel_rfl, by kernel_rfl⟩, trivial⟩ ⟨⟨by kernel_rfl, by kernel_rfl, by kernel_rfl⟩, trivial⟩ O
theorem inI10 : AllT (fun x => F x.1 = some x.2) tI10 := ⟨rfl, rfl, rfl, trivial⟩
theorem inI11 : AllT (fun x => F x.1 = some x.2) tI11 := ⟨rfl, rfl, rfl, rfl, rfl, rfl, trivial⟩
theorem inI13 : AllT (fun x => F x.1 = some x.2) tI13 := ⟨rfl, rfl, rfl, rfl, rfl, rfl, rfl, rfl, rfl, rfl, rfl, trivial⟩
theorem inLAccount : AllT (fun x => F x.1 = some x.2) tLAccount := ⟨rfl, rfl, rfl, rfl, rfl, rfl, rfl, trivial⟩
theorem inLBook : AllT (fun x => F x.1 = some x.2) tLBook := ⟨rfl, rfl, rfl, rfl, rfl, trivial⟩
theorem inLFin : AllT (fun x => F x.1 = some x.2) tLFin := ⟨rfl, rfl, rfl, rfl, rfl, rfl, rfl, trivial⟩
theorem inLShard : AllT (fun x => F x.1 = some x.2) tLShard := ⟨rfl, rfl, rfl, rfl, rfl, rfl, rfl, rfl, rfl, trivial⟩
theorem inLStore : AllT (fun x => F x.1 = some x.2) tLStore := ⟨rfl, rfl, rfl, rfl, rfl, rfl, rfl, trivial⟩
theorem inLibcmpCompareint : AllT (fun x => F x.1 = some x.2) tLibcmpCompareint := ⟨rfl, trivial⟩
theorem inLibcmpCompareuint64 : AllT (fun x => F x.1 = some x.2) tLibcmpCompareuint64 := ⟨rfl, trivial⟩
theorem inLibcmpOrint : AllT (fun x => F x.1 = some x.2) tLibcmpOrint := ⟨rfl, trivial⟩
theorem inLibcmpisNaNint : AllT (fun x => F x.1 = some x.2) tLibcmpisNaNint := ⟨rfl, trivial⟩
theorem inLibcmpisNaNuint64 : AllT (fun x => F x.1 = some x.2) tLibcmpisNaNuint64 := ⟨rfl, trivial⟩
theorem inLibslicesContainsimplFinimplFin : AllT (fun x => F x.1 = some x.2) tLibslicesContainsimplFinimplFin := ⟨rfl, trivial⟩
theorem inLibslicesIndexFuncimplShardimplShard : AllT (fun x => F x.1 = some x.2) tLibslicesIndexFuncimplShardimplShard := ⟨rfl, trivial⟩
theorem inLibslicesIndeximplFinimplFin : AllT (fun x => F x.1 = some x.2) tLibslicesIndeximplFinimplFin := ⟨rfl, trivial⟩
theorem inS01d : AllT (fun x => F x.1 = some x.2) tS01d := ⟨rfl, rfl, rfl, rfl, rfl, rfl, rfl, rfl, trivial⟩
theorem inS10 : AllT (fun x => F x.1 = some x.2) tS10 := ⟨rfl, rfl, rfl, rfl, rfl, trivial⟩
theorem inS13 : AllT (fun x => F x.1 = some x.2) tS13 := ⟨rfl, rfl, rfl, rfl, rfl, rfl, rfl, rfl, rfl, rfl, trivial⟩
theorem inWExportShard : AllT (fun x => F x.1 = some x.2) tWExportShard := ⟨rfl, trivial⟩
end Go.Proofs.Ytlbagejkjkfkjaa.A.ExactExportShard
/- ExportShard: the law's function, run on any arguments, answers true. -/
namespace Go.Proofs.Ytlbagejkjkfkjaa.A
open Go
set_option linter.unusedSimpArgs false
set_option linter.unusedVariables false
set_option maxHeartbeats 2000000 in
theorem law_ExactExportShard {F : Nat → Option RF} {Z : CallF} (hI10 : Has F tI10) (hI11 : Has F tI11) (hI13 : Has F tI13) (hLAccount : Has F tLAccount) (hLBook : Has F tLBook) (hLFin : Has F tLFin) (hLShard : Has F tLShard) (hLStore : Has F tLStore) (hLibcmpCompareint : Has F tLibcmpCompareint) (hLibcmpCompareuint64 : Has F tLibcmpCompareuint64) (hLibcmpOrint : Has F tLibcmpOrint) (hLibcmpisNaNint : Has F tLibcmpisNaNint) (hLibcmpisNaNuint64 : Has F tLibcmpisNaNuint64) (hLibslicesContainsimplFinimplFin : Has F tLibslicesContainsimplFinimplFin) (hLibslicesIndexFuncimplShardimplShard : Has F tLibslicesIndexFuncimplShardimplShard) (hLibslicesIndeximplFinimplFin : Has F tLibslicesIndeximplFinimplFin) (hS01d : Has F tS01d) (hS10 : Has F tS10) (hS13 : Has F tS13) (hWExportShard : Has F tWExportShard) (h : Heap) (avs : List V) (hfl : h.floor = h.next) (w : ArgsWf h 8 [shStore, .int .u64] avs) : ∃ h', call F Z 188 avs h = some (.c (.bool true), h') := by
  obtain ⟨sc, _, rfl, sw, w1⟩ := ArgsWf.struct w
  obtain ⟨s, sp, sv, sok⟩ := Wf.isStore sw
  obtain ⟨sl1, sl2, sl3⟩ := Store.lenL sv
  obtain ⟨lo, _, rfl, low, w2⟩ := ArgsWf.int w1
  obtain rfl := w2.nil
  have f0 : h.floor ≤ h.next := by omega
  rw [call_run F Z (hWExportShard.lk (g := 188) rfl) _ _ rfl]
  obtain ⟨l0, s0, s0l, s0k⟩ := szStore_c hLStore hLShard hLBook hLAccount hLFin (Z := Z) sv 1048576 (by omega) (by omega)
  simp only [run0, run1, run2, run3, run4, noSlot, memN, RO.dst, lk, drop, forget, number, Nat.reduceBEq, cut?, splice?, builds, List.length_cons, List.length_nil, List.drop_succ_cons, List.drop_zero, List.take_succ_cons, List.take_zero, List.cons_append, List.nil_append, List.append_nil, List.drop_nil, List.take_nil, Nat.reduceAdd, Nat.reduceLeDiff, Nat.zero_add, Nat.add_zero, ↓reduceIte, Bool.not_true, Bool.not_false, decide_true, decide_false, eq_self, bne_self_eq_false, List.getElem?_cons_zero, List.getElem?_cons_succ, decide_eq_true_eq, Bool.false_eq_true, Bool.true_eq_false, reduceCtorEq, Nat.le_refl, s0, sl1, sl2, sl3]
  by_cases hn0 : l0 < 0
  · simp only [run0, run1, run2, run3, run4, noSlot, memN, RO.dst, lk, drop, forget, number, Nat.reduceBEq, cut?, splice?, builds, List.length_cons, List.length_nil, List.drop_succ_cons, List.drop_zero, List.take_succ_cons, List.take_zero, List.cons_append, List.nil_append, List.append_nil, List.drop_nil, List.take_nil, Nat.reduceAdd, Nat.reduceLeDiff, Nat.zero_add, Nat.add_zero, ↓reduceIte, Bool.not_true, Bool.not_false, decide_true, decide_false, eq_self, bne_self_eq_false, List.getElem?_cons_zero, List.getElem?_cons_succ, decide_eq_true_eq, Bool.false_eq_true, Bool.true_eq_false, reduceCtorEq, Nat.le_refl, hn0]
    exact ⟨_, rfl⟩
  have sm0 := s0k (by omega)
  have flr : h.floor = h.next := hfl
  have Tsv := Store.okL.lt sv
  obtain ⟨y1, h1, p1, e1, o1, v1, q1⟩ := toStore_c hLStore hLShard hLBook hLAccount hLFin (Z := Z) f0 sv sm0
  replace sv := Store.okL.on sv o1
  have n1 := o1.ext.1
  have g1 := o1.fl
  have f1 := o1.le f0
  obtain ⟨vl1, vt1, vd1⟩ := Store.lenI v1
  obtain ⟨r2_0, h2, p2_0, e2, o2, v2_0, q2_0⟩ := sExportShard_c ⟨hS01d, hS10, hS13⟩ (Z := Z) f1 v1 lo sok sm0
  replace sv := Store.okL.on sv o2
  replace v1 := Store.okI.on v1 o2
  have n2 := o2.ext.1
  have g2 := o2.fl
  have f2 := o2.le f1
  have Tv2_0 := Shard.okI.lt v2_0
  obtain ⟨vl2_0, vt2_0, vd2_0⟩ := Shard.lenI v2_0
  obtain ⟨y3, h3, p3, e3, o3, v3, q3⟩ := toStore_c hLStore hLShard hLBook hLAccount hLFin (Z := Z) f2 sv sm0
  replace sv := Store.okL.on sv o3
  replace v1 := Store.okI.on v1 o3
  replace v2_0 := Shard.okI.on v2_0 o3
  have n3 := o3.ext.1
  have g3 := o3.fl
  have f3 := o3.le f2
  have Tv3 := Store.okI.lt v3
  obtain ⟨vl3, vt3, vd3⟩ := Store.lenI v3
  obtain ⟨r4_0, h4, p4_0, e4, o4, v4_0, q4_0⟩ := ExportShard_c ⟨hI10, hI11, hI13, hLibcmpCompareint, hLibcmpCompareuint64, hLibcmpOrint, hLibcmpisNaNint, hLibcmpisNaNuint64, hLibslicesIndeximplFinimplFin, hLibslicesContainsimplFinimplFin⟩ hLibslicesIndexFuncimplShardimplShard (Z := Z) f3 v3 lo sok sm0
  replace sv := Store.okL.on sv o4
  replace v1 := Store.okI.on v1 o4
  replace v2_0 := Shard.okI.on v2_0 o4
  replace v3 := Store.okI.on v3 o4
  have n4 := o4.ext.1
  have g4 := o4.fl
  have f4 := o4.le f3
  obtain ⟨vl4_0, vt4_0, vd4_0⟩ := Shard.lenI v4_0
  have c1 := eqShard_r hLShard hLBook hLAccount hLFin (Z := Z) v4_0 v2_0
  obtain ⟨y5, hq5, p5, e5, oq5, vq5, qq5⟩ := toStore_c hLStore hLShard hLBook hLAccount hLFin (Z := Z) (h := ⟨h4.next, h4.next, h4.get⟩) (Nat.le_refl _) (Store.okL.up sv _) sm0
  obtain ⟨h5, mq5⟩ : ∃ g, Heap.mk hq5.next h4.floor hq5.get = g := ⟨_, rfl⟩
  have o5 : On h4 h5 := by rw [← mq5]; exact ⟨⟨oq5.ext.1, oq5.ext.2⟩, rfl⟩
  have v5 := Store.okI.up vq5 h4.floor
  rw [mq5] at v5
  have q5 : Fre h4 p5 := ⟨qq5.lo, qq5.nd⟩
  replace sv := Store.okL.on sv o5
  replace v1 := Store.okI.on v1 o5
  replace v2_0 := Shard.okI.on v2_0 o5
  replace v3 := Store.okI.on v3 o5
  replace v4_0 := Shard.okI.on v4_0 o5
  have n5 := o5.ext.1
  have g5 := o5.fl
  have f5 := o5.le f4
  obtain ⟨vl5, vt5, vd5⟩ := Store.lenI v5
  have c2 := eqStore_r hLStore hLShard hLBook hLAccount hLFin (Z := Z) (h := ⟨h5.next, h5.next, h5.get⟩) (Store.okI.up v3 _) (Store.okI.up v5 _)
  have hb1 := Store.wt_le sm0
  have hb2 := s.wt_nn
  have hb3 := Shard.wt_le (exportShard_small (lo := lo) sm0)
  have hb4 := (exportShard s lo).1.wt_nn
  have lo6 : ∀ id, id ∈ p3 → h5.floor ≤ id := fun id hid => by have := q3.lo id hid; omega
  obtain ⟨h6, m6, k6, u6⟩ := markStore_r hLStore hLShard hLBook hLAccount hLFin (Z := Z) v3 q3.nd lo6 (1) (by omega) (by omega)
  replace sv := Store.okL.mk' sv k6 fun id h1 h2 => by have a1 := q3.lo id h2; have a2 := Tsv id h1; omega
  replace v2_0 := Shard.okI.mk' v2_0 k6 fun id h1 h2 => by have a1 := q3.lo id h2; have a2 := Tv2_0 id h1; omega
  replace v4_0 := Shard.okI.mk' v4_0 k6 fun id h1 h2 => by have a1 := q3.lo id h2; have a2 := Tv3 id h2; have a3 := q4_0.lo id h1; omega
  have n6 := k6.next
  have g6 := k6.fl
  have f6 : h6.floor ≤ h6.next := by omega
  replace v3 := u6
  have hk6 : ¬ (1 + s.wt : Int) < 0 := by omega
  have c3 := eqShard_r hLShard hLBook hLAccount hLFin (Z := Z) v4_0 v2_0
  have lo7 : ∀ id, id ∈ p4_0 → h6.floor ≤ id := fun id hid => by have := q4_0.lo id hid; omega
  obtain ⟨h7, m7, k7, u7⟩ := markShard_r hLShard hLBook hLAccount hLFin (Z := Z) v4_0 q4_0.nd lo7 (1) (by omega) (by omega)
  replace sv := Store.okL.mk' sv k7 fun id h1 h2 => by have a1 := q4_0.lo id h2; have a2 := Tsv id h1; omega
  replace v2_0 := Shard.okI.mk' v2_0 k7 fun id h1 h2 => by have a1 := q4_0.lo id h2; have a2 := Tv2_0 id h1; omega
  have n7 := k7.next
  have g7 := k7.fl
  have f7 : h7.floor ≤ h7.next := by omega
  replace v4_0 := u7
  have hkk : ¬ (1 + ((exportShard s lo).1).wt : Int) < 0 := by omega
  have d4 := heldShard_r hLShard hLBook hLAccount hLFin (Z := Z) v4_0 (by omega) (by omega)
  have hh5 : ¬ (1 + ((exportShard s lo).1).wt : Int) < 0 := by omega
  obtain ⟨y8, h8, p8, e8, o8, v8, q8⟩ := toStore_c hLStore hLShard hLBook hLAccount hLFin (Z := Z) f7 sv sm0
  replace sv := Store.okL.on sv o8
  replace v2_0 := Shard.okI.on v2_0 o8
  replace v4_0 := Shard.okI.on v4_0 o8
  have n8 := o8.ext.1
  have g8 := o8.fl
  have f8 := o8.le f7
  obtain ⟨vl8, vt8, vd8⟩ := Store.lenI v8
  obtain ⟨r9_0, h9, p9_0, e9, o9, v9_0, q9_0⟩ := ExportShard_c ⟨hI10, hI11, hI13, hLibcmpCompareint, hLibcmpCompareuint64, hLibcmpOrint, hLibcmpisNaNint, hLibcmpisNaNuint64, hLibslicesIndeximplFinimplFin, hLibslicesContainsimplFinimplFin⟩ hLibslicesIndexFuncimplShardimplShard (Z := Z) f8 v8 lo sok sm0
  replace sv := Store.okL.on sv o9
  replace v2_0 := Shard.okI.on v2_0 o9
  replace v4_0 := Shard.okI.on v4_0 o9
  replace v8 := Store.okI.on v8 o9
  have n9 := o9.ext.1
  have g9 := o9.fl
  have f9 := o9.le f8
  obtain ⟨vl9_0, vt9_0, vd9_0⟩ := Shard.lenI v9_0
  have c6 := eqShard_r hLShard hLBook hLAccount hLFin (Z := Z) v9_0 v2_0
  have d7 := heldShard_r hLShard hLBook hLAccount hLFin (Z := Z) v4_0 (by omega) (by omega)
  have hh8 : ¬ (1 + ((exportShard s lo).1).wt : Int) < 0 := by omega
  simp only [run0, run1, run2, run3, run4, noSlot, memN, RO.dst, lk, drop, forget, number, Nat.reduceBEq, cut?, splice?, builds, List.length_cons, List.length_nil, List.drop_succ_cons, List.drop_zero, List.take_succ_cons, List.take_zero, List.cons_append, List.nil_append, List.append_nil, List.drop_nil, List.take_nil, Nat.reduceAdd, Nat.reduceLeDiff, Nat.zero_add, Nat.add_zero, ↓reduceIte, Bool.not_true, Bool.not_false, decide_true, decide_false, eq_self, bne_self_eq_false, List.getElem?_cons_zero, List.getElem?_cons_succ, decide_eq_true_eq, Bool.false_eq_true, Bool.true_eq_false, reduceCtorEq, Nat.le_refl, hn0, sl1, sl2, sl3, e1, vl1, vt1, vd1, e2, vl2_0, vt2_0, vd2_0, e3, vl3, vt3, vd3, e4, vl4_0, vt4_0, vd4_0, c1, mq5, e5, vl5, vt5, vd5, c2, m6, hk6, c3, m7, hkk, d4, hh5, e8, vl8, vt8, vd8, e9, vl9_0, vt9_0, vd9_0, c6, d7, hh8]
  exact ⟨_, rfl⟩
end Go.Proofs.Ytlbagejkjkfkjaa.A
/- FnExactExportShard: the row's statement, from the law of the abstract run. No condition. -/
namespace Go.Proofs.Ytlbagejkjkfkjaa.A.ExactExportShard
open Go Go.ChangeShapes Go.WideShapes Go.ChangeAt Go.RowKit
theorem own : ownKnob Try.prog.godebug = none := by kernel_rfl
set_option maxRecDepth 100000 in
theorem lifted (os : Os) (started : os.Started) (H : Type) (enc : TypeId × Value → H) :
    ReturnsInHanded {} Try.checked os 14 .any (Rows.fnExactExportShardSpec.pre6 enc Try.prog Try.f14 Rows.fnExactExportShardRow.domain false) (Rows.fnExactExportShardSpec.post enc Try.prog Try.f14 false true false false) := by
  refine returnsInHanded_of_change_sized (C := Try.checked) own started (by kernel_rfl) Try.func14
    (ChangeSpec.witness6 (enc := enc) (C := Try.checked) false ⟨#[], #[.agg #[.int .i64 0, .int .i64 0, .slice none 0 0], .int .u64 0], []⟩ 8 (by kernel_rfl) (by kernel_rfl) (by kernel_rfl) (by kernel_rfl)) ?_
  intro W base args ds gs before hval hW _ _ _
  have hW' := hW
  obtain ⟨p, q, hA, hV, rfl, hfz, hnd⟩ := hW
  obtain ⟨rfl, rfl⟩ := trodVars_none hV
  have r0 : DataW.TrodAll enc Try.prog W 0 (fun _ => true) true [64, 24] args.toList ds p := hA
  obtain ⟨_, _, d0, _, _, _, _, rfl, _, _, r1⟩ := trodAll_cons r0
  obtain ⟨_, _, d1, _, _, _, _, rfl, _, _, r2⟩ := trodAll_cons r1
  obtain ⟨_, rfl, _⟩ := trodAll_nil r2
  refine (law_calls (ts := [64, 24]) (ss := [shStore, (.int .u64)]) prog (show (mkCfg Try.prog tab tags).G 188 = some 14 from by kernel_rfl) ⟨show shIs Try.prog (mkCfg Try.prog tab tags).ET (mkCfg Try.prog tab tags).SZ 8 64 shStore = true from by kernel_rfl, show shIs Try.prog (mkCfg Try.prog tab tags).ET (mkCfg Try.prog tab tags).SZ 8 24 (.int .u64) = true from by kernel_rfl, trivial⟩ (law_ExactExportShard inI10 inI11 inI13 inLAccount inLBook inLFin inLShard inLStore inLibcmpCompareint inLibcmpCompareuint64 inLibcmpOrint inLibcmpisNaNint inLibcmpisNaNuint64 inLibslicesContainsimplFinimplFin inLibslicesIndexFuncimplShardimplShard inLibslicesIndeximplFinimplFin inS01d inS10 inS13 inWExportShard) (fun j t v h1 => hval j t v (by rw [Try.params14]; exact (List.getElem?_toArray ..).trans h1)) hA).mono fun e W' ⟨he, bel⟩ => ?_
  subst he
  exact ⟨_, rfl, _, _, _, [], _, [], hW', trodAll_mk1 (shut_bool Try.underlying4 _), trodAll_below (by kernel_rfl) bel _ _ _ _ (by kernel_rfl) hA hA.lt, rfl, bel.frame _, fun h => by cases h⟩
theorem over : Rows.fnExactExportShardRow.holds Try.pinned (OpenSpec.ofChange Rows.fnExactExportShardSpec) :=
  OpenClaim.holds_of_wide 14 Try.f14 rfl rfl rfl rfl rfl rfl rfl ⟨rfl, rfl, rfl, rfl, rfl⟩ rfl rfl rfl rfl rfl (by kernel_rfl) Try.func14 (by kernel_rfl)
    (of_decide_eq_true (by kernel_rfl)) (by unfold Func.isWrapper; first | (rw [if_pos (by decide +kernel)]; kernel_rfl) | (rw [if_neg (by decide +kernel)]; exact ⟨rfl, rfl⟩))
    (fun os started H enc _ => lifted os started H enc)
end Go.Proofs.Ytlbagejkjkfkjaa.A.ExactExportShard
namespace Go.Proofs.Ytlbagejkjkfkjaa
/-- The row. -/
theorem fnExactExportShard_holds : Rows.FnExactExportShardSaid := A.ExactExportShard.over
#print axioms fnExactExportShard_holds
end Go.Proofs.Ytlbagejkjkfkjaa
