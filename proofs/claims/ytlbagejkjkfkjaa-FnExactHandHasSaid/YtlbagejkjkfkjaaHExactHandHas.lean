/- FnExactHandHas: the statement, from the law of the abstract run. No condition. -/
import Derived.Test.YtlbagejkjkfkjaaHCExactHandHas2
import Derived.Test.YtlbagejkjkfkjaaB6
import Derived.Test.YtlbagejkjkfkjaaProg
import Derived.Test.YtlbagejkjkfkjaaRows
import Derived.ProofKit
import Derived.OpenShut
import Derived.ShutString
import Derived.ChangeOld
import Derived.Below
import Derived.SizedLaws
/- The functions that FnExactHandHas reaches: the program's code against the compact code, entry by entry. -/
namespace Go.Proofs.Ytlbagejkjkfkjaa.A.ExactHandHas
open Go
def c : CC where
  T := [(3, ⟨1, 8, false, some [.int .i64 0], (.int .i64)⟩),
    (4, ⟨1, 1, false, some [.bool false], .bool⟩),
    (24, ⟨1, 8, false, some [.int .u64 0], (.int .u64)⟩),
    (62, ⟨1, 24, false, some [.nil], (.slice 83 20)⟩),
    (64, ⟨3, 40, true, some [.int .i64 0, .int .i64 0, .nil], (.struct [(0, 1, false), (1, 1, false), (2, 1, false)])⟩),
    (67, ⟨1, 24, false, some [.nil], (.slice 93 16)⟩),
    (69, ⟨3, 40, true, some [.int .i64 0, .int .i64 0, .nil], (.struct [(0, 1, false), (1, 1, false), (2, 1, false)])⟩),
    (78, ⟨1, 24, false, some [.nil], (.slice 246 12)⟩),
    (80, ⟨1, 24, true, some [.nil], (.struct [(0, 1, false)])⟩),
    (81, ⟨1, 24, false, some [.nil], (.slice 235 10)⟩),
    (83, ⟨6, 80, true, some [.int .u64 0, .int .u64 0, .int .i64 0, .int .i64 0, .nil, .nil], (.struct [(0, 1, false), (1, 1, false), (2, 1, false), (3, 1, false), (4, 1, true), (5, 1, false)])⟩),
    (85, ⟨10, 112, true, some [.int .i64 0, .int .u64 0, .int .i64 0, .int .i64 0, .int .u64 0, .int .u64 0, .int .i64 0, .int .i64 0, .nil, .nil], (.struct [(0, 1, false), (1, 1, false), (2, 1, false), (3, 1, false), (4, 6, true)])⟩),
    (88, ⟨1, 24, false, some [.nil], (.slice 208 11)⟩),
    (90, ⟨1, 24, true, some [.nil], (.struct [(0, 1, false)])⟩),
    (91, ⟨1, 24, false, some [.nil], (.slice 205 9)⟩),
    (93, ⟨6, 80, true, some [.int .u64 0, .int .u64 0, .int .i64 0, .int .i64 0, .nil, .nil], (.struct [(0, 1, false), (1, 1, false), (2, 1, false), (3, 1, false), (4, 1, true), (5, 1, false)])⟩),
    (95, ⟨10, 112, true, some [.int .i64 0, .int .u64 0, .int .i64 0, .int .i64 0, .int .u64 0, .int .u64 0, .int .i64 0, .int .i64 0, .nil, .nil], (.struct [(0, 1, false), (1, 1, false), (2, 1, false), (3, 1, false), (4, 6, true)])⟩),
    (129, ⟨1, 24, false, some [.nil], (.slice 3 15)⟩),
    (205, ⟨2, 16, true, some [.int .i64 0, .int .u64 0], (.struct [(0, 1, false), (1, 1, false)])⟩),
    (208, ⟨5, 40, true, some [.int .u64 0, .int .u64 0, .int .u64 0, .int .u64 0, .int .i64 0], (.struct [(0, 1, false), (1, 1, false), (2, 1, false), (3, 1, false), (4, 1, false)])⟩),
    (235, ⟨2, 16, true, some [.int .i64 0, .int .u64 0], (.struct [(0, 1, false), (1, 1, false)])⟩),
    (246, ⟨5, 40, true, some [.int .u64 0, .int .u64 0, .int .u64 0, .int .u64 0, .int .i64 0], (.struct [(0, 1, false), (1, 1, false), (2, 1, false), (3, 1, false), (4, 1, false)])⟩)]
  F := [(9, 165), (31, 154), (32, 156), (33, 155), (35, 158), (41, 82), (42, 166), (43, 83), (44, 167), (45, 87), (73, 114), (93, 203), (94, 5), (95, 204), (96, 205), (97, 206), (98, 207), (102, 111), (103, 210), (104, 211), (105, 112), (106, 212), (107, 213), (136, 133), (137, 134), (153, 241), (154, 242), (155, 243), (156, 7), (157, 244), (159, 128), (160, 129), (161, 130), (162, 131), (163, 248), (164, 247), (165, 249), (185, 139), (186, 140), (195, 265), (196, 266), (197, 267), (198, 136), (199, 137), (200, 138), (205, 142), (206, 272), (207, 275), (208, 273), (209, 274), (210, 141), (213, 276), (214, 277)]
  eqT := [(205, [.i .i64, .i .u64])]
  adds := [101]
def F : Nat → Option RF := lk (tI10 ++ tI11 ++ tI13 ++ tI15 ++ tLAccount ++ tLBook ++ tLFin ++ tLHandMsg ++ tLShard ++ tLStore ++ tLibcmpCompareint ++ tLibcmpCompareuint64 ++ tLibcmpOrint ++ tLibcmpisNaNint ++ tLibcmpisNaNuint64 ++ tLibslicesContainsimplFinimplFin ++ tLibslicesIndexFuncimplShardimplShard ++ tLibslicesIndeximplFinimplFin ++ tS01d ++ tS10 ++ tS13 ++ tS15 ++ tWHandHas)
def tab : List (Nat × FuncId × RF) := [(165, 9, r165), (154, 31, r154), (155, 33, r155), (158, 35, r158), (82, 41, r82), (166, 42, r166), (83, 43, r83), (167, 44, r167), (87, 45, r87), (203, 93, r203), (205, 96, r205), (207, 98, r207), (111, 102, r111), (156, 32, r156), (210, 103, r210), (211, 104, r211), (112, 105, r112), (206, 97, r206), (212, 106, r212), (213, 107, r213), (114, 73, r114), (128, 159, r128), (129, 160, r129), (5, 94, r5), (204, 95, r204), (130, 161, r130), (131, 162, r131), (7, 156, r7), (244, 157, r244), (248, 163, r248), (247, 164, r247), (249, 165, r249), (133, 136, r133), (134, 137, r134), (136, 198, r136), (241, 153, r241), (242, 154, r242), (243, 155, r243), (137, 199, r137), (138, 200, r138), (265, 195, r265), (266, 196, r266), (267, 197, r267), (139, 185, r139), (140, 186, r140), (141, 210, r141), (272, 206, r272), (275, 207, r275), (273, 208, r273), (274, 209, r274), (142, 205, r142), (276, 213, r276), (277, 214, r277)]
def tags : List (Nat × TypeId × Nat) := [(9, 205, 2), (10, 235, 2), (11, 208, 5), (12, 246, 5), (15, 3, 1), (16, 93, 6), (20, 83, 6)]
theorem ok165 : FnOk Try.prog c F (165, 9, r165) := ⟨Try.f9, [], [[0, 2, 1, 3, 4, 5], [0, 1, 2, 3, 4, 5], [0, 1, 2, 3, 4], [0, 1, 2, 3, 4], [0, 1, 2, 3, 4], [0, 1, 2, 3, 4]], Try.func9, by kernel_rfl, by kernel_rfl, by kernel_rfl⟩
theorem ok154 : FnOk Try.prog c F (154, 31, r154) := ⟨Try.f31, [], [], Try.func31, by kernel_rfl, by kernel_rfl, by kernel_rfl⟩
theorem ok155 : FnOk Try.prog c F (155, 33, r155) := ⟨Try.f33, [], [], Try.func33, by kernel_rfl, by kernel_rfl, by kernel_rfl⟩
theorem ok158 : FnOk Try.prog c F (158, 35, r158) := ⟨Try.f35, [], [], Try.func35, by kernel_rfl, by kernel_rfl, by kernel_rfl⟩
theorem ok82 : FnOk Try.prog c F (82, 41, r82) := ⟨Try.f41, [], [], Try.func41, by kernel_rfl, by kernel_rfl, by kernel_rfl⟩
theorem ok166 : FnOk Try.prog c F (166, 42, r166) := ⟨Try.f42, [], [[0, 1, 2, 4, 5, 6, 3, 7, 8, 9], [0, 1, 2, 3, 4, 5, 6, 7, 8, 9], [0, 1, 2, 5, 3, 4, 6, 7, 8, 9, 10, 11, 12, 13], [0, 1, 2, 3, 4, 5, 6, 7, 8, 9, 10, 11, 12, 13], [0, 1, 2, 5, 3, 4, 6, 7, 8, 9, 10, 11, 12, 13], [0, 1, 2, 3, 4, 5, 6, 7, 8, 9, 10, 11, 12, 13]], Try.func42, by kernel_rfl, by kernel_rfl, by kernel_rfl⟩
theorem ok83 : FnOk Try.prog c F (83, 43, r83) := ⟨Try.f43, [], [], Try.func43, by kernel_rfl, by kernel_rfl, by kernel_rfl⟩
theorem ok167 : FnOk Try.prog c F (167, 44, r167) := ⟨Try.f44, [], [[0, 1, 2, 5, 3, 4, 6, 7, 8, 9, 10, 11, 12, 13], [0, 1, 2, 3, 4, 5, 6, 7, 8, 9, 10, 11, 12, 13]], Try.func44, by kernel_rfl, by kernel_rfl, by kernel_rfl⟩
theorem ok87 : FnOk Try.prog c F (87, 45, r87) := ⟨Try.f45, [], [], Try.func45, by kernel_rfl, by kernel_rfl, by kernel_rfl⟩
theorem ok203 : FnOk Try.prog c F (203, 93, r203) := ⟨Try.f93, [], [[0, 1, 5]], Try.func93, by kernel_rfl, by kernel_rfl, by kernel_rfl⟩
theorem ok205 : FnOk Try.prog c F (205, 96, r205) := ⟨Try.f96, [], [[0, 3, 4]], Try.func96, by kernel_rfl, by kernel_rfl, by kernel_rfl⟩
theorem ok207 : FnOk Try.prog c F (207, 98, r207) := ⟨Try.f98, [], [[0, 1, 5], [0, 1, 2, 4, 5, 6, 3, 7, 8, 9], [0, 1, 2, 3, 4, 5, 6, 7, 8, 9]], Try.func98, by kernel_rfl, by kernel_rfl, by kernel_rfl⟩
theorem ok111 : FnOk Try.prog c F (111, 102, r111) := ⟨Try.f102, [], [], Try.func102, by kernel_rfl, by kernel_rfl, by kernel_rfl⟩
theorem ok156 : FnOk Try.prog c F (156, 32, r156) := ⟨Try.f32, [], [[1, 3], [0, 1, 2, 3, 4, 5, 6, 7, 8, 9, 10, 11, 12, 13, 16, 17, 14, 15, 18, 19, 20, 21, 22, 23, 24, 25], [0, 1, 2, 3, 4, 5, 6, 7, 8, 9, 10, 11, 12, 13, 14, 15, 16, 17, 18, 19, 20, 21, 22, 23, 24, 25]], Try.func32, by kernel_rfl, by kernel_rfl, by kernel_rfl⟩
theorem ok210 : FnOk Try.prog c F (210, 103, r210) := ⟨Try.f103, [], [[1, 2, 3, 7]], Try.func103, by kernel_rfl, by kernel_rfl, by kernel_rfl⟩
theorem ok211 : FnOk Try.prog c F (211, 104, r211) := ⟨Try.f104, [], [[1, 2, 5]], Try.func104, by kernel_rfl, by kernel_rfl, by kernel_rfl⟩
theorem ok112 : FnOk Try.prog c F (112, 105, r112) := ⟨Try.f105, [], [], Try.func105, by kernel_rfl, by kernel_rfl, by kernel_rfl⟩
theorem ok206 : FnOk Try.prog c F (206, 97, r206) := ⟨Try.f97, [], [[1, 26, 27, 28], [0, 1, 2, 3, 4, 5, 6, 7, 8, 9, 10, 11, 12, 13, 16, 17, 14, 15, 18, 19, 20, 21, 22, 23, 24, 25], [0, 1, 2, 3, 4, 5, 6, 7, 8, 9, 10, 11, 12, 13, 14, 15, 16, 17, 18, 19, 20, 21, 22, 23, 24, 25]], Try.func97, by kernel_rfl, by kernel_rfl, by kernel_rfl⟩
theorem ok212 : FnOk Try.prog c F (212, 106, r212) := ⟨Try.f106, [3], [], Try.func106, by kernel_rfl, by kernel_rfl, by kernel_rfl⟩
theorem ok213 : FnOk Try.prog c F (213, 107, r213) := ⟨Try.f107, [4, 5], [], Try.func107, by kernel_rfl, by kernel_rfl, by kernel_rfl⟩
theorem ok114 : FnOk Try.prog c F (114, 73, r114) := ⟨Try.f73, [], [], Try.func73, by kernel_rfl, by kernel_rfl, by kernel_rfl⟩
theorem ok128 : FnOk Try.prog c F (128, 159, r128) := ⟨Try.f159, [], [], Try.func159, by kernel_rfl, by kernel_rfl, by kernel_rfl⟩
theorem ok129 : FnOk Try.prog c F (129, 160, r129) := ⟨Try.f160, [], [], Try.func160, by kernel_rfl, by kernel_rfl, by kernel_rfl⟩
theorem ok5 : FnOk Try.prog c F (5, 94, r5) := ⟨Try.f94, [], [], Try.func94, by kernel_rfl, by kernel_rfl, by kernel_rfl⟩
theorem ok204 : FnOk Try.prog c F (204, 95, r204) := ⟨Try.f95, [], [[1, 3], [0, 1, 2, 3, 4, 5, 6, 7, 8, 9, 10, 11, 12, 13, 14, 15, 16, 17, 18, 19, 20, 23, 24, 21, 22, 25, 26, 27, 28, 29, 30, 31], [0, 1, 2, 3, 4, 5, 6, 7, 8, 9, 10, 11, 12, 13, 14, 15, 16, 17, 18, 19, 20, 21, 22, 23, 24, 25, 26, 27, 28, 29, 30, 31], [1, 5]], Try.func95, by kernel_rfl, by kernel_rfl, by kernel_rfl⟩
theorem ok130 : FnOk Try.prog c F (130, 161, r130) := ⟨Try.f161, [], [], Try.func161, by kernel_rfl, by kernel_rfl, by kernel_rfl⟩
theorem ok131 : FnOk Try.prog c F (131, 162, r131) := ⟨Try.f162, [], [[0, 3, 4]], Try.func162, by kernel_rfl, by kernel_rfl, by kernel_rfl⟩
theorem ok7 : FnOk Try.prog c F (7, 156, r7) := ⟨Try.f156, [], [], Try.func156, by kernel_rfl, by kernel_rfl, by kernel_rfl⟩
theorem ok244 : FnOk Try.prog c F (244, 157, r244) := ⟨Try.f157, [], [[1, 46, 47, 48], [1, 76, 77, 78], [0, 1, 2, 3, 4, 5, 6, 7, 8, 9, 10, 11, 12, 13, 14, 15, 16, 17, 18, 19, 20, 23, 24, 21, 22, 25, 26, 27, 28, 29, 30, 31], [0, 1, 2, 3, 4, 5, 6, 7, 8, 9, 10, 11, 12, 13, 14, 15, 16, 17, 18, 19, 20, 21, 22, 23, 24, 25, 26, 27, 28, 29, 30, 31]], Try.func157, by kernel_rfl, by kernel_rfl, by kernel_rfl⟩
theorem ok248 : FnOk Try.prog c F (248, 163, r248) := ⟨Try.f163, [], [[0, 1, 7, 8]], Try.func163, by kernel_rfl, by kernel_rfl, by kernel_rfl⟩
theorem ok247 : FnOk Try.prog c F (247, 164, r247) := ⟨Try.f164, [], [], Try.func164, by kernel_rfl, by kernel_rfl, by kernel_rfl⟩
theorem ok249 : FnOk Try.prog c F (249, 165, r249) := ⟨Try.f165, [], [], Try.func165, by kernel_rfl, by kernel_rfl, by kernel_rfl⟩
theorem ok133 : FnOk Try.prog c F (133, 136, r133) := ⟨Try.f136, [], [], Try.func136, by kernel_rfl, by kernel_rfl, by kernel_rfl⟩
theorem ok134 : FnOk Try.prog c F (134, 137, r134) := ⟨Try.f137, [], [[0, 1, 5], [0, 1, 2, 4, 5, 6, 3, 7, 8, 9], [0, 1, 2, 3, 4, 5, 6, 7, 8, 9]], Try.func137, by kernel_rfl, by kernel_rfl, by kernel_rfl⟩
theorem ok136 : FnOk Try.prog c F (136, 198, r136) := ⟨Try.f198, [], [], Try.func198, by kernel_rfl, by kernel_rfl, by kernel_rfl⟩
theorem ok241 : FnOk Try.prog c F (241, 153, r241) := ⟨Try.f153, [], [[1, 3], [0, 1, 2, 5, 6, 3, 4, 7, 8, 9, 10, 11, 12, 13, 14, 15, 16, 17, 18, 19, 20, 21, 22, 23, 24, 25, 26, 27, 28, 29, 30, 31, 32, 33], [0, 1, 2, 3, 4, 5, 6, 7, 8, 9, 10, 11, 12, 13, 14, 15, 16, 17, 18, 19, 20, 21, 22, 23, 24, 25, 26, 27, 28, 29, 30, 31, 32, 33]], Try.func153, by kernel_rfl, by kernel_rfl, by kernel_rfl⟩
theorem ok242 : FnOk Try.prog c F (242, 154, r242) := ⟨Try.f154, [], [], Try.func154, by kernel_rfl, by kernel_rfl, by kernel_rfl⟩
theorem ok243 : FnOk Try.prog c F (243, 155, r243) := ⟨Try.f155, [], [[0, 3, 5], [0, 1, 2, 3, 4, 5], [0, 1, 2, 3, 4, 5]], Try.func155, by kernel_rfl, by kernel_rfl, by kernel_rfl⟩
theorem ok137 : FnOk Try.prog c F (137, 199, r137) := ⟨Try.f199, [], [[0, 3, 4]], Try.func199, by kernel_rfl, by kernel_rfl, by kernel_rfl⟩
theorem ok138 : FnOk Try.prog c F (138, 200, r138) := ⟨Try.f200, [], [], Try.func200, by kernel_rfl, by kernel_rfl, by kernel_rfl⟩
theorem ok265 : FnOk Try.prog c F (265, 195, r265) := ⟨Try.f195, [], [[1, 10, 11, 12], [0, 1, 2, 3, 4, 5, 6, 7, 8, 9, 10, 11, 12, 13, 14, 15, 16, 17, 18, 19, 20, 21, 22, 23, 24, 25, 26, 27, 30, 31, 28, 29, 32, 33, 34, 35, 36, 37, 38, 39], [0, 1, 2, 3, 4, 5, 6, 7, 8, 9, 10, 11, 12, 13, 14, 15, 16, 17, 18, 19, 20, 21, 22, 23, 24, 25, 26, 27, 28, 29, 30, 31, 32, 33, 34, 35, 36, 37, 38, 39]], Try.func195, by kernel_rfl, by kernel_rfl, by kernel_rfl⟩
theorem ok266 : FnOk Try.prog c F (266, 196, r266) := ⟨Try.f196, [], [], Try.func196, by kernel_rfl, by kernel_rfl, by kernel_rfl⟩
theorem ok267 : FnOk Try.prog c F (267, 197, r267) := ⟨Try.f197, [], [[0, 1, 2, 3, 5, 6, 7, 8, 4, 9, 10, 11, 12], [0, 1, 2, 3, 4, 5, 6, 7, 8, 9, 10, 11, 12]], Try.func197, by kernel_rfl, by kernel_rfl, by kernel_rfl⟩
theorem ok139 : FnOk Try.prog c F (139, 185, r139) := ⟨Try.f185, [], [[0, 1, 5], [0, 1, 2, 4, 5, 6, 3, 7, 8, 9], [0, 1, 2, 3, 4, 5, 6, 7, 8, 9]], Try.func185, by kernel_rfl, by kernel_rfl, by kernel_rfl⟩
theorem ok140 : FnOk Try.prog c F (140, 186, r140) := ⟨Try.f186, [], [], Try.func186, by kernel_rfl, by kernel_rfl, by kernel_rfl⟩
theorem ok141 : FnOk Try.prog c F (141, 210, r141) := ⟨Try.f210, [], [], Try.func210, by kernel_rfl, by kernel_rfl, by kernel_rfl⟩
theorem ok272 : FnOk Try.prog c F (272, 206, r272) := ⟨Try.f206, [], [[0, 3, 7, 8], [1, 2, 3, 0, 4, 5], [0, 1, 2, 3, 4, 5]], Try.func206, by kernel_rfl, by kernel_rfl, by kernel_rfl⟩
theorem ok275 : FnOk Try.prog c F (275, 207, r275) := ⟨Try.f207, [], [[3, 6, 7, 8]], Try.func207, by kernel_rfl, by kernel_rfl, by kernel_rfl⟩
theorem ok273 : FnOk Try.prog c F (273, 208, r273) := ⟨Try.f208, [], [], Try.func208, by kernel_rfl, by kernel_rfl, by kernel_rfl⟩
theorem ok274 : FnOk Try.prog c F (274, 209, r274) := ⟨Try.f209, [], [], Try.func209, by kernel_rfl, by kernel_rfl, by kernel_rfl⟩
theorem ok142 : FnOk Try.prog c F (142, 205, r142) := ⟨Try.f205, [], [], Try.func205, by kernel_rfl, by kernel_rfl, by kernel_rfl⟩
theorem ok276 : FnOk Try.prog c F (276, 213, r276) := ⟨Try.f213, [], [], Try.func213, by kernel_rfl, by kernel_rfl, by kernel_rfl⟩
theorem ok277 : FnOk Try.prog c F (277, 214, r277) := ⟨Try.f214, [], [], Try.func214, by kernel_rfl, by kernel_rfl, by kernel_rfl⟩
theorem okT : (c.T.all fun x => x.2.okB Try.prog (mkCfg Try.prog tab tags).ET (mkCfg Try.prog tab tags).SZ x.1) = true := by kernel_rfl
theorem okF : (c.F.all fun x => decide ((lk tab x.2).map (·.1) = some x.1)) = true := by kernel_rfl
theorem okTab : AllT (FnOk Try.prog c F) tab := ⟨ok165, ok154, ok155, ok158, ok82, ok166, ok83, ok167, ok87, ok203, ok205, ok207, ok111, ok156, ok210, ok211, ok112, ok206, ok212, ok213, ok114, ok128, ok129, ok5, ok204, ok130, ok131, ok7, ok244, ok248, ok247, ok249, ok133, ok134, ok136, ok241, ok242, ok243, ok137, ok138, ok265, ok266, ok267, ok139, ok140, ok141, ok272, ok275, ok273, ok274, ok142, ok276, ok277, trivial⟩
theorem prog (O : Nat) : ProgOk ((mkCfg Try.prog tab tags).at O) c F (fun _ _ _ => none) :=
  mkProg okT okF okTab ⟨⟨Try.f101, Try.func101, by kernel_rfl, by kernel_rfl, by kernel_rfl, by kernel_rfl⟩, trivial⟩ ⟨⟨by kernel_rfl, by kernel_rfl, by kernel_rfl⟩, trivial⟩ O
theorem inI10 : AllT (fun x => F x.1 = some x.2) tI10 := ⟨rfl, rfl, rfl, trivial⟩
theorem inI11 : AllT (fun x => F x.1 = some x.2) tI11 := ⟨rfl, rfl, rfl, rfl, rfl, rfl, trivial⟩
theorem inI13 : AllT (fun x => F x.1 = some x.2) tI13 := ⟨rfl, rfl, rfl, rfl, rfl, rfl, rfl, rfl, rfl, rfl, rfl, trivial⟩
theorem inI15 : AllT (fun x => F x.1 = some x.2) tI15 := ⟨rfl, rfl, rfl, rfl, rfl, rfl, rfl, rfl, rfl, rfl, trivial⟩
theorem inLAccount : AllT (fun x => F x.1 = some x.2) tLAccount := ⟨rfl, rfl, rfl, rfl, rfl, rfl, rfl, trivial⟩
theorem inLBook : AllT (fun x => F x.1 = some x.2) tLBook := ⟨rfl, rfl, rfl, rfl, rfl, trivial⟩
theorem inLFin : AllT (fun x => F x.1 = some x.2) tLFin := ⟨rfl, rfl, rfl, rfl, rfl, rfl, rfl, trivial⟩
theorem inLHandMsg : AllT (fun x => F x.1 = some x.2) tLHandMsg := ⟨rfl, rfl, rfl, trivial⟩
theorem inLShard : AllT (fun x => F x.1 = some x.2) tLShard := ⟨rfl, rfl, rfl, rfl, rfl, rfl, rfl, rfl, rfl, trivial⟩
theorem inLStore : AllT (fun x => F x.1 = some x.2) tLStore := ⟨rfl, rfl, rfl, rfl, rfl, rfl, rfl, trivial⟩
theorem inLibcmpCompareint : AllT (fun x => F x.1 = some x.2) tLibcmpCompareint := ⟨rfl, trivial⟩
theorem inLibcmpCompareuint64 : AllT (fun x => F x.1 = some x.2) tLibcmpCompareuint64 := ⟨rfl, trivial⟩
theorem inLibcmpOrint : AllT (fun x => F x.1 = some x.2) tLibcmpOrint := ⟨rfl, trivial⟩
theorem inLibcmpisNaNint : AllT (fun x => F x.1 = some x.2) tLibcmpisNaNint := ⟨rfl, trivial⟩
theorem inLibcmpisNaNuint64 : AllT (fun x => F x.1 = some x.2) tLibcmpisNaNuint64 := ⟨rfl, trivial⟩
theorem inLibslicesContainsimplFinimplFin : AllT (fun x => F x.1 = some x.2) tLibslicesContainsimplFinimplFin := ⟨rfl, trivial⟩
theorem inLibslicesIndexFuncimplShardimplShard : AllT (fun x => F x.1 = some x.2) tLibslicesIndexFuncimplShardimplShard := ⟨rfl, trivial⟩
theorem inLibslicesIndeximplFinimplFin : AllT (fun x => F x.1 = some x.2) tLibslicesIndeximplFinimplFin := ⟨rfl, trivial⟩
theorem inS01d : AllT (fun x => F x.1 = some x.2) tS01d := ⟨rfl, rfl, rfl, rfl, rfl, rfl, rfl, rfl, trivial⟩
theorem inS10 : AllT (fun x => F x.1 = some x.2) tS10 := ⟨rfl, rfl, rfl, rfl, rfl, trivial⟩
theorem inS13 : AllT (fun x => F x.1 = some x.2) tS13 := ⟨rfl, rfl, rfl, rfl, rfl, rfl, rfl, rfl, rfl, rfl, trivial⟩
theorem inS15 : AllT (fun x => F x.1 = some x.2) tS15 := ⟨rfl, rfl, rfl, rfl, rfl, rfl, trivial⟩
theorem inWHandHas : AllT (fun x => F x.1 = some x.2) tWHandHas := ⟨rfl, trivial⟩
end Go.Proofs.Ytlbagejkjkfkjaa.A.ExactHandHas
/- HandHas: the law's function, run on any arguments, answers true. -/
namespace Go.Proofs.Ytlbagejkjkfkjaa.A
open Go
set_option linter.unusedSimpArgs false
set_option linter.unusedVariables false
set_option maxHeartbeats 2000000 in
theorem law_ExactHandHas {F : Nat → Option RF} {Z : CallF} (hI10 : Has F tI10) (hI11 : Has F tI11) (hI13 : Has F tI13) (hI15 : Has F tI15) (hLAccount : Has F tLAccount) (hLBook : Has F tLBook) (hLFin : Has F tLFin) (hLHandMsg : Has F tLHandMsg) (hLShard : Has F tLShard) (hLStore : Has F tLStore) (hLibcmpCompareint : Has F tLibcmpCompareint) (hLibcmpCompareuint64 : Has F tLibcmpCompareuint64) (hLibcmpOrint : Has F tLibcmpOrint) (hLibcmpisNaNint : Has F tLibcmpisNaNint) (hLibcmpisNaNuint64 : Has F tLibcmpisNaNuint64) (hLibslicesContainsimplFinimplFin : Has F tLibslicesContainsimplFinimplFin) (hLibslicesIndexFuncimplShardimplShard : Has F tLibslicesIndexFuncimplShardimplShard) (hLibslicesIndeximplFinimplFin : Has F tLibslicesIndeximplFinimplFin) (hS01d : Has F tS01d) (hS10 : Has F tS10) (hS13 : Has F tS13) (hS15 : Has F tS15) (hWHandHas : Has F tWHandHas) (h : Heap) (avs : List V) (hfl : h.floor = h.next) (w : ArgsWf h 8 [shStore, shHandMsg] avs) : ∃ h', call F Z 165 avs h = some (.c (.bool true), h') := by
  obtain ⟨sc, _, rfl, sw, w1⟩ := ArgsWf.struct w
  obtain ⟨s, sp, sv, sok⟩ := Wf.isStore sw
  obtain ⟨sl1, sl2, sl3⟩ := Store.lenL sv
  obtain ⟨mc, _, rfl, mw, w2⟩ := ArgsWf.struct w1
  obtain ⟨m, mp, mv, mok⟩ := Wf.isHandMsg mw
  obtain ⟨ml1, ml2, ml3⟩ := HandMsg.lenL mv
  obtain rfl := w2.nil
  have f0 : h.floor ≤ h.next := by omega
  rw [call_run F Z (hWHandHas.lk (g := 165) rfl) _ _ rfl]
  obtain ⟨l0, s0, s0l, s0k⟩ := szStore_c hLStore hLShard hLBook hLAccount hLFin (Z := Z) sv 1048576 (by omega) (by omega)
  simp only [run0, run1, run2, run3, run4, noSlot, memN, RO.dst, lk, drop, forget, number, Nat.reduceBEq, cut?, splice?, builds, List.length_cons, List.length_nil, List.drop_succ_cons, List.drop_zero, List.take_succ_cons, List.take_zero, List.cons_append, List.nil_append, List.append_nil, List.drop_nil, List.take_nil, Nat.reduceAdd, Nat.reduceLeDiff, Nat.zero_add, Nat.add_zero, ↓reduceIte, Bool.not_true, Bool.not_false, decide_true, decide_false, eq_self, bne_self_eq_false, List.getElem?_cons_zero, List.getElem?_cons_succ, decide_eq_true_eq, Bool.false_eq_true, Bool.true_eq_false, reduceCtorEq, Nat.le_refl, s0, sl1, sl2, sl3, ml1, ml2, ml3]
  by_cases hn0 : l0 < 0
  · simp only [run0, run1, run2, run3, run4, noSlot, memN, RO.dst, lk, drop, forget, number, Nat.reduceBEq, cut?, splice?, builds, List.length_cons, List.length_nil, List.drop_succ_cons, List.drop_zero, List.take_succ_cons, List.take_zero, List.cons_append, List.nil_append, List.append_nil, List.drop_nil, List.take_nil, Nat.reduceAdd, Nat.reduceLeDiff, Nat.zero_add, Nat.add_zero, ↓reduceIte, Bool.not_true, Bool.not_false, decide_true, decide_false, eq_self, bne_self_eq_false, List.getElem?_cons_zero, List.getElem?_cons_succ, decide_eq_true_eq, Bool.false_eq_true, Bool.true_eq_false, reduceCtorEq, Nat.le_refl, hn0]
    exact ⟨_, rfl⟩
  have sm0 := s0k (by omega)
  obtain ⟨l1, s1, s1l, s1k⟩ := szHandMsg_c hLHandMsg hLShard hLBook hLAccount hLFin (Z := Z) mv l0 (by omega) (by omega)
  simp only [run0, run1, run2, run3, run4, noSlot, memN, RO.dst, lk, drop, forget, number, Nat.reduceBEq, cut?, splice?, builds, List.length_cons, List.length_nil, List.drop_succ_cons, List.drop_zero, List.take_succ_cons, List.take_zero, List.cons_append, List.nil_append, List.append_nil, List.drop_nil, List.take_nil, Nat.reduceAdd, Nat.reduceLeDiff, Nat.zero_add, Nat.add_zero, ↓reduceIte, Bool.not_true, Bool.not_false, decide_true, decide_false, eq_self, bne_self_eq_false, List.getElem?_cons_zero, List.getElem?_cons_succ, decide_eq_true_eq, Bool.false_eq_true, Bool.true_eq_false, reduceCtorEq, Nat.le_refl, s1, hn0, sl1, sl2, sl3, ml1, ml2, ml3]
  by_cases hn1 : l1 < 0
  · simp only [run0, run1, run2, run3, run4, noSlot, memN, RO.dst, lk, drop, forget, number, Nat.reduceBEq, cut?, splice?, builds, List.length_cons, List.length_nil, List.drop_succ_cons, List.drop_zero, List.take_succ_cons, List.take_zero, List.cons_append, List.nil_append, List.append_nil, List.drop_nil, List.take_nil, Nat.reduceAdd, Nat.reduceLeDiff, Nat.zero_add, Nat.add_zero, ↓reduceIte, Bool.not_true, Bool.not_false, decide_true, decide_false, eq_self, bne_self_eq_false, List.getElem?_cons_zero, List.getElem?_cons_succ, decide_eq_true_eq, Bool.false_eq_true, Bool.true_eq_false, reduceCtorEq, Nat.le_refl, hn1]
    exact ⟨_, rfl⟩
  have sm1 := s1k (by omega)
  have flr : h.floor = h.next := hfl
  obtain ⟨y1, hq1, p1, e1, oq1, vq1, qq1⟩ := toStore_c hLStore hLShard hLBook hLAccount hLFin (Z := Z) (h := ⟨h.next, h.next, h.get⟩) (Nat.le_refl _) (Store.okL.up sv _) sm0
  obtain ⟨h1, mq1⟩ : ∃ g, Heap.mk hq1.next h.floor hq1.get = g := ⟨_, rfl⟩
  have o1 : On h h1 := by rw [← mq1]; exact ⟨⟨oq1.ext.1, oq1.ext.2⟩, rfl⟩
  have v1 := Store.okI.up vq1 h.floor
  rw [mq1] at v1
  have q1 : Fre h p1 := ⟨qq1.lo, qq1.nd⟩
  replace sv := Store.okL.on sv o1
  replace mv := HandMsg.okL.on mv o1
  have n1 := o1.ext.1
  have g1 := o1.fl
  have f1 := o1.le f0
  obtain ⟨vl1, vt1, vd1⟩ := Store.lenI v1
  obtain ⟨y2, hq2, p2, e2, oq2, vq2, qq2⟩ := toHandMsg_c hLHandMsg hLShard hLBook hLAccount hLFin (Z := Z) (h := ⟨h1.next, h1.next, h1.get⟩) (Nat.le_refl _) (HandMsg.okL.up mv _) sm1
  obtain ⟨h2, mq2⟩ : ∃ g, Heap.mk hq2.next h1.floor hq2.get = g := ⟨_, rfl⟩
  have o2 : On h1 h2 := by rw [← mq2]; exact ⟨⟨oq2.ext.1, oq2.ext.2⟩, rfl⟩
  have v2 := HandMsg.okI.up vq2 h1.floor
  rw [mq2] at v2
  have q2 : Fre h1 p2 := ⟨qq2.lo, qq2.nd⟩
  replace sv := Store.okL.on sv o2
  replace mv := HandMsg.okL.on mv o2
  replace v1 := Store.okI.on v1 o2
  have n2 := o2.ext.1
  have g2 := o2.fl
  have f2 := o2.le f1
  obtain ⟨vl2, vt2, vd2⟩ := HandMsg.lenI v2
  obtain ⟨hq3, e3, oq3⟩ := sHandHas_c ⟨hS01d, hS10, hS13⟩ hS15 (Z := Z) (h := ⟨h2.next, h2.next, h2.get⟩) (Nat.le_refl _) (Store.okI.up v1 _) (HandMsg.okI.up v2 _) sok
  obtain ⟨h3, mq3⟩ : ∃ g, Heap.mk hq3.next h2.floor hq3.get = g := ⟨_, rfl⟩
  have o3 : On h2 h3 := by rw [← mq3]; exact ⟨⟨oq3.ext.1, oq3.ext.2⟩, rfl⟩
  replace sv := Store.okL.on sv o3
  replace mv := HandMsg.okL.on mv o3
  replace v1 := Store.okI.on v1 o3
  replace v2 := HandMsg.okI.on v2 o3
  have n3 := o3.ext.1
  have g3 := o3.fl
  have f3 := o3.le f2
  obtain ⟨y4, h4, p4, e4, o4, v4, q4⟩ := toStore_c hLStore hLShard hLBook hLAccount hLFin (Z := Z) f3 sv sm0
  replace sv := Store.okL.on sv o4
  replace mv := HandMsg.okL.on mv o4
  replace v1 := Store.okI.on v1 o4
  replace v2 := HandMsg.okI.on v2 o4
  have n4 := o4.ext.1
  have g4 := o4.fl
  have f4 := o4.le f3
  obtain ⟨vl4, vt4, vd4⟩ := Store.lenI v4
  obtain ⟨y5, h5, p5, e5, o5, v5, q5⟩ := toHandMsg_c hLHandMsg hLShard hLBook hLAccount hLFin (Z := Z) f4 mv sm1
  replace sv := Store.okL.on sv o5
  replace mv := HandMsg.okL.on mv o5
  replace v1 := Store.okI.on v1 o5
  replace v2 := HandMsg.okI.on v2 o5
  replace v4 := Store.okI.on v4 o5
  have n5 := o5.ext.1
  have g5 := o5.fl
  have f5 := o5.le f4
  obtain ⟨vl5, vt5, vd5⟩ := HandMsg.lenI v5
  obtain ⟨h6, e6, o6⟩ := HandHas_c ⟨hI10, hI11, hI13, hLibcmpCompareint, hLibcmpCompareuint64, hLibcmpOrint, hLibcmpisNaNint, hLibcmpisNaNuint64, hLibslicesIndeximplFinimplFin, hLibslicesContainsimplFinimplFin⟩ hI15 hLibslicesIndexFuncimplShardimplShard (Z := Z) f5 v4 v5 sok
  replace sv := Store.okL.on sv o6
  replace mv := HandMsg.okL.on mv o6
  replace v1 := Store.okI.on v1 o6
  replace v2 := HandMsg.okI.on v2 o6
  replace v4 := Store.okI.on v4 o6
  replace v5 := HandMsg.okI.on v5 o6
  have n6 := o6.ext.1
  have g6 := o6.fl
  have f6 := o6.le f5
  obtain ⟨y7, hq7, p7, e7, oq7, vq7, qq7⟩ := toStore_c hLStore hLShard hLBook hLAccount hLFin (Z := Z) (h := ⟨h6.next, h6.next, h6.get⟩) (Nat.le_refl _) (Store.okL.up sv _) sm0
  obtain ⟨h7, mq7⟩ : ∃ g, Heap.mk hq7.next h6.floor hq7.get = g := ⟨_, rfl⟩
  have o7 : On h6 h7 := by rw [← mq7]; exact ⟨⟨oq7.ext.1, oq7.ext.2⟩, rfl⟩
  have v7 := Store.okI.up vq7 h6.floor
  rw [mq7] at v7
  have q7 : Fre h6 p7 := ⟨qq7.lo, qq7.nd⟩
  replace sv := Store.okL.on sv o7
  replace mv := HandMsg.okL.on mv o7
  replace v1 := Store.okI.on v1 o7
  replace v2 := HandMsg.okI.on v2 o7
  replace v4 := Store.okI.on v4 o7
  replace v5 := HandMsg.okI.on v5 o7
  have n7 := o7.ext.1
  have g7 := o7.fl
  have f7 := o7.le f6
  obtain ⟨vl7, vt7, vd7⟩ := Store.lenI v7
  have c1 := eqStore_r hLStore hLShard hLBook hLAccount hLFin (Z := Z) (h := ⟨h7.next, h7.next, h7.get⟩) (Store.okI.up v4 _) (Store.okI.up v7 _)
  obtain ⟨y8, hq8, p8, e8, oq8, vq8, qq8⟩ := toHandMsg_c hLHandMsg hLShard hLBook hLAccount hLFin (Z := Z) (h := ⟨h7.next, h7.next, h7.get⟩) (Nat.le_refl _) (HandMsg.okL.up mv _) sm1
  obtain ⟨h8, mq8⟩ : ∃ g, Heap.mk hq8.next h7.floor hq8.get = g := ⟨_, rfl⟩
  have o8 : On h7 h8 := by rw [← mq8]; exact ⟨⟨oq8.ext.1, oq8.ext.2⟩, rfl⟩
  have v8 := HandMsg.okI.up vq8 h7.floor
  rw [mq8] at v8
  have q8 : Fre h7 p8 := ⟨qq8.lo, qq8.nd⟩
  replace sv := Store.okL.on sv o8
  replace mv := HandMsg.okL.on mv o8
  replace v1 := Store.okI.on v1 o8
  replace v2 := HandMsg.okI.on v2 o8
  replace v4 := Store.okI.on v4 o8
  replace v5 := HandMsg.okI.on v5 o8
  have n8 := o8.ext.1
  have g8 := o8.fl
  have f8 := o8.le f7
  obtain ⟨vl8, vt8, vd8⟩ := HandMsg.lenI v8
  have c2 := eqHandMsg_r hLHandMsg hLShard hLBook hLAccount hLFin (Z := Z) (h := ⟨h8.next, h8.next, h8.get⟩) (HandMsg.okI.up v5 _) (HandMsg.okI.up v8 _)
  simp only [run0, run1, run2, run3, run4, noSlot, memN, RO.dst, lk, drop, forget, number, Nat.reduceBEq, cut?, splice?, builds, List.length_cons, List.length_nil, List.drop_succ_cons, List.drop_zero, List.take_succ_cons, List.take_zero, List.cons_append, List.nil_append, List.append_nil, List.drop_nil, List.take_nil, Nat.reduceAdd, Nat.reduceLeDiff, Nat.zero_add, Nat.add_zero, ↓reduceIte, Bool.not_true, Bool.not_false, decide_true, decide_false, eq_self, bne_self_eq_false, List.getElem?_cons_zero, List.getElem?_cons_succ, decide_eq_true_eq, Bool.false_eq_true, Bool.true_eq_false, reduceCtorEq, Nat.le_refl, hn0, hn1, sl1, sl2, sl3, ml1, ml2, ml3, mq1, e1, vl1, vt1, vd1, mq2, e2, vl2, vt2, vd2, mq3, e3, e4, vl4, vt4, vd4, e5, vl5, vt5, vd5, e6, mq7, e7, vl7, vt7, vd7, c1, mq8, e8, vl8, vt8, vd8, c2]
  exact ⟨_, rfl⟩
end Go.Proofs.Ytlbagejkjkfkjaa.A
/- FnExactHandHas: the row's statement, from the law of the abstract run. No condition. -/
namespace Go.Proofs.Ytlbagejkjkfkjaa.A.ExactHandHas
open Go Go.ChangeShapes Go.WideShapes Go.ChangeAt Go.RowKit
theorem own : ownKnob Try.prog.godebug = none := by kernel_rfl
set_option maxRecDepth 100000 in
theorem lifted (os : Os) (started : os.Started) (H : Type) (enc : TypeId × Value → H) :
    ReturnsInHanded {} Try.checked os 9 .any (Rows.fnExactHandHasSpec.pre6 enc Try.prog Try.f9 Rows.fnExactHandHasRow.domain false) (Rows.fnExactHandHasSpec.post enc Try.prog Try.f9 false true false false) := by
  refine returnsInHanded_of_change_sized (C := Try.checked) own started (by kernel_rfl) Try.func9
    (ChangeSpec.witness6 (enc := enc) (C := Try.checked) false ⟨#[], #[.agg #[.int .i64 0, .int .i64 0, .slice none 0 0], .agg #[.int .i64 0, .int .u64 0, .int .i64 0, .int .i64 0, .int .u64 0, .int .u64 0, .int .i64 0, .int .i64 0, .slice none 0 0, .slice none 0 0]], []⟩ 8 (by kernel_rfl) (by kernel_rfl) (by kernel_rfl) (by kernel_rfl)) ?_
  intro W base args ds gs before hval hW _ _ _
  have hW' := hW
  obtain ⟨p, q, hA, hV, rfl, hfz, hnd⟩ := hW
  obtain ⟨rfl, rfl⟩ := trodVars_none hV
  have r0 : DataW.TrodAll enc Try.prog W 0 (fun _ => true) true [64, 85] args.toList ds p := hA
  obtain ⟨_, _, d0, _, _, _, _, rfl, _, _, r1⟩ := trodAll_cons r0
  obtain ⟨_, _, d1, _, _, _, _, rfl, _, _, r2⟩ := trodAll_cons r1
  obtain ⟨_, rfl, _⟩ := trodAll_nil r2
  refine (law_calls (ts := [64, 85]) (ss := [shStore, shHandMsg]) prog (show (mkCfg Try.prog tab tags).G 165 = some 9 from by kernel_rfl) ⟨show shIs Try.prog (mkCfg Try.prog tab tags).ET (mkCfg Try.prog tab tags).SZ 8 64 shStore = true from by kernel_rfl, show shIs Try.prog (mkCfg Try.prog tab tags).ET (mkCfg Try.prog tab tags).SZ 8 85 shHandMsg = true from by kernel_rfl, trivial⟩ (law_ExactHandHas inI10 inI11 inI13 inI15 inLAccount inLBook inLFin inLHandMsg inLShard inLStore inLibcmpCompareint inLibcmpCompareuint64 inLibcmpOrint inLibcmpisNaNint inLibcmpisNaNuint64 inLibslicesContainsimplFinimplFin inLibslicesIndexFuncimplShardimplShard inLibslicesIndeximplFinimplFin inS01d inS10 inS13 inS15 inWHandHas) (fun j t v h1 => hval j t v (by rw [Try.params9]; exact (List.getElem?_toArray ..).trans h1)) hA).mono fun e W' ⟨he, bel⟩ => ?_
  subst he
  exact ⟨_, rfl, _, _, _, [], _, [], hW', trodAll_mk1 (shut_bool Try.underlying4 _), trodAll_below (by kernel_rfl) bel _ _ _ _ (by kernel_rfl) hA hA.lt, rfl, bel.frame _, fun h => by cases h⟩
theorem over : Rows.fnExactHandHasRow.holds Try.pinned (OpenSpec.ofChange Rows.fnExactHandHasSpec) :=
  OpenClaim.holds_of_wide 9 Try.f9 rfl rfl rfl rfl rfl rfl rfl ⟨rfl, rfl, rfl, rfl, rfl⟩ rfl rfl rfl rfl rfl (by kernel_rfl) Try.func9 (by kernel_rfl)
    (of_decide_eq_true (by kernel_rfl)) (by unfold Func.isWrapper; first | (rw [if_pos (by decide +kernel)]; kernel_rfl) | (rw [if_neg (by decide +kernel)]; exact ⟨rfl, rfl⟩))
    (fun os started H enc _ => lifted os started H enc)
end Go.Proofs.Ytlbagejkjkfkjaa.A.ExactHandHas
namespace Go.Proofs.Ytlbagejkjkfkjaa
/-- The row. -/
theorem fnExactHandHas_holds : Rows.FnExactHandHasSaid := A.ExactHandHas.over
#print axioms fnExactHandHas_holds
end Go.Proofs.Ytlbagejkjkfkjaa
