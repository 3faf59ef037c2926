/- FnExactLiveTotal: the statement, from the law of the abstract run. No condition. -/
import Derived.Test.YtlbagejkjkfkjaaHCExactLiveTotal3
import Derived.Test.YtlbagejkjkfkjaaB6
import Derived.Test.YtlbagejkjkfkjaaProg
import Derived.Test.YtlbagejkjkfkjaaRows
import Derived.ProofKit
import Derived.OpenShut
import Derived.ShutString
import Derived.ChangeOld
import Derived.Below
import Derived.SizedLaws
/- The functions that FnExactLiveTotal reaches: the program's code against the compact code, entry by entry. -/
namespace Go.Proofs.Ytlbagejkjkfkjaa.A.ExactLiveTotal
open Go
def c : CC where
  T := [(3, ⟨1, 8, false, some [.int .i64 0], (.int .i64)⟩),
    (24, ⟨1, 8, false, some [.int .u64 0], (.int .u64)⟩),
    (62, ⟨1, 24, false, some [.nil], (.slice 83 20)⟩),
    (64, ⟨3, 40, true, some [.int .i64 0, .int .i64 0, .nil], (.struct [(0, 1, false), (1, 1, false), (2, 1, false)])⟩),
    (67, ⟨1, 24, false, some [.nil], (.slice 93 16)⟩),
    (69, ⟨3, 40, true, some [.int .i64 0, .int .i64 0, .nil], (.struct [(0, 1, false), (1, 1, false), (2, 1, false)])⟩),
    (78, ⟨1, 24, false, some [.nil], (.slice 246 12)⟩),
    (80, ⟨1, 24, true, some [.nil], (.struct [(0, 1, false)])⟩),
    (81, ⟨1, 24, false, some [.nil], (.slice 235 10)⟩),
    (83, ⟨6, 80, true, some [.int .u64 0, .int .u64 0, .int .i64 0, .int .i64 0, .nil, .nil], (.struct [(0, 1, false), (1, 1, false), (2, 1, false), (3, 1, false), (4, 1, true), (5, 1, false)])⟩),
    (88, ⟨1, 24, false, some [.nil], (.slice 208 11)⟩),
    (90, ⟨1, 24, true, some [.nil], (.struct [(0, 1, false)])⟩),
    (91, ⟨1, 24, false, some [.nil], (.slice 205 9)⟩),
    (93, ⟨6, 80, true, some [.int .u64 0, .int .u64 0, .int .i64 0, .int .i64 0, .nil, .nil], (.struct [(0, 1, false), (1, 1, false), (2, 1, false), (3, 1, false), (4, 1, true), (5, 1, false)])⟩),
    (99, ⟨1, 24, false, some [.nil], (.slice 64 17)⟩),
    (102, ⟨1, 24, false, some [.nil], (.slice 69 18)⟩),
    (129, ⟨1, 24, false, some [.nil], (.slice 3 15)⟩),
    (205, ⟨2, 16, true, some [.int .i64 0, .int .u64 0], (.struct [(0, 1, false), (1, 1, false)])⟩),
    (208, ⟨5, 40, true, some [.int .u64 0, .int .u64 0, .int .u64 0, .int .u64 0, .int .i64 0], (.struct [(0, 1, false), (1, 1, false), (2, 1, false), (3, 1, false), (4, 1, false)])⟩),
    (235, ⟨2, 16, true, some [.int .i64 0, .int .u64 0], (.struct [(0, 1, false), (1, 1, false)])⟩),
    (246, ⟨5, 40, true, some [.int .u64 0, .int .u64 0, .int .u64 0, .int .u64 0, .int .i64 0], (.struct [(0, 1, false), (1, 1, false), (2, 1, false), (3, 1, false), (4, 1, false)])⟩)]
  F := [(10, 168), (31, 154), (32, 156), (33, 155), (35, 158), (46, 169), (47, 171), (48, 170), (49, 172), (50, 173), (73, 114), (93, 203), (94, 5), (95, 204), (96, 205), (97, 206), (98, 207), (99, 208), (100, 209), (102, 111), (105, 112), (108, 214), (109, 215), (110, 216), (111, 218), (112, 217), (136, 133), (137, 134), (153, 241), (154, 242), (155, 243), (156, 7), (157, 244), (158, 245), (159, 128), (160, 129), (161, 130), (162, 131), (163, 248), (166, 251), (167, 250), (185, 139), (186, 140), (195, 265), (196, 266), (197, 267), (198, 136), (199, 137), (200, 138), (201, 268), (205, 142), (206, 272), (207, 275), (208, 273), (209, 274), (210, 141), (213, 276), (214, 277)]
  eqT := [(205, [.i .i64, .i .u64])]
  adds := [101]
def F : Nat → Option RF := lk (tI10 ++ tI11 ++ tI13 ++ tI15 ++ tLAccount ++ tLBook ++ tLFin ++ tLShard ++ tLStore ++ tLibcmpCompareint ++ tLibcmpCompareuint64 ++ tLibcmpOrint ++ tLibcmpisNaNint ++ tLibcmpisNaNuint64 ++ tLibslicesContainsFuncimplShardimplShard ++ tLibslicesContainsFuncimplStoreimplStore ++ tLibslicesContainsimplFinimplFin ++ tLibslicesIndexFuncimplShardimplShard ++ tLibslicesIndexFuncimplStoreimplStore ++ tLibslicesIndeximplFinimplFin ++ tS01d ++ tS10 ++ tS13 ++ tS15 ++ tWLiveTotal)
def tab : List (Nat × FuncId × RF) := [(168, 10, r168), (169, 46, r169), (171, 47, r171), (170, 48, r170), (172, 49, r172), (173, 50, r173), (154, 31, r154), (208, 99, r208), (214, 108, r214), (215, 109, r215), (155, 33, r155), (209, 100, r209), (216, 110, r216), (218, 111, r218), (217, 112, r217), (158, 35, r158), (203, 93, r203), (245, 158, r245), (156, 32, r156), (205, 96, r205), (251, 166, r251), (250, 167, r250), (248, 163, r248), (207, 98, r207), (111, 102, r111), (241, 153, r241), (5, 94, r5), (204, 95, r204), (112, 105, r112), (268, 201, r268), (206, 97, r206), (114, 73, r114), (128, 159, r128), (129, 160, r129), (242, 154, r242), (243, 155, r243), (130, 161, r130), (131, 162, r131), (7, 156, r7), (244, 157, r244), (133, 136, r133), (134, 137, r134), (136, 198, r136), (137, 199, r137), (138, 200, r138), (265, 195, r265), (266, 196, r266), (267, 197, r267), (139, 185, r139), (140, 186, r140), (141, 210, r141), (272, 206, r272), (275, 207, r275), (273, 208, r273), (274, 209, r274), (142, 205, r142), (276, 213, r276), (277, 214, r277)]
def tags : List (Nat × TypeId × Nat) := [(9, 205, 2), (10, 235, 2), (11, 208, 5), (12, 246, 5), (15, 3, 1), (16, 93, 6), (17, 64, 3), (18, 69, 3), (20, 83, 6)]
theorem ok168 : FnOk Try.prog c F (168, 10, r168) := ⟨Try.f10, [], [], Try.func10, by kernel_rfl, by kernel_rfl, by kernel_rfl⟩
theorem ok169 : FnOk Try.prog c F (169, 46, r169) := ⟨Try.f46, [], [[0, 1, 5]], Try.func46, by kernel_rfl, by kernel_rfl, by kernel_rfl⟩
theorem ok171 : FnOk Try.prog c F (171, 47, r171) := ⟨Try.f47, [], [[0, 4, 5, 6], [0, 4, 5, 6, 7]], Try.func47, by kernel_rfl, by kernel_rfl, by kernel_rfl⟩
theorem ok170 : FnOk Try.prog c F (170, 48, r170) := ⟨Try.f48, [], [[0, 3, 4]], Try.func48, by kernel_rfl, by kernel_rfl, by kernel_rfl⟩
theorem ok172 : FnOk Try.prog c F (172, 49, r172) := ⟨Try.f49, [10], [[4, 19, 20, 21], [4, 7, 8, 30, 31, 32]], Try.func49, by kernel_rfl, by kernel_rfl, by kernel_rfl⟩
theorem ok173 : FnOk Try.prog c F (173, 50, r173) := ⟨Try.f50, [], [[0, 1, 5], [0, 1, 2, 4, 5, 6, 3, 7, 8, 9], [0, 1, 2, 3, 4, 5, 6, 7, 8, 9]], Try.func50, by kernel_rfl, by kernel_rfl, by kernel_rfl⟩
theorem ok154 : FnOk Try.prog c F (154, 31, r154) := ⟨Try.f31, [], [], Try.func31, by kernel_rfl, by kernel_rfl, by kernel_rfl⟩
theorem ok208 : FnOk Try.prog c F (208, 99, r208) := ⟨Try.f99, [], [], Try.func99, by kernel_rfl, by kernel_rfl, by kernel_rfl⟩
theorem ok214 : FnOk Try.prog c F (214, 108, r214) := ⟨Try.f108, [], [[0, 3]], Try.func108, by kernel_rfl, by kernel_rfl, by kernel_rfl⟩
theorem ok215 : FnOk Try.prog c F (215, 109, r215) := ⟨Try.f109, [], [[0, 3, 5], [0, 3, 5, 6]], Try.func109, by kernel_rfl, by kernel_rfl, by kernel_rfl⟩
theorem ok155 : FnOk Try.prog c F (155, 33, r155) := ⟨Try.f33, [], [], Try.func33, by kernel_rfl, by kernel_rfl, by kernel_rfl⟩
theorem ok209 : FnOk Try.prog c F (209, 100, r209) := ⟨Try.f100, [], [[4, 5, 11, 12, 13]], Try.func100, by kernel_rfl, by kernel_rfl, by kernel_rfl⟩
theorem ok216 : FnOk Try.prog c F (216, 110, r216) := ⟨Try.f110, [], [], Try.func110, by kernel_rfl, by kernel_rfl, by kernel_rfl⟩
theorem ok218 : FnOk Try.prog c F (218, 111, r218) := ⟨Try.f111, [], [], Try.func111, by kernel_rfl, by kernel_rfl, by kernel_rfl⟩
theorem ok217 : FnOk Try.prog c F (217, 112, r217) := ⟨Try.f112, [], [], Try.func112, by kernel_rfl, by kernel_rfl, by kernel_rfl⟩
theorem ok158 : FnOk Try.prog c F (158, 35, r158) := ⟨Try.f35, [], [], Try.func35, by kernel_rfl, by kernel_rfl, by kernel_rfl⟩
theorem ok203 : FnOk Try.prog c F (203, 93, r203) := ⟨Try.f93, [], [[0, 1, 5]], Try.func93, by kernel_rfl, by kernel_rfl, by kernel_rfl⟩
theorem ok245 : FnOk Try.prog c F (245, 158, r245) := ⟨Try.f158, [], [[1, 4, 5, 6], [2, 8, 0, 1, 3, 4, 5, 6, 7, 9, 10, 11, 12, 13], [0, 1, 2, 3, 4, 5, 6, 7, 8, 9, 10, 11, 12, 13]], Try.func158, by kernel_rfl, by kernel_rfl, by kernel_rfl⟩
theorem ok156 : FnOk Try.prog c F (156, 32, r156) := ⟨Try.f32, [], [[1, 3], [0, 1, 2, 3, 4, 5, 6, 7, 8, 9, 10, 11, 12, 13, 16, 17, 14, 15, 18, 19, 20, 21, 22, 23, 24, 25], [0, 1, 2, 3, 4, 5, 6, 7, 8, 9, 10, 11, 12, 13, 14, 15, 16, 17, 18, 19, 20, 21, 22, 23, 24, 25]], Try.func32, by kernel_rfl, by kernel_rfl, by kernel_rfl⟩
theorem ok205 : FnOk Try.prog c F (205, 96, r205) := ⟨Try.f96, [], [[0, 3, 4]], Try.func96, by kernel_rfl, by kernel_rfl, by kernel_rfl⟩
theorem ok251 : FnOk Try.prog c F (251, 166, r251) := ⟨Try.f166, [], [], Try.func166, by kernel_rfl, by kernel_rfl, by kernel_rfl⟩
theorem ok250 : FnOk Try.prog c F (250, 167, r250) := ⟨Try.f167, [], [], Try.func167, by kernel_rfl, by kernel_rfl, by kernel_rfl⟩
theorem ok248 : FnOk Try.prog c F (248, 163, r248) := ⟨Try.f163, [], [[0, 1, 7, 8]], Try.func163, by kernel_rfl, by kernel_rfl, by kernel_rfl⟩
theorem ok207 : FnOk Try.prog c F (207, 98, r207) := ⟨Try.f98, [], [[0, 1, 5], [0, 1, 2, 4, 5, 6, 3, 7, 8, 9], [0, 1, 2, 3, 4, 5, 6, 7, 8, 9]], Try.func98, by kernel_rfl, by kernel_rfl, by kernel_rfl⟩
theorem ok111 : FnOk Try.prog c F (111, 102, r111) := ⟨Try.f102, [], [], Try.func102, by kernel_rfl, by kernel_rfl, by kernel_rfl⟩
theorem ok241 : FnOk Try.prog c F (241, 153, r241) := ⟨Try.f153, [], [[1, 3], [0, 1, 2, 5, 6, 3, 4, 7, 8, 9, 10, 11, 12, 13, 14, 15, 16, 17, 18, 19, 20, 21, 22, 23, 24, 25, 26, 27, 28, 29, 30, 31, 32, 33], [0, 1, 2, 3, 4, 5, 6, 7, 8, 9, 10, 11, 12, 13, 14, 15, 16, 17, 18, 19, 20, 21, 22, 23, 24, 25, 26, 27, 28, 29, 30, 31, 32, 33]], Try.func153, by kernel_rfl, by kernel_rfl, by kernel_rfl⟩
theorem ok5 : FnOk Try.prog c F (5, 94, r5) := ⟨Try.f94, [], [], Try.func94, by kernel_rfl, by kernel_rfl, by kernel_rfl⟩
theorem ok204 : FnOk Try.prog c F (204, 95, r204) := ⟨Try.f95, [], [[1, 3], [0, 1, 2, 3, 4, 5, 6, 7, 8, 9, 10, 11, 12, 13, 14, 15, 16, 17, 18, 19, 20, 23, 24, 21, 22, 25, 26, 27, 28, 29, 30, 31], [0, 1, 2, 3, 4, 5, 6, 7, 8, 9, 10, 11, 12, 13, 14, 15, 16, 17, 18, 19, 20, 21, 22, 23, 24, 25, 26, 27, 28, 29, 30, 31], [1, 5]], Try.func95, by kernel_rfl, by kernel_rfl, by kernel_rfl⟩
theorem ok112 : FnOk Try.prog c F (112, 105, r112) := ⟨Try.f105, [], [], Try.func105, by kernel_rfl, by kernel_rfl, by kernel_rfl⟩
theorem ok268 : FnOk Try.prog c F (268, 201, r268) := ⟨Try.f201, [], [[0, 1, 7, 8]], Try.func201, by kernel_rfl, by kernel_rfl, by kernel_rfl⟩
theorem ok206 : FnOk Try.prog c F (206, 97, r206) := ⟨Try.f97, [], [[1, 26, 27, 28], [0, 1, 2, 3, 4, 5, 6, 7, 8, 9, 10, 11, 12, 13, 16, 17, 14, 15, 18, 19, 20, 21, 22, 23, 24, 25], [0, 1, 2, 3, 4, 5, 6, 7, 8, 9, 10, 11, 12, 13, 14, 15, 16, 17, 18, 19, 20, 21, 22, 23, 24, 25]], Try.func97, by kernel_rfl, by kernel_rfl, by kernel_rfl⟩
theorem ok114 : FnOk Try.prog c F (114, 73, r114) := ⟨Try.f73, [], [], Try.func73, by kernel_rfl, by kernel_rfl, by kernel_rfl⟩
theorem ok128 : FnOk Try.prog c F (128, 159, r128) := ⟨Try.f159, [], [], Try.func159, by kernel_rfl, by kernel_rfl, by kernel_rfl⟩
theorem ok129 : FnOk Try.prog c F (129, 160, r129) := ⟨Try.f160, [], [], Try.func160, by kernel_rfl, by kernel_rfl, by kernel_rfl⟩
theorem ok242 : FnOk Try.prog c F (242, 154, r242) := ⟨Try.f154, [], [], Try.func154, by kernel_rfl, by kernel_rfl, by kernel_rfl⟩
theorem ok243 : FnOk Try.prog c F (243, 155, r243) := ⟨Try.f155, [], [[0, 3, 5], [0, 1, 2, 3, 4, 5], [0, 1, 2, 3, 4, 5]], Try.func155, by kernel_rfl, by kernel_rfl, by kernel_rfl⟩
theorem ok130 : FnOk Try.prog c F (130, 161, r130) := ⟨Try.f161, [], [], Try.func161, by kernel_rfl, by kernel_rfl, by kernel_rfl⟩
theorem ok131 : FnOk Try.prog c F (131, 162, r131) := ⟨Try.f162, [], [[0, 3, 4]], Try.func162, by kernel_rfl, by kernel_rfl, by kernel_rfl⟩
theorem ok7 : FnOk Try.prog c F (7, 156, r7) := ⟨Try.f156, [], [], Try.func156, by kernel_rfl, by kernel_rfl, by kernel_rfl⟩
theorem ok244 : FnOk Try.prog c F (244, 157, r244) := ⟨Try.f157, [], [[1, 46, 47, 48], [1, 76, 77, 78], [0, 1, 2, 3, 4, 5, 6, 7, 8, 9, 10, 11, 12, 13, 14, 15, 16, 17, 18, 19, 20, 23, 24, 21, 22, 25, 26, 27, 28, 29, 30, 31], [0, 1, 2, 3, 4, 5, 6, 7, 8, 9, 10, 11, 12, 13, 14, 15, 16, 17, 18, 19, 20, 21, 22, 23, 24, 25, 26, 27, 28, 29, 30, 31]], Try.func157, by kernel_rfl, by kernel_rfl, by kernel_rfl⟩
theorem ok133 : FnOk Try.prog c F (133, 136, r133) := ⟨Try.f136, [], [], Try.func136, by kernel_rfl, by kernel_rfl, by kernel_rfl⟩
theorem ok134 : FnOk Try.prog c F (134, 137, r134) := ⟨Try.f137, [], [[0, 1, 5], [0, 1, 2, 4, 5, 6, 3, 7, 8, 9], [0, 1, 2, 3, 4, 5, 6, 7, 8, 9]], Try.func137, by kernel_rfl, by kernel_rfl, by kernel_rfl⟩
theorem ok136 : FnOk Try.prog c F (136, 198, r136) := ⟨Try.f198, [], [], Try.func198, by kernel_rfl, by kernel_rfl, by kernel_rfl⟩
theorem ok137 : FnOk Try.prog c F (137, 199, r137) := ⟨Try.f199, [], [[0, 3, 4]], Try.func199, by kernel_rfl, by kernel_rfl, by kernel_rfl⟩
theorem ok138 : FnOk Try.prog c F (138, 200, r138) := ⟨Try.f200, [], [], Try.func200, by kernel_rfl, by kernel_rfl, by kernel_rfl⟩
theorem ok265 : FnOk Try.prog c F (265, 195, r265) := ⟨Try.f195, [], [[1, 10, 11, 12], [0, 1, 2, 3, 4, 5, 6, 7, 8, 9, 10, 11, 12, 13, 14, 15, 16, 17, 18, 19, 20, 21, 22, 23, 24, 25, 26, 27, 30, 31, 28, 29, 32, 33, 34, 35, 36, 37, 38, 39], [0, 1, 2, 3, 4, 5, 6, 7, 8, 9, 10, 11, 12, 13, 14, 15, 16, 17, 18, 19, 20, 21, 22, 23, 24, 25, 26, 27, 28, 29, 30, 31, 32, 33, 34, 35, 36, 37, 38, 39]], Try.func195, by kernel_rfl, by kernel_rfl, by kernel_rfl⟩
theorem ok266 : FnOk Try.prog c F (266, 196, r266) := ⟨Try.f196, [], [], Try.func196, by kernel_rfl, by kernel_rfl, by kernel_rfl⟩
theorem ok267 : FnOk Try.prog c F (267, 197, r267) := ⟨Try.f197, [], [[0, 1, 2, 3, 5, 6, 7, 8, 4, 9, 10, 11, 12], [0, 1, 2, 3, 4, 5, 6, 7, 8, 9, 10, 11, 12]], Try.func197, by kernel_rfl, by kernel_rfl, by kernel_rfl⟩
theorem ok139 : FnOk Try.prog c F (139, 185, r139) := ⟨Try.f185, [], [[0, 1, 5], [0, 1, 2, 4, 5, 6, 3, 7, 8, 9], [0, 1, 2, 3, 4, 5, 6, 7, 8, 9]], Try.func185, by kernel_rfl, by kernel_rfl, by kernel_rfl⟩
theorem ok140 : FnOk Try.prog c F (140, 186, r140) := ⟨Try.f186, [], [], Try.func186, by kernel_rfl, by kernel_rfl, by kernel_rfl⟩
theorem ok141 : FnOk Try.prog c F (141, 210, r141) := ⟨Try.f210, [], [], Try.func210, by kernel_rfl, by kernel_rfl, by kernel_rfl⟩
theorem ok272 : FnOk Try.prog c F (272, 206, r272) := ⟨Try.f206, [], [[0, 3, 7, 8], [1, 2, 3, 0, 4, 5], [0, 1, 2, 3, 4, 5]], Try.func206, by kernel_rfl, by kernel_rfl, by kernel_rfl⟩
theorem ok275 : FnOk Try.prog c F (275, 207, r275) := ⟨Try.f207, [], [[3, 6, 7, 8]], Try.func207, by kernel_rfl, by kernel_rfl, by kernel_rfl⟩
theorem ok273 : FnOk Try.prog c F (273, 208, r273) := ⟨Try.f208, [], [], Try.func208, by kernel_rfl, by kernel_rfl, by kernel_rfl⟩
theorem ok274 : FnOk Try.prog c F (274, 209, r274) := ⟨Try.f209, [], [], Try.func209, by kernel_rfl, by kernel_rfl, by kernel_rfl⟩
theorem ok142 : FnOk Try.prog c F (142, 205, r142) := ⟨Try.f205, [], [], Try.func205, by kernel_rfl, by kernel_rfl, by kernel_rfl⟩
theorem ok276 : FnOk Try.prog c F (276, 213, r276) := ⟨Try.f213, [], [], Try.func213, by kernel_rfl, by kernel_rfl, by kernel_rfl⟩
theorem ok277 : FnOk Try.prog c F (277, 214, r277) := ⟨Try.f214, [], [], Try.func214, by kernel_rfl, by kernel_rfl, by kernel_rfl⟩
theorem okT : (c.T.all fun x => x.2.okB Try.prog (mkCfg Try.prog tab tags).ET (mkCfg Try.prog tab tags).SZ x.1) = true := by kernel_rfl
theorem okF : (c.F.all fun x => decide ((lk tab x.2).map (·.1) = some x.1)) = true := by kernel_rfl
theorem okTab : AllT (FnOk Try.prog c F) tab := ⟨ok168, ok169, ok171, ok170, ok172, ok173, ok154, ok208, ok214, ok215, ok155, ok209, ok216, ok218, ok217, ok158, ok203, ok245, ok156, ok205, ok251, ok250, ok248, ok207, ok111, ok241, ok5, ok204, ok112, ok268, ok206, ok114, ok128, ok129, ok242, ok243, ok130, ok131, ok7, ok244, ok133, ok134, ok136, ok137, ok138, ok265, ok266, ok267, ok139, ok140, ok141, ok272, ok275, ok273, ok274, ok142, ok276, ok277, trivial⟩
theorem prog (O : Nat) : ProgOk ((mkCfg Try.prog tab tags).at O) c F (fun _ _ _ => none) :=
  mkProg okT okF okTab ⟨⟨Try.f101, Try.func101, by kernel_rfl, by kernel_rfl, by kernel_rfl, by kernel_rfl⟩, trivial⟩ ⟨⟨by kernel_rfl, by kernel_rfl, by kernel_rfl⟩, trivial⟩ O
theorem inI10 : AllT (fun x => F x.1 = some x.2) tI10 := ⟨rfl, rfl, rfl, trivial⟩
theorem inI11 : AllT (fun x => F x.1 = some x.2) tI11 := ⟨rfl, rfl, rfl, rfl, rfl, rfl, trivial⟩
theorem inI13 : AllT (fun x => F x.1 = some x.2) tI13 := ⟨rfl, rfl, rfl, rfl, rfl, rfl, rfl, rfl, rfl, rfl, rfl, trivial⟩
theorem inI15 : AllT (fun x => F x.1 = some x.2) tI15 := ⟨rfl, rfl, rfl, rfl, rfl, rfl, rfl, rfl, rfl, rfl, trivial⟩
theorem inLAccount : AllT (fun x => F x.1 = some x.2) tLAccount := ⟨rfl, rfl, rfl, rfl, rfl, rfl, rfl, trivial⟩
theorem inLBook : AllT (fun x => F x.1 = some x.2) tLBook := ⟨rfl, rfl, rfl, rfl, rfl, trivial⟩
theorem inLFin : AllT (fun x => F x.1 = some x.2) tLFin := ⟨rfl, rfl, rfl, rfl, rfl, rfl, rfl, trivial⟩
theorem inLShard : AllT (fun x => F x.1 = some x.2) tLShard := ⟨rfl, rfl, rfl, rfl, rfl, rfl, rfl, rfl, rfl, trivial⟩
theorem inLStore : AllT (fun x => F x.1 = some x.2) tLStore := ⟨rfl, rfl, rfl, rfl, rfl, rfl, rfl, trivial⟩
theorem inLibcmpCompareint : AllT (fun x => F x.1 = some x.2) tLibcmpCompareint := ⟨rfl, trivial⟩
theorem inLibcmpCompareuint64 : AllT (fun x => F x.1 = some x.2) tLibcmpCompareuint64 := ⟨rfl, trivial⟩
theorem inLibcmpOrint : AllT (fun x => F x.1 = some x.2) tLibcmpOrint := ⟨rfl, trivial⟩
theorem inLibcmpisNaNint : AllT (fun x => F x.1 = some x.2) tLibcmpisNaNint := ⟨rfl, trivial⟩
theorem inLibcmpisNaNuint64 : AllT (fun x => F x.1 = some x.2) tLibcmpisNaNuint64 := ⟨rfl, trivial⟩
theorem inLibslicesContainsFuncimplShardimplShard : AllT (fun x => F x.1 = some x.2) tLibslicesContainsFuncimplShardimplShard := ⟨rfl, trivial⟩
theorem inLibslicesContainsFuncimplStoreimplStore : AllT (fun x => F x.1 = some x.2) tLibslicesContainsFuncimplStoreimplStore := ⟨rfl, trivial⟩
theorem inLibslicesContainsimplFinimplFin : AllT (fun x => F x.1 = some x.2) tLibslicesContainsimplFinimplFin := ⟨rfl, trivial⟩
theorem inLibslicesIndexFuncimplShardimplShard : AllT (fun x => F x.1 = some x.2) tLibslicesIndexFuncimplShardimplShard := ⟨rfl, trivial⟩
theorem inLibslicesIndexFuncimplStoreimplStore : AllT (fun x => F x.1 = some x.2) tLibslicesIndexFuncimplStoreimplStore := ⟨rfl, trivial⟩
theorem inLibslicesIndeximplFinimplFin : AllT (fun x => F x.1 = some x.2) tLibslicesIndeximplFinimplFin := ⟨rfl, trivial⟩
theorem inS01d : AllT (fun x => F x.1 = some x.2) tS01d := ⟨rfl, rfl, rfl, rfl, rfl, rfl, rfl, rfl, trivial⟩
theorem inS10 : AllT (fun x => F x.1 = some x.2) tS10 := ⟨rfl, rfl, rfl, rfl, rfl, trivial⟩
theorem inS13 : AllT (fun x => F x.1 = some x.2) tS13 := ⟨rfl, rfl, rfl, rfl, rfl, rfl, rfl, rfl, rfl, rfl, trivial⟩
theorem inS15 : AllT (fun x => F x.1 = some x.2) tS15 := ⟨rfl, rfl, rfl, rfl, rfl, rfl, trivial⟩
theorem inWLiveTotal : AllT (fun x => F x.1 = some x.2) tWLiveTotal := ⟨rfl, trivial⟩
end Go.Proofs.Ytlbagejkjkfkjaa.A.ExactLiveTotal
/- LiveTotal: the law's function, run on any arguments, answers true. -/
namespace Go.Proofs.Ytlbagejkjkfkjaa.A
open Go
set_option linter.unusedSimpArgs false
set_option linter.unusedVariables false
set_option maxHeartbeats 2000000 in
theorem law_ExactLiveTotal {F : Nat → Option RF} {Z : CallF} (hI10 : Has F tI10) (hI11 : Has F tI11) (hI13 : Has F tI13) (hI15 : Has F tI15) (hLAccount : Has F tLAccount) (hLBook : Has F tLBook) (hLFin : Has F tLFin) (hLShard : Has F tLShard) (hLStore : Has F tLStore) (hLibcmpCompareint : Has F tLibcmpCompareint) (hLibcmpCompareuint64 : Has F tLibcmpCompareuint64) (hLibcmpOrint : Has F tLibcmpOrint) (hLibcmpisNaNint : Has F tLibcmpisNaNint) (hLibcmpisNaNuint64 : Has F tLibcmpisNaNuint64) (hLibslicesContainsFuncimplShardimplShard : Has F tLibslicesContainsFuncimplShardimplShard) (hLibslicesContainsFuncimplStoreimplStore : Has F tLibslicesContainsFuncimplStoreimplStore) (hLibslicesContainsimplFinimplFin : Has F tLibslicesContainsimplFinimplFin) (hLibslicesIndexFuncimplShardimplShard : Has F tLibslicesIndexFuncimplShardimplShard) (hLibslicesIndexFuncimplStoreimplStore : Has F tLibslicesIndexFuncimplStoreimplStore) (hLibslicesIndeximplFinimplFin : Has F tLibslicesIndeximplFinimplFin) (hS01d : Has F tS01d) (hS10 : Has F tS10) (hS13 : Has F tS13) (hS15 : Has F tS15) (hWLiveTotal : Has F tWLiveTotal) (h : Heap) (avs : List V) (hfl : h.floor = h.next) (w : ArgsWf h 8 [shStoreS] avs) : ∃ h', call F Z 168 avs h = some (.c (.bool true), h') := by
  obtain ⟨lx, _, rfl, lw, w1⟩ := ArgsWf.slice w
  obtain ⟨l, lp, lv, lok⟩ := SlR.ofWf (R := Store.RL) (A := fun t => t.Ok) (fun r hr => by obtain ⟨t, fp, v, ok⟩ := Wf.isStore hr.2; exact ⟨t, fp, v, ok⟩) lw
  obtain rfl := w1.nil
  have f0 : h.floor ≤ h.next := by omega
  rw [call_run F Z (hWLiveTotal.lk (g := 168) rfl) _ _ rfl]
  obtain ⟨l0, s0, s0l, s0k⟩ := szStoreS_c hLStore hLShard hLBook hLAccount hLFin (Z := Z) lv 1048576 (by omega) (by omega)
  simp only [run0, run1, run2, run3, run4, noSlot, memN, RO.dst, lk, drop, forget, number, Nat.reduceBEq, cut?, splice?, builds, List.length_cons, List.length_nil, List.drop_succ_cons, List.drop_zero, List.take_succ_cons, List.take_zero, List.cons_append, List.nil_append, List.append_nil, List.drop_nil, List.take_nil, Nat.reduceAdd, Nat.reduceLeDiff, Nat.zero_add, Nat.add_zero, ↓reduceIte, Bool.not_true, Bool.not_false, decide_true, decide_false, eq_self, bne_self_eq_false, List.getElem?_cons_zero, List.getElem?_cons_succ, decide_eq_true_eq, Bool.false_eq_true, Bool.true_eq_false, reduceCtorEq, Nat.le_refl, s0]
  by_cases hn0 : l0 < 0
  · simp only [run0, run1, run2, run3, run4, noSlot, memN, RO.dst, lk, drop, forget, number, Nat.reduceBEq, cut?, splice?, builds, List.length_cons, List.length_nil, List.drop_succ_cons, List.drop_zero, List.take_succ_cons, List.take_zero, List.cons_append, List.nil_append, List.append_nil, List.drop_nil, List.take_nil, Nat.reduceAdd, Nat.reduceLeDiff, Nat.zero_add, Nat.add_zero, ↓reduceIte, Bool.not_true, Bool.not_false, decide_true, decide_false, eq_self, bne_self_eq_false, List.getElem?_cons_zero, List.getElem?_cons_succ, decide_eq_true_eq, Bool.false_eq_true, Bool.true_eq_false, reduceCtorEq, Nat.le_refl, hn0]
    exact ⟨_, rfl⟩
  have sm0 := s0k (by omega)
  have flr : h.floor = h.next := hfl
  obtain ⟨y1, h1, p1, e1, o1, v1, q1⟩ := toStoreS_c hLStore hLShard hLBook hLAccount hLFin (Z := Z) f0 lv sm0
  replace lv := lv.on Store.okL o1
  have n1 := o1.ext.1
  have g1 := o1.fl
  have f1 := o1.le f0
  obtain ⟨h2, e2, o2⟩ := sLiveTotal_c ⟨hS01d, hS10, hS13⟩ hS15 (Z := Z) f1 v1 lok
  replace lv := lv.on Store.okL o2
  replace v1 := v1.on Store.okI o2
  have n2 := o2.ext.1
  have g2 := o2.fl
  have f2 := o2.le f1
  obtain ⟨y3, h3, p3, e3, o3, v3, q3⟩ := toStoreS_c hLStore hLShard hLBook hLAccount hLFin (Z := Z) f2 lv sm0
  replace lv := lv.on Store.okL o3
  replace v1 := v1.on Store.okI o3
  have n3 := o3.ext.1
  have g3 := o3.fl
  have f3 := o3.le f2
  obtain ⟨h4, e4, o4⟩ := LiveTotal_c ⟨hI10, hI11, hI13, hLibcmpCompareint, hLibcmpCompareuint64, hLibcmpOrint, hLibcmpisNaNint, hLibcmpisNaNuint64, hLibslicesIndeximplFinimplFin, hLibslicesContainsimplFinimplFin⟩ ⟨hI15, hLibslicesIndexFuncimplShardimplShard, hLibslicesContainsFuncimplShardimplShard, hLibslicesIndexFuncimplStoreimplStore, hLibslicesContainsFuncimplStoreimplStore⟩ (Z := Z) f3 v3 lok
  replace lv := lv.on Store.okL o4
  replace v1 := v1.on Store.okI o4
  replace v3 := v3.on Store.okI o4
  have n4 := o4.ext.1
  have g4 := o4.fl
  have f4 := o4.le f3
  obtain ⟨y5, h5, p5, e5, o5, v5, q5⟩ := toStoreS_c hLStore hLShard hLBook hLAccount hLFin (Z := Z) f4 lv sm0
  replace lv := lv.on Store.okL o5
  replace v1 := v1.on Store.okI o5
  replace v3 := v3.on Store.okI o5
  have n5 := o5.ext.1
  have g5 := o5.fl
  have f5 := o5.le f4
  have c1 := eqStoreS_r hLStore hLShard hLBook hLAccount hLFin (Z := Z) v3 v5
  simp only [run0, run1, run2, run3, run4, noSlot, memN, RO.dst, lk, drop, forget, number, Nat.reduceBEq, cut?, splice?, builds, List.length_cons, List.length_nil, List.drop_succ_cons, List.drop_zero, List.take_succ_cons, List.take_zero, List.cons_append, List.nil_append, List.append_nil, List.drop_nil, List.take_nil, Nat.reduceAdd, Nat.reduceLeDiff, Nat.zero_add, Nat.add_zero, ↓reduceIte, Bool.not_true, Bool.not_false, decide_true, decide_false, eq_self, bne_self_eq_false, List.getElem?_cons_zero, List.getElem?_cons_succ, decide_eq_true_eq, Bool.false_eq_true, Bool.true_eq_false, reduceCtorEq, Nat.le_refl, hn0, e1, e2, e3, e4, e5, c1]
  exact ⟨_, rfl⟩
end Go.Proofs.Ytlbagejkjkfkjaa.A
/- FnExactLiveTotal: the row's statement, from the law of the abstract run. No condition. -/
namespace Go.Proofs.Ytlbagejkjkfkjaa.A.ExactLiveTotal
open Go Go.ChangeShapes Go.WideShapes Go.ChangeAt Go.RowKit
theorem own : ownKnob Try.prog.godebug = none := by kernel_rfl
set_option maxRecDepth 100000 in
theorem lifted (os : Os) (started : os.Started) (H : Type) (enc : TypeId × Value → H) :
    ReturnsInHanded {} Try.checked os 10 .any (Rows.fnExactLiveTotalSpec.pre6 enc Try.prog Try.f10 Rows.fnExactLiveTotalRow.domain false) (Rows.fnExactLiveTotalSpec.post enc Try.prog Try.f10 false true false false) := by
  refine returnsInHanded_of_change_sized (C := Try.checked) own started (by kernel_rfl) Try.func10
    (ChangeSpec.witness6 (enc := enc) (C := Try.checked) false ⟨#[], #[.slice none 0 0], []⟩ 8 (by kernel_rfl) (by kernel_rfl) (by kernel_rfl) (by kernel_rfl)) ?_
  intro W base args ds gs before hval hW _ _ _
  have hW' := hW
  obtain ⟨p, q, hA, hV, rfl, hfz, hnd⟩ := hW
  obtain ⟨rfl, rfl⟩ := trodVars_none hV
  have r0 : DataW.TrodAll enc Try.prog W 0 (fun _ => true) true [99] args.toList ds p := hA
  obtain ⟨_, _, d0, _, _, _, _, rfl, _, _, r1⟩ := trodAll_cons r0
  obtain ⟨_, rfl, _⟩ := trodAll_nil r1
  refine (law_calls (ts := [99]) (ss := [shStoreS]) prog (show (mkCfg Try.prog tab tags).G 168 = some 10 from by kernel_rfl) ⟨show shIs Try.prog (mkCfg Try.prog tab tags).ET (mkCfg Try.prog tab tags).SZ 8 99 shStoreS = true from by kernel_rfl, trivial⟩ (law_ExactLiveTotal inI10 inI11 inI13 inI15 inLAccount inLBook inLFin inLShard inLStore inLibcmpCompareint inLibcmpCompareuint64 inLibcmpOrint inLibcmpisNaNint inLibcmpisNaNuint64 inLibslicesContainsFuncimplShardimplShard inLibslicesContainsFuncimplStoreimplStore inLibslicesContainsimplFinimplFin inLibslicesIndexFuncimplShardimplShard inLibslicesIndexFuncimplStoreimplStore inLibslicesIndeximplFinimplFin inS01d inS10 inS13 inS15 inWLiveTotal) (fun j t v h1 => hval j t v (by rw [Try.params10]; exact (List.getElem?_toArray ..).trans h1)) hA).mono fun e W' ⟨he, bel⟩ => ?_
  subst he
  exact ⟨_, rfl, _, _, _, [], _, [], hW', trodAll_mk1 (shut_bool Try.underlying4 _), trodAll_below (by kernel_rfl) bel _ _ _ _ (by kernel_rfl) hA hA.lt, rfl, bel.frame _, fun h => by cases h⟩
theorem over : Rows.fnExactLiveTotalRow.holds Try.pinned (OpenSpec.ofChange Rows.fnExactLiveTotalSpec) :=
  OpenClaim.holds_of_wide 10 Try.f10 rfl rfl rfl rfl rfl rfl rfl ⟨rfl, rfl, rfl, rfl, rfl⟩ rfl rfl rfl rfl rfl (by kernel_rfl) Try.func10 (by kernel_rfl)
    (of_decide_eq_true (by kernel_rfl)) (by unfold Func.isWrapper; first | (rw [if_pos (by decide +kernel)]; kernel_rfl) | (rw [if_neg (by decide +kernel)]; exact ⟨rfl, rfl⟩))
    (fun os started H enc _ => lifted os started H enc)
end Go.Proofs.Ytlbagejkjkfkjaa.A.ExactLiveTotal
namespace Go.Proofs.Ytlbagejkjkfkjaa
/-- The row. -/
theorem fnExactLiveTotal_holds : Rows.FnExactLiveTotalSaid := A.ExactLiveTotal.over
#print axioms fnExactLiveTotal_holds
end Go.Proofs.Ytlbagejkjkfkjaa
