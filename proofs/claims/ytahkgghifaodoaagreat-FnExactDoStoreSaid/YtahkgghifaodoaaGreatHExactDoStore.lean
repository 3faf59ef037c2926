/- FnExactDoStore: the statement, from the law of the abstract run. No condition. -/
import Derived.Test.YtahkgghifaodoaaGreatHCExactDoStore3
import Derived.Test.YtahkgghifaodoaaGreatB6
import Derived.Test.YtahkgghifaodoaaGreatZ7
import Derived.Test.YtahkgghifaodoaaGreatProg
import Derived.Test.YtahkgghifaodoaaGreatRows
import Derived.ProofKit
import Derived.OpenShut
import Derived.ShutString
import Derived.ChangeOld
import Derived.Below
import Derived.SizedLaws
namespace Go.Proofs.YtahkgghifaodoaaGreat.A.ExactDoStore
open Go
set_option maxRecDepth 100000
def c : CC where
  T := [(3, ⟨1, 8, false, some [.int .i64 0], (.int .i64)⟩),
    (24, ⟨1, 24, false, some [.nil], (.slice 60 16)⟩),
    (26, ⟨3, 40, true, some [.int .i64 0, .int .i64 0, .nil], (.struct [(0, 1, false), (1, 1, false), (2, 1, false)])⟩),
    (30, ⟨1, 8, false, some [.int .u64 0], (.int .u64)⟩),
    (32, ⟨5, 40, true, some [.int .i64 0, .int .i64 0, .int .u64 0, .int .u64 0, .int .i64 0], (.struct [(0, 1, false), (1, 1, false), (2, 1, false), (3, 1, false), (4, 1, false)])⟩),
    (40, ⟨1, 24, false, some [.nil], (.slice 112 20)⟩),
    (42, ⟨3, 40, true, some [.int .i64 0, .int .i64 0, .nil], (.struct [(0, 1, false), (1, 1, false), (2, 1, false)])⟩),
    (43, ⟨5, 40, true, some [.int .i64 0, .int .i64 0, .int .u64 0, .int .u64 0, .int .i64 0], (.struct [(0, 1, false), (1, 1, false), (2, 1, false), (3, 1, false), (4, 1, false)])⟩),
    (55, ⟨1, 24, false, some [.nil], (.slice 76 11)⟩),
    (57, ⟨1, 24, true, some [.nil], (.struct [(0, 1, false)])⟩),
    (58, ⟨1, 24, false, some [.nil], (.slice 66 9)⟩),
    (60, ⟨6, 80, true, some [.int .u64 0, .int .u64 0, .int .i64 0, .int .i64 0, .nil, .nil], (.struct [(0, 1, false), (1, 1, false), (2, 1, false), (3, 1, false), (4, 1, true), (5, 1, false)])⟩),
    (66, ⟨2, 16, true, some [.int .i64 0, .int .u64 0], (.struct [(0, 1, false), (1, 1, false)])⟩),
    (76, ⟨5, 40, true, some [.int .u64 0, .int .u64 0, .int .u64 0, .int .u64 0, .int .i64 0], (.struct [(0, 1, false), (1, 1, false), (2, 1, false), (3, 1, false), (4, 1, false)])⟩),
    (88, ⟨1, 24, false, some [.nil], (.slice 3 15)⟩),
    (107, ⟨1, 24, false, some [.nil], (.slice 166 12)⟩),
    (109, ⟨1, 24, true, some [.nil], (.struct [(0, 1, false)])⟩),
    (110, ⟨1, 24, false, some [.nil], (.slice 155 10)⟩),
    (112, ⟨6, 80, true, some [.int .u64 0, .int .u64 0, .int .i64 0, .int .i64 0, .nil, .nil], (.struct [(0, 1, false), (1, 1, false), (2, 1, false), (3, 1, false), (4, 1, true), (5, 1, false)])⟩),
    (155, ⟨2, 16, true, some [.int .i64 0, .int .u64 0], (.struct [(0, 1, false), (1, 1, false)])⟩),
    (166, ⟨5, 40, true, some [.int .u64 0, .int .u64 0, .int .u64 0, .int .u64 0, .int .i64 0], (.struct [(0, 1, false), (1, 1, false), (2, 1, false), (3, 1, false), (4, 1, false)])⟩)]
  F := [(5, 380), (9, 382), (12, 381), (14, 154), (15, 155), (16, 109), (17, 158), (18, 191), (19, 292), (25, 387), (27, 206), (28, 317), (29, 156), (30, 5), (31, 211), (32, 228), (33, 243), (34, 323), (35, 324), (36, 325), (37, 326), (38, 388), (39, 389), (40, 390), (41, 391), (42, 328), (43, 374), (46, 203), (47, 205), (48, 207), (49, 230), (50, 322), (57, 320), (58, 212), (59, 266), (60, 395), (61, 375), (62, 267), (63, 342), (65, 7), (66, 244), (67, 204), (68, 259), (69, 241), (70, 335), (71, 336), (72, 242), (73, 111), (74, 112), (75, 114), (76, 261), (77, 232), (78, 262), (79, 234), (86, 229), (87, 248), (88, 247), (89, 272), (90, 337), (91, 338), (92, 339), (93, 340), (94, 398), (95, 399), (96, 400), (97, 401), (100, 275), (101, 273), (102, 274), (103, 265), (104, 128), (105, 129), (106, 130), (107, 131), (108, 133), (109, 134), (114, 260), (115, 343), (116, 345), (117, 344), (118, 346), (119, 347), (120, 402), (121, 403), (122, 404), (123, 405), (134, 276), (135, 277), (136, 136), (137, 137), (138, 138), (139, 139), (140, 140), (143, 348), (149, 141), (150, 142)]
  eqT := [(66, [.i .i64, .i .u64])]
  adds := [45]
def F : Nat → Option RF := lk (tI10 ++ tI11 ++ tI13 ++ tLAccount ++ tLBook ++ tLFin ++ tLRequest ++ tLShard ++ tLStore ++ tLibcmpCompareint ++ tLibcmpCompareuint64 ++ tLibcmpOrint ++ tLibcmpisNaNint ++ tLibcmpisNaNuint64 ++ tLibslicesContainsimplFinimplFin ++ tLibslicesIndexFuncimplShardimplShard ++ tLibslicesIndeximplFinimplFin ++ tS01d ++ tS10 ++ tS13 ++ tWDoStore)
def tab : List (Nat × FuncId × RF) := [(380, 5, r380), (382, 9, r382), (381, 12, r381), (154, 14, r154), (155, 15, r155), (109, 16, r109), (158, 17, r158), (191, 18, r191), (292, 19, r292), (387, 25, r387), (317, 28, r317), (156, 29, r156), (5, 30, r5), (211, 31, r211), (228, 32, r228), (243, 33, r243), (323, 34, r323), (324, 35, r324), (325, 36, r325), (326, 37, r326), (388, 38, r388), (389, 39, r389), (390, 40, r390), (391, 41, r391), (328, 42, r328), (374, 43, r374), (203, 46, r203), (205, 47, r205), (207, 48, r207), (230, 49, r230), (322, 50, r322), (206, 27, r206), (320, 57, r320), (212, 58, r212), (266, 59, r266), (395, 60, r395), (267, 62, r267), (342, 63, r342), (204, 67, r204), (259, 68, r259), (241, 69, r241), (335, 70, r335), (336, 71, r336), (242, 72, r242), (111, 73, r111), (112, 74, r112), (114, 75, r114), (261, 76, r261), (232, 77, r232), (262, 78, r262), (234, 79, r234), (7, 65, r7), (244, 66, r244), (229, 86, r229), (248, 87, r248), (247, 88, r247), (272, 89, r272), (337, 90, r337), (338, 91, r338), (339, 92, r339), (340, 93, r340), (398, 94, r398), (399, 95, r399), (400, 96, r400), (401, 97, r401), (275, 100, r275), (273, 101, r273), (274, 102, r274), (128, 104, r128), (129, 105, r129), (130, 106, r130), (131, 107, r131), (133, 108, r133), (134, 109, r134), (265, 103, r265), (260, 114, r260), (345, 116, r345), (344, 117, r344), (346, 118, r346), (347, 119, r347), (402, 120, r402), (403, 121, r403), (404, 122, r404), (405, 123, r405), (276, 134, r276), (277, 135, r277), (136, 136, r136), (137, 137, r137), (138, 138, r138), (139, 139, r139), (140, 140, r140), (141, 149, r141), (142, 150, r142)]
def tags : List (Nat × TypeId × Nat) := [(9, 66, 2), (10, 155, 2), (11, 76, 5), (12, 166, 5), (15, 3, 1), (16, 60, 6), (20, 112, 6)]
theorem inI10 : AllT (fun x => F x.1 = some x.2) tI10 := ⟨rfl, rfl, rfl, rfl, rfl, rfl, rfl, rfl, rfl, rfl, rfl, rfl, rfl, rfl, rfl, rfl, rfl, rfl, rfl, trivial⟩
theorem inI11 : AllT (fun x => F x.1 = some x.2) tI11 := ⟨rfl, trivial⟩
theorem inI13 : AllT (fun x => F x.1 = some x.2) tI13 := ⟨rfl, rfl, rfl, rfl, rfl, rfl, rfl, rfl, rfl, rfl, trivial⟩
theorem inLAccount : AllT (fun x => F x.1 = some x.2) tLAccount := ⟨rfl, rfl, rfl, rfl, rfl, rfl, rfl, trivial⟩
theorem inLBook : AllT (fun x => F x.1 = some x.2) tLBook := ⟨rfl, rfl, rfl, trivial⟩
theorem inLFin : AllT (fun x => F x.1 = some x.2) tLFin := ⟨rfl, rfl, rfl, rfl, rfl, rfl, rfl, trivial⟩
theorem inLRequest : AllT (fun x => F x.1 = some x.2) tLRequest := ⟨rfl, trivial⟩
theorem inLShard : AllT (fun x => F x.1 = some x.2) tLShard := ⟨rfl, rfl, rfl, rfl, rfl, rfl, rfl, rfl, trivial⟩
theorem inLStore : AllT (fun x => F x.1 = some x.2) tLStore := ⟨rfl, rfl, rfl, rfl, rfl, trivial⟩
theorem inLibcmpCompareint : AllT (fun x => F x.1 = some x.2) tLibcmpCompareint := ⟨rfl, trivial⟩
theorem inLibcmpCompareuint64 : AllT (fun x => F x.1 = some x.2) tLibcmpCompareuint64 := ⟨rfl, trivial⟩
theorem inLibcmpOrint : AllT (fun x => F x.1 = some x.2) tLibcmpOrint := ⟨rfl, trivial⟩
theorem inLibcmpisNaNint : AllT (fun x => F x.1 = some x.2) tLibcmpisNaNint := ⟨rfl, trivial⟩
theorem inLibcmpisNaNuint64 : AllT (fun x => F x.1 = some x.2) tLibcmpisNaNuint64 := ⟨rfl, trivial⟩
theorem inLibslicesContainsimplFinimplFin : AllT (fun x => F x.1 = some x.2) tLibslicesContainsimplFinimplFin := ⟨rfl, trivial⟩
theorem inLibslicesIndexFuncimplShardimplShard : AllT (fun x => F x.1 = some x.2) tLibslicesIndexFuncimplShardimplShard := ⟨rfl, trivial⟩
theorem inLibslicesIndeximplFinimplFin : AllT (fun x => F x.1 = some x.2) tLibslicesIndeximplFinimplFin := ⟨rfl, trivial⟩
theorem inS01d : AllT (fun x => F x.1 = some x.2) tS01d := ⟨rfl, trivial⟩
theorem inS10 : AllT (fun x => F x.1 = some x.2) tS10 := ⟨rfl, rfl, rfl, rfl, rfl, rfl, rfl, rfl, rfl, rfl, rfl, rfl, rfl, trivial⟩
theorem inS13 : AllT (fun x => F x.1 = some x.2) tS13 := ⟨rfl, rfl, rfl, rfl, rfl, rfl, rfl, rfl, rfl, trivial⟩
theorem inWDoStore : AllT (fun x => F x.1 = some x.2) tWDoStore := ⟨rfl, trivial⟩
open Go.Shelf
def ptab : List (Nat × FuncId × PrimF) := [(375, 61, (sortF 9 267)), (343, 115, (insF 11 40)), (348, 143, (delF 11))]
theorem i66 : (Tryz.prog.info? 66).isSome = true := by kernel_rfl
noncomputable def inf66 : TypeInfo := (Tryz.prog.info? 66).get i66
theorem z66 : inf66.zero.isSome = true := by kernel_rfl
noncomputable def zv66 : Value := inf66.zero.get z66
theorem p375 : SlLaysF0.n6 Tryz.prog (renS [(6, 61), (14, 98), (15, 99), (20, 124), (21, 125), (22, 126), (23, 127), (24, 128), (25, 129), (26, 130), (27, 131), (28, 132), (29, 133), (46, 144), (47, 145), (48, 146), (49, 147), (50, 148), (57, 152)] [(0, 0), (3, 3), (4, 4), (5, 5), (9, 9), (22, 58), (24, 66), (25, 94), (39, 119), (45, 142), (46, 143), (50, 95), (53, 149), (55, 30), (66, 159), (70, 163), (76, 168), (77, 169)]) where
  mixed := by kernel_rfl
  f6 := ⟨(Tryz.prog.funcs[61]?.map (·.name)).getD "", by kernel_rfl, by kernel_rfl⟩
  f14 := ⟨(Tryz.prog.funcs[98]?.map (·.name)).getD "", by kernel_rfl, by kernel_rfl⟩
  f15 := Tryz.func99.trans (congrArg some (by kernel_rfl))
  f20 := ⟨(Tryz.prog.funcs[124]?.map (·.name)).getD "", by kernel_rfl, by kernel_rfl⟩
  f21 := ⟨(Tryz.prog.funcs[125]?.map (·.name)).getD "", by kernel_rfl, by kernel_rfl⟩
  f22 := ⟨(Tryz.prog.funcs[126]?.map (·.name)).getD "", by kernel_rfl, by kernel_rfl⟩
  f23 := ⟨(Tryz.prog.funcs[127]?.map (·.name)).getD "", by kernel_rfl, by kernel_rfl⟩
  f24 := ⟨(Tryz.prog.funcs[128]?.map (·.name)).getD "", by kernel_rfl, by kernel_rfl⟩
  f25 := ⟨(Tryz.prog.funcs[129]?.map (·.name)).getD "", by kernel_rfl, by kernel_rfl⟩
  f26 := ⟨(Tryz.prog.funcs[130]?.map (·.name)).getD "", by kernel_rfl, by kernel_rfl⟩
  f27 := ⟨(Tryz.prog.funcs[131]?.map (·.name)).getD "", by kernel_rfl, by kernel_rfl⟩
  f28 := Tryz.func132.trans (congrArg some (by kernel_rfl))
  f29 := Tryz.func133.trans (congrArg some (by kernel_rfl))
  f46 := ⟨(Tryz.prog.funcs[144]?.map (·.name)).getD "", by kernel_rfl, by kernel_rfl⟩
  f47 := Tryz.func145.trans (congrArg some (by kernel_rfl))
  f48 := Tryz.func146.trans (congrArg some (by kernel_rfl))
  f49 := ⟨(Tryz.prog.funcs[147]?.map (·.name)).getD "", by kernel_rfl, by kernel_rfl⟩
  f50 := ⟨(Tryz.prog.funcs[148]?.map (·.name)).getD "", by kernel_rfl, by kernel_rfl⟩
  f57 := ⟨(Tryz.prog.funcs[152]?.map (·.name)).getD "", by kernel_rfl, by kernel_rfl⟩
  t0 := Tryz.underlying0
  a0 := Tryz.isAgg0
  z0 := Tryz.sizeOf0
  v0 := Tryz.zeroValue0
  t3 := Tryz.underlying3
  a3 := Tryz.isAgg3
  z3 := Tryz.sizeOf3
  v3 := Tryz.zeroValue3
  t4 := Tryz.underlying4
  a4 := Tryz.isAgg4
  z4 := Tryz.sizeOf4
  v4 := Tryz.zeroValue4
  t5 := Tryz.underlying5
  a5 := Tryz.isAgg5
  z5 := Tryz.sizeOf5
  v5 := Tryz.zeroValue5
  t9 := Tryz.underlying9
  a9 := Tryz.isAgg9
  z9 := Tryz.sizeOf9
  v9 := Tryz.zeroValue9
  t22 := Tryz.underlying58
  a22 := Tryz.isAgg58
  z22 := Tryz.sizeOf58
  v22 := Tryz.zeroValue58
  t25 := Tryz.underlying94
  a25 := Tryz.isAgg94
  z25 := Tryz.sizeOf94
  v25 := Tryz.zeroValue94
  t39 := Tryz.underlying119
  a39 := Tryz.isAgg119
  z39 := Tryz.sizeOf119
  v39 := Tryz.zeroValue119
  t45 := Tryz.underlying142
  a45 := Tryz.isAgg142
  z45 := Tryz.sizeOf142
  v45 := Tryz.zeroValue142
  t46 := Tryz.underlying143
  a46 := Tryz.isAgg143
  z46 := Tryz.sizeOf143
  v46 := Tryz.zeroValue143
  t50 := Tryz.underlying95
  a50 := Tryz.isAgg95
  z50 := Tryz.sizeOf95
  v50 := Tryz.zeroValue95
  t53 := Tryz.underlying149
  a53 := Tryz.isAgg149
  z53 := Tryz.sizeOf149
  v53 := Tryz.zeroValue149
  t55 := Tryz.underlying30
  a55 := Tryz.isAgg30
  z55 := Tryz.sizeOf30
  v55 := Tryz.zeroValue30
  t66 := Tryz.underlying159
  a66 := Tryz.isAgg159
  z66 := Tryz.sizeOf159
  v66 := Tryz.zeroValue159
  t70 := Tryz.underlying163
  a70 := Tryz.isAgg163
  z70 := Tryz.sizeOf163
  v70 := Tryz.zeroValue163
  t76 := Tryz.underlying168
  a76 := Tryz.isAgg168
  z76 := Tryz.sizeOf168
  v76 := Tryz.zeroValue168
  t77 := Tryz.underlying169
  a77 := Tryz.isAgg169
  z77 := Tryz.sizeOf169
  v77 := Tryz.zeroValue169
def c2 : CC where
  T := [(3, ⟨1, 8, false, some [.int .i64 0], (.int .i64)⟩),
    (30, ⟨1, 8, false, some [.int .u64 0], (.int .u64)⟩),
    (66, ⟨2, 16, true, some [.int .i64 0, .int .u64 0], (.struct [(0, 1, false), (1, 1, false)])⟩),
    (88, ⟨1, 24, false, some [.nil], (.slice 3 15)⟩)]
  F := [(62, 267), (100, 275), (101, 273), (102, 274), (134, 276), (135, 277)]
  eqT := []
  adds := []
def tab2 : List (Nat × FuncId × RF) := [(267, 62, r267), (275, 100, r275), (273, 101, r273), (274, 102, r274), (276, 134, r276), (277, 135, r277)]
def tags2 : List (Nat × TypeId × Nat) := [(15, 3, 1)]
theorem qk267 : FnOk Tryz.prog c2 F (267, 62, r267) := ⟨Tryz.f62, [], [[0, 1, 2, 3, 5, 6, 7, 8, 4, 9, 10, 11, 12], [0, 1, 2, 3, 4, 5, 6, 7, 8, 9, 10, 11, 12], [], []], Tryz.func62, by kernel_rfl, by kernel_rfl, by kernel_rfl⟩
theorem qk275 : FnOk Tryz.prog c2 F (275, 100, r275) := ⟨Tryz.f100, [], [[3, 6, 7, 8]], Tryz.func100, by kernel_rfl, by kernel_rfl, by kernel_rfl⟩
theorem qk273 : FnOk Tryz.prog c2 F (273, 101, r273) := ⟨Tryz.f101, [], [], Tryz.func101, by kernel_rfl, by kernel_rfl, by kernel_rfl⟩
theorem qk274 : FnOk Tryz.prog c2 F (274, 102, r274) := ⟨Tryz.f102, [], [], Tryz.func102, by kernel_rfl, by kernel_rfl, by kernel_rfl⟩
theorem qk276 : FnOk Tryz.prog c2 F (276, 134, r276) := ⟨Tryz.f134, [], [], Tryz.func134, by kernel_rfl, by kernel_rfl, by kernel_rfl⟩
theorem qk277 : FnOk Tryz.prog c2 F (277, 135, r277) := ⟨Tryz.f135, [], [], Tryz.func135, by kernel_rfl, by kernel_rfl, by kernel_rfl⟩
theorem okT2 : (c2.T.all fun x => x.2.okB Tryz.prog (mkCfg Tryz.prog tab2 tags2).ET (mkCfg Tryz.prog tab2 tags2).SZ x.1) = true := by kernel_rfl
theorem okF2 : (c2.F.all fun x => decide ((lk tab2 x.2).map (·.1) = some x.1)) = true := by kernel_rfl
theorem okTab2 : AllT (FnOk Tryz.prog c2 F) tab2 := ⟨qk267, qk275, qk273, qk274, qk276, qk277, trivial⟩
theorem prog2 (O : Nat) : ProgOk ((mkCfg Tryz.prog tab2 tags2).at O) c2 F (fun _ _ _ => none) :=
  mkProg okT2 okF2 okTab2 ⟨⟩ trivial O
theorem cmpF (x y : Int × Int) (W : World) : Calls Tryz.prog 62 #[.agg (val2 x).toArray, .agg (val2 y).toArray] W fun e w' => e = .returned (.int .i64 (cmp2 x y)) ∧ ∃ q os', w' = Sort.grow (W.drewN q) os' :=
  fins_calls (prog2 0) (fid := 62) rfl inI13 inLibcmpCompareint inLibcmpCompareuint64 inLibcmpOrint inLibcmpisNaNint inLibcmpisNaNuint64 x y W
theorem i76 : (Tryz.prog.info? 76).isSome = true := by kernel_rfl
noncomputable def inf76 : TypeInfo := (Tryz.prog.info? 76).get i76
theorem z76 : inf76.zero.isSome = true := by kernel_rfl
noncomputable def zv76 : Value := inf76.zero.get z76
theorem p343 : Z.InsT Tryz.prog (renI 115 141 142 3 4 76 55) 5 40 zv76 where
  mixed := by kernel_rfl
  f22 := ⟨(Tryz.prog.funcs[115]?.map (·.name)).getD "", by kernel_rfl, by kernel_rfl⟩
  f29 := ⟨Tryz.f141, Tryz.func141, by kernel_rfl, by kernel_rfl, by kernel_rfl, by kernel_rfl⟩
  t3 := by kernel_rfl
  t4 := by kernel_rfl
  t24 := by kernel_rfl
  i9 := ⟨inf76, (Option.some_get i76).symm, by kernel_rfl, by kernel_rfl, (Option.some_get z76).symm, by kernel_rfl, by decide⟩
theorem p348 : Z.DelT Tryz.prog (renD 143 3 4 76 55) 5 zv76 where
  mixed := by kernel_rfl
  f45 := ⟨(Tryz.prog.funcs[143]?.map (·.name)).getD "", by kernel_rfl, by kernel_rfl⟩
  t3 := by kernel_rfl
  t4 := by kernel_rfl
  t22 := by kernel_rfl
  i23 := ⟨inf76, (Option.some_get i76).symm, by kernel_rfl, by kernel_rfl, by decide, (Option.some_get z76).symm, List.all_eq_true.1 (show (zv76.cells.toList.all (·.oneCell')) = true from by kernel_rfl)⟩
theorem ok380 : FnOk Tryz.prog c F (380, 5, r380) := ⟨Tryz.f5, [], [[9, 0, 2, 1, 3, 4, 5, 6, 7, 8, 10, 11, 12], [0, 1, 2, 3, 4, 5, 6, 9, 10, 7, 11, 8, 12], [], [], [8, 0, 1, 2, 3, 4, 5, 6, 7, 9, 10, 11], [0, 1, 2, 3, 4, 5, 8, 9, 6, 10, 7, 11], [], [], [0, 1, 2, 3, 4], [0, 1, 2, 3, 4], [], [], [9, 0, 2, 1, 3, 4, 5, 6, 7, 8, 10, 11, 12], [0, 1, 2, 3, 4, 5, 6, 9, 10, 7, 11, 8, 12], [], []], Tryz.func5, by kernel_rfl, by kernel_rfl, by kernel_rfl⟩
theorem ok382 : FnOk Tryz.prog c F (382, 9, r382) := ⟨Tryz.f9, [], [], Tryz.func9, by kernel_rfl, by kernel_rfl, by kernel_rfl⟩
theorem ok381 : FnOk Tryz.prog c F (381, 12, r381) := ⟨Tryz.f12, [], [], Tryz.func12, by kernel_rfl, by kernel_rfl, by kernel_rfl⟩
theorem ok154 : FnOk Tryz.prog c F (154, 14, r154) := ⟨Tryz.f14, [], [], Tryz.func14, by kernel_rfl, by kernel_rfl, by kernel_rfl⟩
theorem ok155 : FnOk Tryz.prog c F (155, 15, r155) := ⟨Tryz.f15, [], [], Tryz.func15, by kernel_rfl, by kernel_rfl, by kernel_rfl⟩
theorem ok109 : FnOk Tryz.prog c F (109, 16, r109) := ⟨Tryz.f16, [], [], Tryz.func16, by kernel_rfl, by kernel_rfl, by kernel_rfl⟩
theorem ok158 : FnOk Tryz.prog c F (158, 17, r158) := ⟨Tryz.f17, [], [], Tryz.func17, by kernel_rfl, by kernel_rfl, by kernel_rfl⟩
theorem ok191 : FnOk Tryz.prog c F (191, 18, r191) := ⟨Tryz.f18, [], [], Tryz.func18, by kernel_rfl, by kernel_rfl, by kernel_rfl⟩
theorem ok292 : FnOk Tryz.prog c F (292, 19, r292) := ⟨Tryz.f19, [], [], Tryz.func19, by kernel_rfl, by kernel_rfl, by kernel_rfl⟩
theorem ok387 : FnOk Tryz.prog c F (387, 25, r387) := ⟨Tryz.f25, [], [[0, 1, 2, 3, 4, 5, 6], [0, 1, 2, 3, 4, 5, 6], [], [], [0, 1, 2, 3, 4, 5, 6, 7], [0, 1, 2, 3, 4, 5, 6, 7], [], [], [9, 0, 1, 2, 3, 4, 5, 6, 7, 8, 10, 11], [0, 1, 2, 3, 4, 5, 6, 7, 9, 10, 8, 11], [], [], [0, 1, 2, 3, 4, 5, 6, 7, 8, 9, 10], [0, 1, 2, 3, 4, 5, 6, 7, 8, 9, 10], [], []], Tryz.func25, by kernel_rfl, by kernel_rfl, by kernel_rfl⟩
theorem ok317 : FnOk Tryz.prog c F (317, 28, r317) := ⟨Tryz.f28, [], [[1, 2, 3, 4], [4, 0, 1, 2, 3, 5, 6, 7, 8, 9, 10, 11], [0, 1, 2, 3, 4, 5, 6, 7, 8, 9, 10, 11], [], []], Tryz.func28, by kernel_rfl, by kernel_rfl, by kernel_rfl⟩
theorem ok156 : FnOk Tryz.prog c F (156, 29, r156) := ⟨Tryz.f29, [], [[1, 3], [0, 1, 2, 3, 4, 5, 6, 7, 8, 9, 10, 11, 12, 13, 16, 17, 14, 15, 18, 19, 20, 21, 22, 23, 24, 25], [0, 1, 2, 3, 4, 5, 6, 7, 8, 9, 10, 11, 12, 13, 14, 15, 16, 17, 18, 19, 20, 21, 22, 23, 24, 25], [], []], Tryz.func29, by kernel_rfl, by kernel_rfl, by kernel_rfl⟩
theorem ok5 : FnOk Tryz.prog c F (5, 30, r5) := ⟨Tryz.f30, [], [], Tryz.func30, by kernel_rfl, by kernel_rfl, by kernel_rfl⟩
theorem ok211 : FnOk Tryz.prog c F (211, 31, r211) := ⟨Tryz.f31, [], [[1, 2, 5]], Tryz.func31, by kernel_rfl, by kernel_rfl, by kernel_rfl⟩
theorem ok228 : FnOk Tryz.prog c F (228, 32, r228) := ⟨Tryz.f32, [], [[1, 2, 3, 4]], Tryz.func32, by kernel_rfl, by kernel_rfl, by kernel_rfl⟩
theorem ok243 : FnOk Tryz.prog c F (243, 33, r243) := ⟨Tryz.f33, [], [[0, 3, 5], [0, 1, 2, 3, 4, 5], [0, 1, 2, 3, 4, 5], [], []], Tryz.func33, by kernel_rfl, by kernel_rfl, by kernel_rfl⟩
theorem ok323 : FnOk Tryz.prog c F (323, 34, r323) := ⟨Tryz.f34, [], [[1, 2, 4, 6, 7, 8], [4, 0, 1, 2, 3, 5, 6, 7, 8, 9, 10], [0, 1, 2, 3, 4, 5, 6, 7, 8, 9, 10], [], []], Tryz.func34, by kernel_rfl, by kernel_rfl, by kernel_rfl⟩
theorem ok324 : FnOk Tryz.prog c F (324, 35, r324) := ⟨Tryz.f35, [], [[1, 2, 4, 8, 9], [4, 0, 1, 2, 3, 5, 6, 7, 8, 9, 10], [0, 1, 2, 3, 4, 5, 6, 7, 8, 9, 10], [], []], Tryz.func35, by kernel_rfl, by kernel_rfl, by kernel_rfl⟩
theorem ok325 : FnOk Tryz.prog c F (325, 36, r325) := ⟨Tryz.f36, [], [], Tryz.func36, by kernel_rfl, by kernel_rfl, by kernel_rfl⟩
theorem ok326 : FnOk Tryz.prog c F (326, 37, r326) := ⟨Tryz.f37, [], [], Tryz.func37, by kernel_rfl, by kernel_rfl, by kernel_rfl⟩
theorem ok388 : FnOk Tryz.prog c F (388, 38, r388) := ⟨Tryz.f38, [], [], Tryz.func38, by kernel_rfl, by kernel_rfl, by kernel_rfl⟩
theorem ok389 : FnOk Tryz.prog c F (389, 39, r389) := ⟨Tryz.f39, [], [], Tryz.func39, by kernel_rfl, by kernel_rfl, by kernel_rfl⟩
theorem ok390 : FnOk Tryz.prog c F (390, 40, r390) := ⟨Tryz.f40, [], [], Tryz.func40, by kernel_rfl, by kernel_rfl, by kernel_rfl⟩
theorem ok391 : FnOk Tryz.prog c F (391, 41, r391) := ⟨Tryz.f41, [], [], Tryz.func41, by kernel_rfl, by kernel_rfl, by kernel_rfl⟩
theorem ok328 : FnOk Tryz.prog c F (328, 42, r328) := ⟨Tryz.f42, [], [[1, 2, 5]], Tryz.func42, by kernel_rfl, by kernel_rfl, by kernel_rfl⟩
theorem ok374 : FnOk Tryz.prog c F (374, 43, r374) := ⟨Tryz.f43, [], [[0, 3, 5, 6, 7], [0, 1, 2, 4, 5, 6, 3, 7, 8, 9], [0, 1, 2, 3, 4, 5, 6, 7, 8, 9], [], []], Tryz.func43, by kernel_rfl, by kernel_rfl, by kernel_rfl⟩
theorem ok203 : FnOk Tryz.prog c F (203, 46, r203) := ⟨Tryz.f46, [], [[0, 1, 5]], Tryz.func46, by kernel_rfl, by kernel_rfl, by kernel_rfl⟩
theorem ok205 : FnOk Tryz.prog c F (205, 47, r205) := ⟨Tryz.f47, [], [[0, 3, 4]], Tryz.func47, by kernel_rfl, by kernel_rfl, by kernel_rfl⟩
theorem ok207 : FnOk Tryz.prog c F (207, 48, r207) := ⟨Tryz.f48, [], [[0, 1, 5], [0, 1, 2, 4, 5, 6, 3, 7, 8, 9], [0, 1, 2, 3, 4, 5, 6, 7, 8, 9], [], []], Tryz.func48, by kernel_rfl, by kernel_rfl, by kernel_rfl⟩
theorem ok230 : FnOk Tryz.prog c F (230, 49, r230) := ⟨Tryz.f49, [], [[0, 1, 5]], Tryz.func49, by kernel_rfl, by kernel_rfl, by kernel_rfl⟩
theorem ok322 : FnOk Tryz.prog c F (322, 50, r322) := ⟨Tryz.f50, [], [[0, 1, 5]], Tryz.func50, by kernel_rfl, by kernel_rfl, by kernel_rfl⟩
theorem ok206 : FnOk Tryz.prog c F (206, 27, r206) := ⟨Tryz.f27, [], [[1, 26, 27, 28], [0, 1, 2, 3, 4, 5, 6, 7, 8, 9, 10, 11, 12, 13, 16, 17, 14, 15, 18, 19, 20, 21, 22, 23, 24, 25], [0, 1, 2, 3, 4, 5, 6, 7, 8, 9, 10, 11, 12, 13, 14, 15, 16, 17, 18, 19, 20, 21, 22, 23, 24, 25], [], []], Tryz.func27, by kernel_rfl, by kernel_rfl, by kernel_rfl⟩
theorem ok320 : FnOk Tryz.prog c F (320, 57, r320) := ⟨Tryz.f57, [], [[2, 3, 12, 13, 14], [0, 1, 2, 3, 4, 5, 6, 7], [0, 1, 2, 3, 4, 5, 6, 7], [], []], Tryz.func57, by kernel_rfl, by kernel_rfl, by kernel_rfl⟩
theorem ok212 : FnOk Tryz.prog c F (212, 58, r212) := ⟨Tryz.f58, [3], [], Tryz.func58, by kernel_rfl, by kernel_rfl, by kernel_rfl⟩
theorem ok266 : FnOk Tryz.prog c F (266, 59, r266) := ⟨Tryz.f59, [], [], Tryz.func59, by kernel_rfl, by kernel_rfl, by kernel_rfl⟩
theorem ok395 : FnOk Tryz.prog c F (395, 60, r395) := ⟨Tryz.f60, [], [], Tryz.func60, by kernel_rfl, by kernel_rfl, by kernel_rfl⟩
theorem ok267 : FnOk Tryz.prog c F (267, 62, r267) := ⟨Tryz.f62, [], [[0, 1, 2, 3, 5, 6, 7, 8, 4, 9, 10, 11, 12], [0, 1, 2, 3, 4, 5, 6, 7, 8, 9, 10, 11, 12], [], []], Tryz.func62, by kernel_rfl, by kernel_rfl, by kernel_rfl⟩
theorem ok342 : FnOk Tryz.prog c F (342, 63, r342) := ⟨Tryz.f63, [], [[1, 2, 6], [0, 1, 2, 3, 4, 5, 6, 9, 13, 16, 7, 8, 10, 11, 12, 14, 15, 17], [0, 1, 2, 3, 4, 5, 6, 16, 7, 8, 9, 10, 11, 12, 13, 14, 15, 17], [], []], Tryz.func63, by kernel_rfl, by kernel_rfl, by kernel_rfl⟩
theorem ok204 : FnOk Tryz.prog c F (204, 67, r204) := ⟨Tryz.f67, [], [[1, 3], [0, 1, 2, 3, 4, 5, 6, 7, 8, 9, 10, 11, 12, 13, 14, 15, 16, 17, 18, 19, 20, 23, 24, 21, 22, 25, 26, 27, 28, 29, 30, 31], [0, 1, 2, 3, 4, 5, 6, 7, 8, 9, 10, 11, 12, 13, 14, 15, 16, 17, 18, 19, 20, 21, 22, 23, 24, 25, 26, 27, 28, 29, 30, 31], [], [], [1, 5]], Tryz.func67, by kernel_rfl, by kernel_rfl, by kernel_rfl⟩
theorem ok259 : FnOk Tryz.prog c F (259, 68, r259) := ⟨Tryz.f68, [], [[1, 2, 3, 4], [4, 0, 1, 2, 3, 5, 6, 7, 8, 9, 10], [0, 1, 2, 3, 4, 5, 6, 7, 8, 9, 10], [], []], Tryz.func68, by kernel_rfl, by kernel_rfl, by kernel_rfl⟩
theorem ok241 : FnOk Tryz.prog c F (241, 69, r241) := ⟨Tryz.f69, [], [[1, 3], [0, 1, 2, 5, 6, 3, 4, 7, 8, 9, 10, 11, 12, 13, 14, 15, 16, 17, 18, 19, 20, 21, 22, 23, 24, 25, 26, 27, 28, 29, 30, 31, 32, 33], [0, 1, 2, 3, 4, 5, 6, 7, 8, 9, 10, 11, 12, 13, 14, 15, 16, 17, 18, 19, 20, 21, 22, 23, 24, 25, 26, 27, 28, 29, 30, 31, 32, 33], [], []], Tryz.func69, by kernel_rfl, by kernel_rfl, by kernel_rfl⟩
theorem ok335 : FnOk Tryz.prog c F (335, 70, r335) := ⟨Tryz.f70, [], [], Tryz.func70, by kernel_rfl, by kernel_rfl, by kernel_rfl⟩
theorem ok336 : FnOk Tryz.prog c F (336, 71, r336) := ⟨Tryz.f71, [], [[3, 4, 5, 6], [2, 0, 1, 3, 4, 5, 6, 7, 8], [0, 1, 2, 3, 4, 5, 6, 7, 8], [], []], Tryz.func71, by kernel_rfl, by kernel_rfl, by kernel_rfl⟩
theorem ok242 : FnOk Tryz.prog c F (242, 72, r242) := ⟨Tryz.f72, [], [], Tryz.func72, by kernel_rfl, by kernel_rfl, by kernel_rfl⟩
theorem ok111 : FnOk Tryz.prog c F (111, 73, r111) := ⟨Tryz.f73, [], [], Tryz.func73, by kernel_rfl, by kernel_rfl, by kernel_rfl⟩
theorem ok112 : FnOk Tryz.prog c F (112, 74, r112) := ⟨Tryz.f74, [], [], Tryz.func74, by kernel_rfl, by kernel_rfl, by kernel_rfl⟩
theorem ok114 : FnOk Tryz.prog c F (114, 75, r114) := ⟨Tryz.f75, [], [], Tryz.func75, by kernel_rfl, by kernel_rfl, by kernel_rfl⟩
theorem ok261 : FnOk Tryz.prog c F (261, 76, r261) := ⟨Tryz.f76, [], [[0, 1, 5]], Tryz.func76, by kernel_rfl, by kernel_rfl, by kernel_rfl⟩
theorem ok232 : FnOk Tryz.prog c F (232, 77, r232) := ⟨Tryz.f77, [], [[0, 1, 5]], Tryz.func77, by kernel_rfl, by kernel_rfl, by kernel_rfl⟩
theorem ok262 : FnOk Tryz.prog c F (262, 78, r262) := ⟨Tryz.f78, [], [[0, 1, 5]], Tryz.func78, by kernel_rfl, by kernel_rfl, by kernel_rfl⟩
theorem ok234 : FnOk Tryz.prog c F (234, 79, r234) := ⟨Tryz.f79, [], [[0, 1, 5]], Tryz.func79, by kernel_rfl, by kernel_rfl, by kernel_rfl⟩
theorem ok7 : FnOk Tryz.prog c F (7, 65, r7) := ⟨Tryz.f65, [], [], Tryz.func65, by kernel_rfl, by kernel_rfl, by kernel_rfl⟩
theorem ok244 : FnOk Tryz.prog c F (244, 66, r244) := ⟨Tryz.f66, [], [[1, 46, 47, 48], [1, 76, 77, 78], [0, 1, 2, 3, 4, 5, 6, 7, 8, 9, 10, 11, 12, 13, 14, 15, 16, 17, 18, 19, 20, 23, 24, 21, 22, 25, 26, 27, 28, 29, 30, 31], [0, 1, 2, 3, 4, 5, 6, 7, 8, 9, 10, 11, 12, 13, 14, 15, 16, 17, 18, 19, 20, 21, 22, 23, 24, 25, 26, 27, 28, 29, 30, 31], [], []], Tryz.func66, by kernel_rfl, by kernel_rfl, by kernel_rfl⟩
theorem ok229 : FnOk Tryz.prog c F (229, 86, r229) := ⟨Tryz.f86, [], [], Tryz.func86, by kernel_rfl, by kernel_rfl, by kernel_rfl⟩
theorem ok248 : FnOk Tryz.prog c F (248, 87, r248) := ⟨Tryz.f87, [], [[0, 1, 7, 8]], Tryz.func87, by kernel_rfl, by kernel_rfl, by kernel_rfl⟩
theorem ok247 : FnOk Tryz.prog c F (247, 88, r247) := ⟨Tryz.f88, [], [], Tryz.func88, by kernel_rfl, by kernel_rfl, by kernel_rfl⟩
theorem ok272 : FnOk Tryz.prog c F (272, 89, r272) := ⟨Tryz.f89, [], [[0, 3, 7, 8], [1, 2, 3, 0, 4, 5], [0, 1, 2, 3, 4, 5], [], []], Tryz.func89, by kernel_rfl, by kernel_rfl, by kernel_rfl⟩
theorem ok337 : FnOk Tryz.prog c F (337, 90, r337) := ⟨Tryz.f90, [], [], Tryz.func90, by kernel_rfl, by kernel_rfl, by kernel_rfl⟩
theorem ok338 : FnOk Tryz.prog c F (338, 91, r338) := ⟨Tryz.f91, [], [], Tryz.func91, by kernel_rfl, by kernel_rfl, by kernel_rfl⟩
theorem ok339 : FnOk Tryz.prog c F (339, 92, r339) := ⟨Tryz.f92, [5], [], Tryz.func92, by kernel_rfl, by kernel_rfl, by kernel_rfl⟩
theorem ok340 : FnOk Tryz.prog c F (340, 93, r340) := ⟨Tryz.f93, [5], [], Tryz.func93, by kernel_rfl, by kernel_rfl, by kernel_rfl⟩
theorem ok398 : FnOk Tryz.prog c F (398, 94, r398) := ⟨Tryz.f94, [6, 7], [], Tryz.func94, by kernel_rfl, by kernel_rfl, by kernel_rfl⟩
theorem ok399 : FnOk Tryz.prog c F (399, 95, r399) := ⟨Tryz.f95, [6, 7], [], Tryz.func95, by kernel_rfl, by kernel_rfl, by kernel_rfl⟩
theorem ok400 : FnOk Tryz.prog c F (400, 96, r400) := ⟨Tryz.f96, [4, 5], [], Tryz.func96, by kernel_rfl, by kernel_rfl, by kernel_rfl⟩
theorem ok401 : FnOk Tryz.prog c F (401, 97, r401) := ⟨Tryz.f97, [4, 5], [], Tryz.func97, by kernel_rfl, by kernel_rfl, by kernel_rfl⟩
theorem ok275 : FnOk Tryz.prog c F (275, 100, r275) := ⟨Tryz.f100, [], [[3, 6, 7, 8]], Tryz.func100, by kernel_rfl, by kernel_rfl, by kernel_rfl⟩
theorem ok273 : FnOk Tryz.prog c F (273, 101, r273) := ⟨Tryz.f101, [], [], Tryz.func101, by kernel_rfl, by kernel_rfl, by kernel_rfl⟩
theorem ok274 : FnOk Tryz.prog c F (274, 102, r274) := ⟨Tryz.f102, [], [], Tryz.func102, by kernel_rfl, by kernel_rfl, by kernel_rfl⟩
theorem ok128 : FnOk Tryz.prog c F (128, 104, r128) := ⟨Tryz.f104, [], [], Tryz.func104, by kernel_rfl, by kernel_rfl, by kernel_rfl⟩
theorem ok129 : FnOk Tryz.prog c F (129, 105, r129) := ⟨Tryz.f105, [], [], Tryz.func105, by kernel_rfl, by kernel_rfl, by kernel_rfl⟩
theorem ok130 : FnOk Tryz.prog c F (130, 106, r130) := ⟨Tryz.f106, [], [], Tryz.func106, by kernel_rfl, by kernel_rfl, by kernel_rfl⟩
theorem ok131 : FnOk Tryz.prog c F (131, 107, r131) := ⟨Tryz.f107, [], [[0, 3, 4]], Tryz.func107, by kernel_rfl, by kernel_rfl, by kernel_rfl⟩
theorem ok133 : FnOk Tryz.prog c F (133, 108, r133) := ⟨Tryz.f108, [], [], Tryz.func108, by kernel_rfl, by kernel_rfl, by kernel_rfl⟩
theorem ok134 : FnOk Tryz.prog c F (134, 109, r134) := ⟨Tryz.f109, [], [[0, 1, 5], [0, 1, 2, 4, 5, 6, 3, 7, 8, 9], [0, 1, 2, 3, 4, 5, 6, 7, 8, 9], [], []], Tryz.func109, by kernel_rfl, by kernel_rfl, by kernel_rfl⟩
theorem ok265 : FnOk Tryz.prog c F (265, 103, r265) := ⟨Tryz.f103, [], [[1, 10, 11, 12], [0, 1, 2, 3, 4, 5, 6, 7, 8, 9, 10, 11, 12, 13, 14, 15, 16, 17, 18, 19, 20, 21, 22, 23, 24, 25, 26, 27, 30, 31, 28, 29, 32, 33, 34, 35, 36, 37, 38, 39], [0, 1, 2, 3, 4, 5, 6, 7, 8, 9, 10, 11, 12, 13, 14, 15, 16, 17, 18, 19, 20, 21, 22, 23, 24, 25, 26, 27, 28, 29, 30, 31, 32, 33, 34, 35, 36, 37, 38, 39], [], []], Tryz.func103, by kernel_rfl, by kernel_rfl, by kernel_rfl⟩
theorem ok260 : FnOk Tryz.prog c F (260, 114, r260) := ⟨Tryz.f114, [], [], Tryz.func114, by kernel_rfl, by kernel_rfl, by kernel_rfl⟩
theorem ok345 : FnOk Tryz.prog c F (345, 116, r345) := ⟨Tryz.f116, [], [], Tryz.func116, by kernel_rfl, by kernel_rfl, by kernel_rfl⟩
theorem ok344 : FnOk Tryz.prog c F (344, 117, r344) := ⟨Tryz.f117, [], [], Tryz.func117, by kernel_rfl, by kernel_rfl, by kernel_rfl⟩
theorem ok346 : FnOk Tryz.prog c F (346, 118, r346) := ⟨Tryz.f118, [], [[0, 1, 6, 7, 2, 3, 4, 5, 8, 9, 10], [0, 1, 2, 3, 4, 5, 6, 7, 8, 9, 10], [], [], [0, 1, 2, 3, 4, 5, 6, 7, 8], [0, 1, 2, 3, 4, 5, 6, 7, 8], [], []], Tryz.func118, by kernel_rfl, by kernel_rfl, by kernel_rfl⟩
theorem ok347 : FnOk Tryz.prog c F (347, 119, r347) := ⟨Tryz.f119, [], [[0, 1, 2, 3, 4, 5], [0, 1, 2, 3, 4, 5], [], [], [0, 1, 2, 3, 4, 5, 6, 7, 8], [0, 1, 2, 3, 4, 5, 6, 7, 8], [], []], Tryz.func119, by kernel_rfl, by kernel_rfl, by kernel_rfl⟩
theorem ok402 : FnOk Tryz.prog c F (402, 120, r402) := ⟨Tryz.f120, [], [[0, 1, 2, 3, 4, 5], [0, 1, 2, 3, 4, 5], [], [], [0, 1, 2, 3, 4, 5, 6, 7, 8], [0, 1, 2, 3, 4, 5, 6, 7, 8], [], []], Tryz.func120, by kernel_rfl, by kernel_rfl, by kernel_rfl⟩
theorem ok403 : FnOk Tryz.prog c F (403, 121, r403) := ⟨Tryz.f121, [], [[0, 1, 6, 7, 2, 3, 4, 5, 8, 9, 10], [0, 1, 2, 3, 4, 5, 6, 7, 8, 9, 10], [], []], Tryz.func121, by kernel_rfl, by kernel_rfl, by kernel_rfl⟩
theorem ok404 : FnOk Tryz.prog c F (404, 122, r404) := ⟨Tryz.f122, [], [[0, 1, 2, 3, 4, 5], [0, 1, 2, 3, 4, 5], [], [], [0, 2, 3, 6, 7, 1, 4, 5, 8, 9, 10, 11, 12, 13], [0, 1, 2, 3, 4, 5, 6, 7, 8, 9, 10, 11, 12, 13], [], []], Tryz.func122, by kernel_rfl, by kernel_rfl, by kernel_rfl⟩
theorem ok405 : FnOk Tryz.prog c F (405, 123, r405) := ⟨Tryz.f123, [], [[0, 1, 2, 3, 4, 5], [0, 1, 2, 3, 4, 5], [], [], [0, 2, 3, 6, 7, 1, 4, 5, 8, 9, 10, 11, 12, 13], [0, 1, 2, 3, 4, 5, 6, 7, 8, 9, 10, 11, 12, 13], [], []], Tryz.func123, by kernel_rfl, by kernel_rfl, by kernel_rfl⟩
theorem ok276 : FnOk Tryz.prog c F (276, 134, r276) := ⟨Tryz.f134, [], [], Tryz.func134, by kernel_rfl, by kernel_rfl, by kernel_rfl⟩
theorem ok277 : FnOk Tryz.prog c F (277, 135, r277) := ⟨Tryz.f135, [], [], Tryz.func135, by kernel_rfl, by kernel_rfl, by kernel_rfl⟩
theorem ok136 : FnOk Tryz.prog c F (136, 136, r136) := ⟨Tryz.f136, [], [], Tryz.func136, by kernel_rfl, by kernel_rfl, by kernel_rfl⟩
theorem ok137 : FnOk Tryz.prog c F (137, 137, r137) := ⟨Tryz.f137, [], [[0, 3, 4]], Tryz.func137, by kernel_rfl, by kernel_rfl, by kernel_rfl⟩
theorem ok138 : FnOk Tryz.prog c F (138, 138, r138) := ⟨Tryz.f138, [], [], Tryz.func138, by kernel_rfl, by kernel_rfl, by kernel_rfl⟩
theorem ok139 : FnOk Tryz.prog c F (139, 139, r139) := ⟨Tryz.f139, [], [[0, 1, 5], [0, 1, 2, 4, 5, 6, 3, 7, 8, 9], [0, 1, 2, 3, 4, 5, 6, 7, 8, 9], [], []], Tryz.func139, by kernel_rfl, by kernel_rfl, by kernel_rfl⟩
theorem ok140 : FnOk Tryz.prog c F (140, 140, r140) := ⟨Tryz.f140, [], [], Tryz.func140, by kernel_rfl, by kernel_rfl, by kernel_rfl⟩
theorem ok141 : FnOk Tryz.prog c F (141, 149, r141) := ⟨Tryz.f149, [], [], Tryz.func149, by kernel_rfl, by kernel_rfl, by kernel_rfl⟩
theorem ok142 : FnOk Tryz.prog c F (142, 150, r142) := ⟨Tryz.f150, [], [], Tryz.func150, by kernel_rfl, by kernel_rfl, by kernel_rfl⟩
theorem okT : (c.T.all fun x => x.2.okB Tryz.prog (mkCfgZ Tryz.prog tab ptab tags).ET (mkCfgZ Tryz.prog tab ptab tags).SZ x.1) = true := by kernel_rfl
theorem okF : (c.F.all fun x => decide ((mkCfgZ Tryz.prog tab ptab tags).G x.2 = some x.1)) = true := by kernel_rfl
theorem okTab : AllT (FnOk Tryz.prog c F) tab := ⟨ok380, ok382, ok381, ok154, ok155, ok109, ok158, ok191, ok292, ok387, ok317, ok156, ok5, ok211, ok228, ok243, ok323, ok324, ok325, ok326, ok388, ok389, ok390, ok391, ok328, ok374, ok203, ok205, ok207, ok230, ok322, ok206, ok320, ok212, ok266, ok395, ok267, ok342, ok204, ok259, ok241, ok335, ok336, ok242, ok111, ok112, ok114, ok261, ok232, ok262, ok234, ok7, ok244, ok229, ok248, ok247, ok272, ok337, ok338, ok339, ok340, ok398, ok399, ok400, ok401, ok275, ok273, ok274, ok128, ok129, ok130, ok131, ok133, ok134, ok265, ok260, ok345, ok344, ok346, ok347, ok402, ok403, ok404, ok405, ok276, ok277, ok136, ok137, ok138, ok139, ok140, ok141, ok142, trivial⟩
theorem okP : AllT (PFn Tryz.prog F) ptab := ⟨⟨⟨Tryz.f61, Tryz.func61, by kernel_rfl, by kernel_rfl⟩, rfl, step_sort _ _⟩, ⟨⟨Tryz.f115, Tryz.func115, by kernel_rfl, by kernel_rfl⟩, rfl, step_ins _ _⟩, ⟨⟨Tryz.f143, Tryz.func143, by kernel_rfl, by kernel_rfl⟩, rfl, step_del _⟩, trivial⟩
theorem prog (O : Nat) : ProgOk ((mkCfgZ Tryz.prog tab ptab tags).at O) c F (primZ ptab) :=
  mkProgZ okT okF okTab okP ⟨⟨Tryz.f45, Tryz.func45, by kernel_rfl, by kernel_rfl, by kernel_rfl, by kernel_rfl⟩, trivial⟩ ⟨⟨by kernel_rfl, by kernel_rfl, by kernel_rfl⟩, trivial⟩ O ⟨sort_sound (ρ := (renS [(6, 61), (14, 98), (15, 99), (20, 124), (21, 125), (22, 126), (23, 127), (24, 128), (25, 129), (26, 130), (27, 131), (28, 132), (29, 133), (46, 144), (47, 145), (48, 146), (49, 147), (50, 148), (57, 152)] [(0, 0), (3, 3), (4, 4), (5, 5), (9, 9), (22, 58), (24, 66), (25, 94), (39, 119), (45, 142), (46, 143), (50, 95), (53, 149), (55, 30), (66, 159), (70, 163), (76, 168), (77, 169)])) (g := 62) rfl p375 Tryz.isAgg66 Tryz.sizeOf66 rfl (fun args w => enter_run (prog2 0).cc (g := 267) rfl args) cmpF, ins_ok (ρ := renI 115 141 142 3 4 76 55) (k := 5) rfl rfl p343, del_ok (ρ := renD 143 3 4 76 55) (k := 5) rfl rfl p348, trivial⟩
theorem pr375 : PrimAt F (primZ ptab) 375 (sortF 9 267) := primAt (ptab := ptab) (n := 375) (x := (61, (sortF 9 267))) rfl rfl
theorem pr343 : PrimAt F (primZ ptab) 343 (insF 11 40) := primAt (ptab := ptab) (n := 343) (x := (115, (insF 11 40))) rfl rfl
theorem pr348 : PrimAt F (primZ ptab) 348 (delF 11) := primAt (ptab := ptab) (n := 348) (x := (143, (delF 11))) rfl rfl
end Go.Proofs.YtahkgghifaodoaaGreat.A.ExactDoStore
namespace Go.Proofs.YtahkgghifaodoaaGreat.A
open Go
set_option linter.unusedSimpArgs false
set_option linter.unusedVariables false
set_option maxHeartbeats 2000000 in
theorem law_ExactDoStore {F : Nat → Option RF} {Z : CallF} (hI10 : Has F tI10) (hI11 : Has F tI11) (hI13 : Has F tI13) (hLAccount : Has F tLAccount) (hLBook : Has F tLBook) (hLFin : Has F tLFin) (hLRequest : Has F tLRequest) (hLShard : Has F tLShard) (hLStore : Has F tLStore) (hLibcmpCompareint : Has F tLibcmpCompareint) (hLibcmpCompareuint64 : Has F tLibcmpCompareuint64) (hLibcmpOrint : Has F tLibcmpOrint) (hLibcmpisNaNint : Has F tLibcmpisNaNint) (hLibcmpisNaNuint64 : Has F tLibcmpisNaNuint64) (hLibslicesContainsimplFinimplFin : Has F tLibslicesContainsimplFinimplFin) (hLibslicesIndexFuncimplShardimplShard : Has F tLibslicesIndexFuncimplShardimplShard) (hLibslicesIndeximplFinimplFin : Has F tLibslicesIndeximplFinimplFin) (hS01d : Has F tS01d) (hS10 : Has F tS10) (hS13 : Has F tS13) (hWDoStore : Has F tWDoStore) (pr343 : PrimAt F Z 343 (insF 11 40)) (pr348 : PrimAt F Z 348 (delF 11)) (pr375 : PrimAt F Z 375 (sortF 9 267)) (h : Heap) (avs : List V) (hfl : h.floor = h.next) (w : ArgsWf h 8 [shStore, shRequest] avs) : ∃ h', call F Z 380 avs h = some (.c (.bool true), h') := by
  obtain ⟨sc, _, rfl, sw, w1⟩ := ArgsWf.struct w
  obtain ⟨s, sp, sv, sok⟩ := Wf.isStore sw
  obtain ⟨sl1, sl2, sl3⟩ := Store.lenL sv
  obtain ⟨qc, _, rfl, qw, w2⟩ := ArgsWf.struct w1
  obtain ⟨q, rfl, qok⟩ := Wf.isRequest qw
  obtain rfl := w2.nil
  have f0 : h.floor ≤ h.next := by omega
  rw [call_run F Z (hWDoStore.lk (g := 380) rfl) _ _ rfl]
  obtain ⟨l0, s0, s0l, s0k⟩ := szStore_c hLStore hLShard hLBook hLAccount hLFin (Z := Z) sv 1048576 (by omega) (by omega)
  simp only [rn, RO.dst, lk, drop, Nat.reduceBEq, Nat.reduceAdd, Nat.reduceLeDiff, ↓reduceIte, reduceCtorEq, s0, toRequest_run hLRequest, Request.len, Request.tak, sl1, sl2, sl3]
  by_cases hn0 : l0 < 0
  · simp only [rn, RO.dst, lk, drop, Nat.reduceBEq, Nat.reduceAdd, Nat.reduceLeDiff, ↓reduceIte, reduceCtorEq, hn0]
    exact ⟨_, rfl⟩
  have sm0 := s0k (by omega)
  have flr : h.floor = h.next := hfl
  have Tsv := Store.okL.lt sv
  obtain ⟨y1, hq1, p1, e1, oq1, vq1, qq1⟩ := toStore_c hLStore hLShard hLBook hLAccount hLFin (Z := Z) (h := ⟨h.next, h.next, h.get⟩) (Nat.le_refl _) (Store.okL.up sv _) sm0
  obtain ⟨h1, mq1⟩ : ∃ g, Heap.mk hq1.next h.floor hq1.get = g := ⟨_, rfl⟩
  have o1 : On h h1 := by rw [← mq1]; exact ⟨⟨oq1.ext.1, oq1.ext.2⟩, rfl⟩
  have v1 := Store.okI.up vq1 h.floor
  rw [mq1] at v1
  have q1 : Fre h p1 := ⟨qq1.lo, qq1.nd⟩
  replace sv := Store.okL.on sv o1
  have n1 := o1.ext.1
  have g1 := o1.fl
  have f1 := o1.le f0
  obtain ⟨vl1, vt1, vd1⟩ := Store.lenI v1
  obtain ⟨r2_0, hq2, p2_0, e2, oq2, vq2_0, qq2_0⟩ := sDoStore_c ⟨hS01d, hS10, hS13⟩ (Z := Z) (h := ⟨h1.next, h1.next, h1.get⟩) (Nat.le_refl _) (Store.okI.up v1 _) q qok sok sm0
  obtain ⟨h2, mq2⟩ : ∃ g, Heap.mk hq2.next h1.floor hq2.get = g := ⟨_, rfl⟩
  have o2 : On h1 h2 := by rw [← mq2]; exact ⟨⟨oq2.ext.1, oq2.ext.2⟩, rfl⟩
  have v2_0 := Store.okI.up vq2_0 h1.floor
  rw [mq2] at v2_0
  have q2_0 : Fre h1 p2_0 := ⟨qq2_0.lo, qq2_0.nd⟩
  replace sv := Store.okL.on sv o2
  replace v1 := Store.okI.on v1 o2
  have n2 := o2.ext.1
  have g2 := o2.fl
  have f2 := o2.le f1
  have Tv2_0 := Store.okI.lt v2_0
  obtain ⟨vl2_0, vt2_0, vd2_0⟩ := Store.lenI v2_0
  obtain ⟨y3, h3, p3, e3, o3, v3, q3⟩ := toStore_c hLStore hLShard hLBook hLAccount hLFin (Z := Z) f2 sv sm0
  replace sv := Store.okL.on sv o3
  replace v1 := Store.okI.on v1 o3
  replace v2_0 := Store.okI.on v2_0 o3
  have n3 := o3.ext.1
  have g3 := o3.fl
  have f3 := o3.le f2
  have Tv3 := Store.okI.lt v3
  obtain ⟨vl3, vt3, vd3⟩ := Store.lenI v3
  obtain ⟨r4_0, hq4, p4_0, e4, oq4, vq4_0, qq4_0⟩ := DoStore_c ⟨hI10, hI11, hI13, hLibcmpCompareint, hLibcmpCompareuint64, hLibcmpOrint, hLibcmpisNaNint, hLibcmpisNaNuint64, hLibslicesIndeximplFinimplFin, hLibslicesContainsimplFinimplFin⟩ hLibslicesIndexFuncimplShardimplShard pr343 pr348 pr375 (Z := Z) (h := ⟨h3.next, h3.next, h3.get⟩) (Nat.le_refl _) (Store.okI.up v3 _) q qok sok sm0
  obtain ⟨h4, mq4⟩ : ∃ g, Heap.mk hq4.next h3.floor hq4.get = g := ⟨_, rfl⟩
  have o4 : On h3 h4 := by rw [← mq4]; exact ⟨⟨oq4.ext.1, oq4.ext.2⟩, rfl⟩
  have v4_0 := Store.okI.up vq4_0 h3.floor
  rw [mq4] at v4_0
  have q4_0 : Fre h3 p4_0 := ⟨qq4_0.lo, qq4_0.nd⟩
  replace sv := Store.okL.on sv o4
  replace v1 := Store.okI.on v1 o4
  replace v2_0 := Store.okI.on v2_0 o4
  replace v3 := Store.okI.on v3 o4
  have n4 := o4.ext.1
  have g4 := o4.fl
  have f4 := o4.le f3
  obtain ⟨vl4_0, vt4_0, vd4_0⟩ := Store.lenI v4_0
  have c1 := eqStore_r hLStore hLShard hLBook hLAccount hLFin (Z := Z) v4_0 v2_0
  obtain ⟨y5, hq5, p5, e5, oq5, vq5, qq5⟩ := toStore_c hLStore hLShard hLBook hLAccount hLFin (Z := Z) (h := ⟨h4.next, h4.next, h4.get⟩) (Nat.le_refl _) (Store.okL.up sv _) sm0
  obtain ⟨h5, mq5⟩ : ∃ g, Heap.mk hq5.next h4.floor hq5.get = g := ⟨_, rfl⟩
  have o5 : On h4 h5 := by rw [← mq5]; exact ⟨⟨oq5.ext.1, oq5.ext.2⟩, rfl⟩
  have v5 := Store.okI.up vq5 h4.floor
  rw [mq5] at v5
  have q5 : Fre h4 p5 := ⟨qq5.lo, qq5.nd⟩
  replace sv := Store.okL.on sv o5
  replace v1 := Store.okI.on v1 o5
  replace v2_0 := Store.okI.on v2_0 o5
  replace v3 := Store.okI.on v3 o5
  replace v4_0 := Store.okI.on v4_0 o5
  have n5 := o5.ext.1
  have g5 := o5.fl
  have f5 := o5.le f4
  obtain ⟨vl5, vt5, vd5⟩ := Store.lenI v5
  have c2 := eqStore_r hLStore hLShard hLBook hLAccount hLFin (Z := Z) (h := ⟨h5.next, h5.next, h5.get⟩) (Store.okI.up v3 _) (Store.okI.up v5 _)
  have hb1 := Store.wt_le sm0
  have hb2 := s.wt_nn
  have hb3 := Store.wt_le (doStore_small sm0 q)
  have hb4 := (doStore s q).1.wt_nn
  have lo6 : ∀ id, id ∈ p3 → h5.floor ≤ id := fun id hid => by have := q3.lo id hid; omega
  obtain ⟨h6, m6, k6, u6⟩ := markStore_r hLStore hLShard hLBook hLAccount hLFin (Z := Z) v3 q3.nd lo6 (1) (by omega) (by omega)
  replace sv := Store.okL.mk' sv k6 fun id h1 h2 => by have a1 := q3.lo id h2; have a2 := Tsv id h1; omega
  replace v2_0 := Store.okI.mk' v2_0 k6 fun id h1 h2 => by have a1 := q3.lo id h2; have a2 := Tv2_0 id h1; omega
  replace v4_0 := Store.okI.mk' v4_0 k6 fun id h1 h2 => by have a1 := q3.lo id h2; have a2 := Tv3 id h2; have a3 := q4_0.lo id h1; omega
  have n6 := k6.next
  have g6 := k6.fl
  have f6 : h6.floor ≤ h6.next := by omega
  replace v3 := u6
  have hk6 : ¬ (1 + s.wt : Int) < 0 := by omega
  have c3 := eqStore_r hLStore hLShard hLBook hLAccount hLFin (Z := Z) v4_0 v2_0
  have lo7 : ∀ id, id ∈ p4_0 → h6.floor ≤ id := fun id hid => by have := q4_0.lo id hid; omega
  obtain ⟨h7, m7, k7, u7⟩ := markStore_r hLStore hLShard hLBook hLAccount hLFin (Z := Z) v4_0 q4_0.nd lo7 (1) (by omega) (by omega)
  replace sv := Store.okL.mk' sv k7 fun id h1 h2 => by have a1 := q4_0.lo id h2; have a2 := Tsv id h1; omega
  replace v2_0 := Store.okI.mk' v2_0 k7 fun id h1 h2 => by have a1 := q4_0.lo id h2; have a2 := Tv2_0 id h1; omega
  have n7 := k7.next
  have g7 := k7.fl
  have f7 : h7.floor ≤ h7.next := by omega
  replace v4_0 := u7
  have hkk : ¬ (1 + ((doStore s q).1).wt : Int) < 0 := by omega
  have d4 := heldStore_r hLStore hLShard hLBook hLAccount hLFin (Z := Z) v4_0 (by omega) (by omega)
  have hh5 : ¬ (1 + ((doStore s q).1).wt : Int) < 0 := by omega
  obtain ⟨y8, hq8, p8, e8, oq8, vq8, qq8⟩ := toStore_c hLStore hLShard hLBook hLAccount hLFin (Z := Z) (h := ⟨h7.next, h7.next, h7.get⟩) (Nat.le_refl _) (Store.okL.up sv _) sm0
  obtain ⟨h8, mq8⟩ : ∃ g, Heap.mk hq8.next h7.floor hq8.get = g := ⟨_, rfl⟩
  have o8 : On h7 h8 := by rw [← mq8]; exact ⟨⟨oq8.ext.1, oq8.ext.2⟩, rfl⟩
  have v8 := Store.okI.up vq8 h7.floor
  rw [mq8] at v8
  have q8 : Fre h7 p8 := ⟨qq8.lo, qq8.nd⟩
  replace sv := Store.okL.on sv o8
  replace v2_0 := Store.okI.on v2_0 o8
  replace v4_0 := Store.okI.on v4_0 o8
  have n8 := o8.ext.1
  have g8 := o8.fl
  have f8 := o8.le f7
  obtain ⟨vl8, vt8, vd8⟩ := Store.lenI v8
  obtain ⟨r9_0, hq9, p9_0, e9, oq9, vq9_0, qq9_0⟩ := DoStore_c ⟨hI10, hI11, hI13, hLibcmpCompareint, hLibcmpCompareuint64, hLibcmpOrint, hLibcmpisNaNint, hLibcmpisNaNuint64, hLibslicesIndeximplFinimplFin, hLibslicesContainsimplFinimplFin⟩ hLibslicesIndexFuncimplShardimplShard pr343 pr348 pr375 (Z := Z) (h := ⟨h8.next, h8.next, h8.get⟩) (Nat.le_refl _) (Store.okI.up v8 _) q qok sok sm0
  obtain ⟨h9, mq9⟩ : ∃ g, Heap.mk hq9.next h8.floor hq9.get = g := ⟨_, rfl⟩
  have o9 : On h8 h9 := by rw [← mq9]; exact ⟨⟨oq9.ext.1, oq9.ext.2⟩, rfl⟩
  have v9_0 := Store.okI.up vq9_0 h8.floor
  rw [mq9] at v9_0
  have q9_0 : Fre h8 p9_0 := ⟨qq9_0.lo, qq9_0.nd⟩
  replace sv := Store.okL.on sv o9
  replace v2_0 := Store.okI.on v2_0 o9
  replace v4_0 := Store.okI.on v4_0 o9
  replace v8 := Store.okI.on v8 o9
  have n9 := o9.ext.1
  have g9 := o9.fl
  have f9 := o9.le f8
  obtain ⟨vl9_0, vt9_0, vd9_0⟩ := Store.lenI v9_0
  have c6 := eqStore_r hLStore hLShard hLBook hLAccount hLFin (Z := Z) v9_0 v2_0
  have d7 := heldStore_r hLStore hLShard hLBook hLAccount hLFin (Z := Z) v4_0 (by omega) (by omega)
  have hh8 : ¬ (1 + ((doStore s q).1).wt : Int) < 0 := by omega
  simp only [rn, RO.dst, lk, drop, Nat.reduceBEq, Nat.reduceAdd, Nat.reduceLeDiff, ↓reduceIte, reduceCtorEq, hn0, toRequest_run hLRequest, Request.len, Request.tak, sl1, sl2, sl3, mq1, e1, vl1, vt1, vd1, mq2, e2, vl2_0, vt2_0, vd2_0, e3, vl3, vt3, vd3, mq4, e4, vl4_0, vt4_0, vd4_0, c1, mq5, e5, vl5, vt5, vd5, c2, m6, hk6, c3, m7, hkk, d4, hh5, mq8, e8, vl8, vt8, vd8, mq9, e9, vl9_0, vt9_0, vd9_0, c6, d7, hh8]
  exact ⟨_, rfl⟩
end Go.Proofs.YtahkgghifaodoaaGreat.A
namespace Go.Proofs.YtahkgghifaodoaaGreat.A.ExactDoStore
open Go Go.ChangeShapes Go.WideShapes Go.ChangeAt Go.RowKit
theorem own : ownKnob Tryz.prog.godebug = none := by kernel_rfl
set_option maxRecDepth 100000 in
theorem lifted (os : Os) (started : os.Started) (H : Type) (enc : TypeId × Value → H) :
    ReturnsInHanded {} Tryz.checked os 5 .any (Rows.fnExactDoStoreSpec.pre6 enc Tryz.prog Tryz.f5 Rows.fnExactDoStoreRow.domain false) (Rows.fnExactDoStoreSpec.post enc Tryz.prog Tryz.f5 false true false false) := by
  refine returnsInHanded_of_change_sized (C := Tryz.checked) own started (by kernel_rfl) Tryz.func5
    (ChangeSpec.witness6 (enc := enc) (C := Tryz.checked) false ⟨#[], #[.agg #[.int .i64 0, .int .i64 0, .slice none 0 0], .agg #[.int .i64 0, .int .i64 0, .int .u64 0, .int .u64 0, .int .i64 0]], []⟩ 8 (by kernel_rfl) (by kernel_rfl) (by kernel_rfl) (by kernel_rfl)) ?_
  intro W base args ds gs before hval hW _ _ _
  have hW' := hW
  obtain ⟨p, q, hA, hV, rfl, hfz, hnd⟩ := hW
  obtain ⟨rfl, rfl⟩ := trodVars_none hV
  have r0 : DataW.TrodAll enc Tryz.prog W 0 (fun _ => true) true [42, 43] args.toList ds p := hA
  obtain ⟨_, _, d0, _, _, _, _, rfl, _, _, r1⟩ := trodAll_cons r0
  obtain ⟨_, _, d1, _, _, _, _, rfl, _, _, r2⟩ := trodAll_cons r1
  obtain ⟨_, rfl, _⟩ := trodAll_nil r2
  refine (law_calls (ts := [42, 43]) (ss := [shStore, shRequest]) prog (show (mkCfgZ Tryz.prog tab ptab tags).G 380 = some 5 from by kernel_rfl) ⟨show shIs Tryz.prog (mkCfgZ Tryz.prog tab ptab tags).ET (mkCfgZ Tryz.prog tab ptab tags).SZ 8 42 shStore = true from by kernel_rfl, show shIs Tryz.prog (mkCfgZ Tryz.prog tab ptab tags).ET (mkCfgZ Tryz.prog tab ptab tags).SZ 8 43 shRequest = true from by kernel_rfl, trivial⟩ (law_ExactDoStore inI10 inI11 inI13 inLAccount inLBook inLFin inLRequest inLShard inLStore inLibcmpCompareint inLibcmpCompareuint64 inLibcmpOrint inLibcmpisNaNint inLibcmpisNaNuint64 inLibslicesContainsimplFinimplFin inLibslicesIndexFuncimplShardimplShard inLibslicesIndeximplFinimplFin inS01d inS10 inS13 inWDoStore pr343 pr348 pr375) (fun j t v h1 => hval j t v (by rw [Tryz.params5]; exact (List.getElem?_toArray ..).trans h1)) hA).mono fun e W' ⟨he, bel⟩ => ?_
  subst he
  exact ⟨_, rfl, _, _, _, [], _, [], hW', trodAll_mk1 (shut_bool Tryz.underlying4 _), trodAll_below (by kernel_rfl) bel _ _ _ _ (by kernel_rfl) hA hA.lt, rfl, bel.frame _, fun h => by cases h⟩
theorem over : Rows.fnExactDoStoreRow.holds Tryz.pinned (OpenSpec.ofChange Rows.fnExactDoStoreSpec) :=
  OpenClaim.holds_of_wide 5 Tryz.f5 rfl rfl rfl rfl rfl rfl rfl ⟨rfl, rfl, rfl, rfl, rfl⟩ rfl rfl rfl rfl rfl (by kernel_rfl) Tryz.func5 (by kernel_rfl)
    (of_decide_eq_true (by kernel_rfl)) (by unfold Func.isWrapper; first | (rw [if_pos (by decide +kernel)]; kernel_rfl) | (rw [if_neg (by decide +kernel)]; exact ⟨rfl, rfl⟩))
    (fun os started H enc _ => lifted os started H enc)
end Go.Proofs.YtahkgghifaodoaaGreat.A.ExactDoStore
namespace Go.Proofs.YtahkgghifaodoaaGreat
/-- The row. -/
theorem fnExactDoStore_holds : Rows.FnExactDoStoreSaid := A.ExactDoStore.over
#print axioms fnExactDoStore_holds
end Go.Proofs.YtahkgghifaodoaaGreat
