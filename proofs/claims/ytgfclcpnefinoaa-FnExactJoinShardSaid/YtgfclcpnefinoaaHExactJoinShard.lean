/- FnExactJoinShard: the statement, from the law of the abstract run. No condition. -/
import Derived.Test.YtgfclcpnefinoaaHCExactJoinShard2
import Derived.Test.YtgfclcpnefinoaaB6
import Derived.Test.YtgfclcpnefinoaaZ7
import Derived.Test.YtgfclcpnefinoaaProg
import Derived.Test.YtgfclcpnefinoaaRows
import Derived.ProofKit
import Derived.OpenShut
import Derived.ShutString
import Derived.ChangeOld
import Derived.Below
import Derived.SizedLaws
namespace Go.Proofs.Ytgfclcpnefinoaa.A.ExactJoinShard
open Go
def c : CC where
  T := [(3, ⟨1, 8, false, some [.int .i64 0], (.int .i64)⟩),
    (4, ⟨1, 1, false, some [.bool false], .bool⟩),
    (22, ⟨1, 8, false, some [.int .u64 0], (.int .u64)⟩),
    (25, ⟨1, 24, false, some [.nil], (.slice 89 20)⟩),
    (27, ⟨3, 40, true, some [.int .i64 0, .int .i64 0, .nil], (.struct [(0, 1, false), (1, 1, false), (2, 1, false)])⟩),
    (28, ⟨1, 24, false, some [.nil], (.slice 3 15)⟩),
    (31, ⟨1, 24, false, some [.nil], (.slice 58 16)⟩),
    (33, ⟨3, 40, true, some [.int .i64 0, .int .i64 0, .nil], (.struct [(0, 1, false), (1, 1, false), (2, 1, false)])⟩),
    (53, ⟨1, 24, false, some [.nil], (.slice 75 11)⟩),
    (55, ⟨1, 24, true, some [.nil], (.struct [(0, 1, false)])⟩),
    (56, ⟨1, 24, false, some [.nil], (.slice 78 9)⟩),
    (58, ⟨6, 80, true, some [.int .u64 0, .int .u64 0, .int .i64 0, .int .i64 0, .nil, .nil], (.struct [(0, 1, false), (1, 1, false), (2, 1, false), (3, 1, false), (4, 1, true), (5, 1, false)])⟩),
    (75, ⟨5, 40, true, some [.int .u64 0, .int .u64 0, .int .u64 0, .int .u64 0, .int .i64 0], (.struct [(0, 1, false), (1, 1, false), (2, 1, false), (3, 1, false), (4, 1, false)])⟩),
    (78, ⟨2, 16, true, some [.int .i64 0, .int .u64 0], (.struct [(0, 1, false), (1, 1, false)])⟩),
    (84, ⟨1, 24, false, some [.nil], (.slice 147 12)⟩),
    (86, ⟨1, 24, true, some [.nil], (.struct [(0, 1, false)])⟩),
    (87, ⟨1, 24, false, some [.nil], (.slice 134 10)⟩),
    (89, ⟨6, 80, true, some [.int .u64 0, .int .u64 0, .int .i64 0, .int .i64 0, .nil, .nil], (.struct [(0, 1, false), (1, 1, false), (2, 1, false), (3, 1, false), (4, 1, true), (5, 1, false)])⟩),
    (134, ⟨2, 16, true, some [.int .i64 0, .int .u64 0], (.struct [(0, 1, false), (1, 1, false)])⟩),
    (147, ⟨5, 40, true, some [.int .u64 0, .int .u64 0, .int .u64 0, .int .u64 0, .int .i64 0], (.struct [(0, 1, false), (1, 1, false), (2, 1, false), (3, 1, false), (4, 1, false)])⟩)]
  F := [(4, 363), (5, 154), (8, 155), (12, 158), (14, 191), (16, 292), (17, 364), (18, 365), (19, 203), (21, 156), (22, 317), (26, 205), (27, 320), (29, 206), (34, 207), (35, 230), (36, 322), (37, 210), (38, 316), (39, 228), (40, 374), (41, 318), (42, 213), (43, 319), (44, 375), (45, 267), (46, 330), (47, 321), (48, 111), (49, 5), (50, 204), (55, 112), (56, 229), (57, 7), (58, 244), (64, 114), (65, 261), (66, 232), (67, 262), (68, 234), (69, 259), (70, 243), (71, 242), (72, 248), (73, 249), (76, 275), (77, 273), (78, 274), (79, 128), (80, 129), (81, 241), (82, 130), (83, 131), (84, 260), (85, 265), (86, 266), (88, 133), (89, 134), (100, 276), (101, 277), (102, 136), (103, 137), (104, 138), (106, 272), (109, 139), (110, 140), (116, 141), (118, 142)]
  eqT := [(78, [.i .i64, .i .u64])]
  adds := [105]
def F : Nat → Option RF := lk (tI10 ++ tI11 ++ tI13 ++ tLAccount ++ tLBook ++ tLFin ++ tLShard ++ tLStore ++ tLibcmpCompareint ++ tLibcmpCompareuint64 ++ tLibcmpOrint ++ tLibcmpisNaNint ++ tLibcmpisNaNuint64 ++ tLibslicesContainsimplFinimplFin ++ tLibslicesIndexFuncimplShardimplShard ++ tLibslicesIndeximplFinimplFin ++ tS01d ++ tS10 ++ tS13 ++ tWJoinShard)
def tab : List (Nat × FuncId × RF) := [(363, 4, r363), (154, 5, r154), (155, 8, r155), (158, 12, r158), (191, 14, r191), (292, 16, r292), (364, 17, r364), (365, 18, r365), (203, 19, r203), (205, 26, r205), (207, 34, r207), (230, 35, r230), (322, 36, r322), (317, 22, r317), (210, 37, r210), (316, 38, r316), (228, 39, r228), (374, 40, r374), (318, 41, r318), (320, 27, r320), (213, 42, r213), (319, 43, r319), (267, 45, r267), (321, 47, r321), (111, 48, r111), (112, 55, r112), (114, 64, r114), (261, 65, r261), (232, 66, r232), (262, 67, r262), (234, 68, r234), (156, 21, r156), (5, 49, r5), (259, 69, r259), (243, 70, r243), (242, 71, r242), (229, 56, r229), (248, 72, r248), (249, 73, r249), (206, 29, r206), (275, 76, r275), (273, 77, r273), (274, 78, r274), (128, 79, r128), (129, 80, r129), (130, 82, r130), (131, 83, r131), (133, 88, r133), (134, 89, r134), (204, 50, r204), (260, 84, r260), (7, 57, r7), (244, 58, r244), (276, 100, r276), (277, 101, r277), (136, 102, r136), (137, 103, r137), (138, 104, r138), (139, 109, r139), (140, 110, r140), (241, 81, r241), (265, 85, r265), (266, 86, r266), (141, 116, r141), (142, 118, r142), (272, 106, r272)]
def tags : List (Nat × TypeId × Nat) := [(9, 78, 2), (10, 134, 2), (11, 75, 5), (12, 147, 5), (15, 3, 1), (16, 58, 6), (20, 89, 6)]
theorem inI10 : AllT (fun x => F x.1 = some x.2) tI10 := ⟨rfl, rfl, trivial⟩
theorem inI11 : AllT (fun x => F x.1 = some x.2) tI11 := ⟨rfl, trivial⟩
theorem inI13 : AllT (fun x => F x.1 = some x.2) tI13 := ⟨rfl, rfl, rfl, rfl, rfl, rfl, rfl, rfl, rfl, rfl, trivial⟩
theorem inLAccount : AllT (fun x => F x.1 = some x.2) tLAccount := ⟨rfl, rfl, rfl, rfl, rfl, rfl, rfl, trivial⟩
theorem inLBook : AllT (fun x => F x.1 = some x.2) tLBook := ⟨rfl, rfl, rfl, trivial⟩
theorem inLFin : AllT (fun x => F x.1 = some x.2) tLFin := ⟨rfl, rfl, rfl, rfl, rfl, rfl, rfl, trivial⟩
theorem inLShard : AllT (fun x => F x.1 = some x.2) tLShard := ⟨rfl, rfl, rfl, rfl, rfl, rfl, rfl, rfl, trivial⟩
theorem inLStore : AllT (fun x => F x.1 = some x.2) tLStore := ⟨rfl, rfl, rfl, rfl, rfl, trivial⟩
theorem inLibcmpCompareint : AllT (fun x => F x.1 = some x.2) tLibcmpCompareint := ⟨rfl, trivial⟩
theorem inLibcmpCompareuint64 : AllT (fun x => F x.1 = some x.2) tLibcmpCompareuint64 := ⟨rfl, trivial⟩
theorem inLibcmpOrint : AllT (fun x => F x.1 = some x.2) tLibcmpOrint := ⟨rfl, trivial⟩
theorem inLibcmpisNaNint : AllT (fun x => F x.1 = some x.2) tLibcmpisNaNint := ⟨rfl, trivial⟩
theorem inLibcmpisNaNuint64 : AllT (fun x => F x.1 = some x.2) tLibcmpisNaNuint64 := ⟨rfl, trivial⟩
theorem inLibslicesContainsimplFinimplFin : AllT (fun x => F x.1 = some x.2) tLibslicesContainsimplFinimplFin := ⟨rfl, trivial⟩
theorem inLibslicesIndexFuncimplShardimplShard : AllT (fun x => F x.1 = some x.2) tLibslicesIndexFuncimplShardimplShard := ⟨rfl, trivial⟩
theorem inLibslicesIndeximplFinimplFin : AllT (fun x => F x.1 = some x.2) tLibslicesIndeximplFinimplFin := ⟨rfl, trivial⟩
theorem inS01d : AllT (fun x => F x.1 = some x.2) tS01d := ⟨rfl, trivial⟩
theorem inS10 : AllT (fun x => F x.1 = some x.2) tS10 := ⟨rfl, rfl, trivial⟩
theorem inS13 : AllT (fun x => F x.1 = some x.2) tS13 := ⟨rfl, rfl, rfl, rfl, rfl, rfl, rfl, rfl, rfl, rfl, rfl, trivial⟩
theorem inWJoinShard : AllT (fun x => F x.1 = some x.2) tWJoinShard := ⟨rfl, trivial⟩
open Go.Shelf
def ptab : List (Nat × FuncId × PrimF) := [(375, 44, (sortF 9 267)), (330, 46, (delF 16))]
theorem i78 : (Try.prog.info? 78).isSome = true := by kernel_rfl
noncomputable def inf78 : TypeInfo := (Try.prog.info? 78).get i78
theorem z78 : inf78.zero.isSome = true := by kernel_rfl
noncomputable def zv78 : Value := inf78.zero.get z78
theorem p375 : SlLaysF0.n6 Try.prog (renS [(6, 44), (14, 74), (15, 75), (20, 90), (21, 91), (22, 92), (23, 93), (24, 94), (25, 95), (26, 96), (27, 97), (28, 98), (29, 99), (46, 111), (47, 112), (48, 113), (49, 114), (50, 115), (57, 119)] [(0, 0), (3, 3), (4, 4), (5, 5), (9, 9), (22, 56), (24, 78), (25, 81), (39, 107), (45, 120), (46, 121), (50, 125), (53, 128), (55, 22), (66, 140), (70, 144), (76, 149), (77, 150)]) where
  mixed := by kernel_rfl
  f6 := ⟨(Try.prog.funcs[44]?.map (·.name)).getD "", by kernel_rfl, by kernel_rfl⟩
  f14 := ⟨(Try.prog.funcs[74]?.map (·.name)).getD "", by kernel_rfl, by kernel_rfl⟩
  f15 := Try.func75.trans (congrArg some (by kernel_rfl))
  f20 := ⟨(Try.prog.funcs[90]?.map (·.name)).getD "", by kernel_rfl, by kernel_rfl⟩
  f21 := ⟨(Try.prog.funcs[91]?.map (·.name)).getD "", by kernel_rfl, by kernel_rfl⟩
  f22 := ⟨(Try.prog.funcs[92]?.map (·.name)).getD "", by kernel_rfl, by kernel_rfl⟩
  f23 := ⟨(Try.prog.funcs[93]?.map (·.name)).getD "", by kernel_rfl, by kernel_rfl⟩
  f24 := ⟨(Try.prog.funcs[94]?.map (·.name)).getD "", by kernel_rfl, by kernel_rfl⟩
  f25 := ⟨(Try.prog.funcs[95]?.map (·.name)).getD "", by kernel_rfl, by kernel_rfl⟩
  f26 := ⟨(Try.prog.funcs[96]?.map (·.name)).getD "", by kernel_rfl, by kernel_rfl⟩
  f27 := ⟨(Try.prog.funcs[97]?.map (·.name)).getD "", by kernel_rfl, by kernel_rfl⟩
  f28 := Try.func98.trans (congrArg some (by kernel_rfl))
  f29 := Try.func99.trans (congrArg some (by kernel_rfl))
  f46 := ⟨(Try.prog.funcs[111]?.map (·.name)).getD "", by kernel_rfl, by kernel_rfl⟩
  f47 := Try.func112.trans (congrArg some (by kernel_rfl))
  f48 := Try.func113.trans (congrArg some (by kernel_rfl))
  f49 := ⟨(Try.prog.funcs[114]?.map (·.name)).getD "", by kernel_rfl, by kernel_rfl⟩
  f50 := ⟨(Try.prog.funcs[115]?.map (·.name)).getD "", by kernel_rfl, by kernel_rfl⟩
  f57 := ⟨(Try.prog.funcs[119]?.map (·.name)).getD "", by kernel_rfl, by kernel_rfl⟩
  t0 := Try.underlying0
  a0 := Try.isAgg0
  z0 := Try.sizeOf0
  v0 := Try.zeroValue0
  t3 := Try.underlying3
  a3 := Try.isAgg3
  z3 := Try.sizeOf3
  v3 := Try.zeroValue3
  t4 := Try.underlying4
  a4 := Try.isAgg4
  z4 := Try.sizeOf4
  v4 := Try.zeroValue4
  t5 := Try.underlying5
  a5 := Try.isAgg5
  z5 := Try.sizeOf5
  v5 := Try.zeroValue5
  t9 := Try.underlying9
  a9 := Try.isAgg9
  z9 := Try.sizeOf9
  v9 := Try.zeroValue9
  t22 := Try.underlying56
  a22 := Try.isAgg56
  z22 := Try.sizeOf56
  v22 := Try.zeroValue56
  t25 := Try.underlying81
  a25 := Try.isAgg81
  z25 := Try.sizeOf81
  v25 := Try.zeroValue81
  t39 := Try.underlying107
  a39 := Try.isAgg107
  z39 := Try.sizeOf107
  v39 := Try.zeroValue107
  t45 := Try.underlying120
  a45 := Try.isAgg120
  z45 := Try.sizeOf120
  v45 := Try.zeroValue120
  t46 := Try.underlying121
  a46 := Try.isAgg121
  z46 := Try.sizeOf121
  v46 := Try.zeroValue121
  t50 := Try.underlying125
  a50 := Try.isAgg125
  z50 := Try.sizeOf125
  v50 := Try.zeroValue125
  t53 := Try.underlying128
  a53 := Try.isAgg128
  z53 := Try.sizeOf128
  v53 := Try.zeroValue128
  t55 := Try.underlying22
  a55 := Try.isAgg22
  z55 := Try.sizeOf22
  v55 := Try.zeroValue22
  t66 := Try.underlying140
  a66 := Try.isAgg140
  z66 := Try.sizeOf140
  v66 := Try.zeroValue140
  t70 := Try.underlying144
  a70 := Try.isAgg144
  z70 := Try.sizeOf144
  v70 := Try.zeroValue144
  t76 := Try.underlying149
  a76 := Try.isAgg149
  z76 := Try.sizeOf149
  v76 := Try.zeroValue149
  t77 := Try.underlying150
  a77 := Try.isAgg150
  z77 := Try.sizeOf150
  v77 := Try.zeroValue150
def c2 : CC where
  T := [(3, ⟨1, 8, false, some [.int .i64 0], (.int .i64)⟩),
    (22, ⟨1, 8, false, some [.int .u64 0], (.int .u64)⟩),
    (28, ⟨1, 24, false, some [.nil], (.slice 3 15)⟩),
    (78, ⟨2, 16, true, some [.int .i64 0, .int .u64 0], (.struct [(0, 1, false), (1, 1, false)])⟩)]
  F := [(45, 267), (76, 275), (77, 273), (78, 274), (100, 276), (101, 277)]
  eqT := []
  adds := []
def tab2 : List (Nat × FuncId × RF) := [(267, 45, r267), (275, 76, r275), (273, 77, r273), (274, 78, r274), (276, 100, r276), (277, 101, r277)]
def tags2 : List (Nat × TypeId × Nat) := [(15, 3, 1)]
theorem qk267 : FnOk Try.prog c2 F (267, 45, r267) := ⟨Try.f45, [], [[0, 1, 2, 3, 5, 6, 7, 8, 4, 9, 10, 11, 12], [0, 1, 2, 3, 4, 5, 6, 7, 8, 9, 10, 11, 12], [], []], Try.func45, by kernel_rfl, by kernel_rfl, by kernel_rfl⟩
theorem qk275 : FnOk Try.prog c2 F (275, 76, r275) := ⟨Try.f76, [], [[3, 6, 7, 8]], Try.func76, by kernel_rfl, by kernel_rfl, by kernel_rfl⟩
theorem qk273 : FnOk Try.prog c2 F (273, 77, r273) := ⟨Try.f77, [], [], Try.func77, by kernel_rfl, by kernel_rfl, by kernel_rfl⟩
theorem qk274 : FnOk Try.prog c2 F (274, 78, r274) := ⟨Try.f78, [], [], Try.func78, by kernel_rfl, by kernel_rfl, by kernel_rfl⟩
theorem qk276 : FnOk Try.prog c2 F (276, 100, r276) := ⟨Try.f100, [], [], Try.func100, by kernel_rfl, by kernel_rfl, by kernel_rfl⟩
theorem qk277 : FnOk Try.prog c2 F (277, 101, r277) := ⟨Try.f101, [], [], Try.func101, by kernel_rfl, by kernel_rfl, by kernel_rfl⟩
theorem okT2 : (c2.T.all fun x => x.2.okB Try.prog (mkCfg Try.prog tab2 tags2).ET (mkCfg Try.prog tab2 tags2).SZ x.1) = true := by kernel_rfl
theorem okF2 : (c2.F.all fun x => decide ((lk tab2 x.2).map (·.1) = some x.1)) = true := by kernel_rfl
theorem okTab2 : AllT (FnOk Try.prog c2 F) tab2 := ⟨qk267, qk275, qk273, qk274, qk276, qk277, trivial⟩
theorem prog2 (O : Nat) : ProgOk ((mkCfg Try.prog tab2 tags2).at O) c2 F (fun _ _ _ => none) :=
  mkProg okT2 okF2 okTab2 ⟨⟩ trivial O
theorem cmpF (x y : Int × Int) (W : World) : Calls Try.prog 45 #[.agg (val2 x).toArray, .agg (val2 y).toArray] W fun e w' => e = .returned (.int .i64 (cmp2 x y)) ∧ ∃ q os', w' = Sort.grow (W.drewN q) os' :=
  fins_calls (prog2 0) (fid := 45) rfl inI13 inLibcmpCompareint inLibcmpCompareuint64 inLibcmpOrint inLibcmpisNaNint inLibcmpisNaNuint64 x y W
theorem i58 : (Try.prog.info? 58).isSome = true := by kernel_rfl
noncomputable def inf58 : TypeInfo := (Try.prog.info? 58).get i58
theorem z58 : inf58.zero.isSome = true := by kernel_rfl
noncomputable def zv58 : Value := inf58.zero.get z58
theorem p330 : Z.DelT Try.prog (renD 46 3 4 58 31) 6 zv58 where
  mixed := by kernel_rfl
  f45 := ⟨(Try.prog.funcs[46]?.map (·.name)).getD "", by kernel_rfl, by kernel_rfl⟩
  t3 := by kernel_rfl
  t4 := by kernel_rfl
  t22 := by kernel_rfl
  i23 := ⟨inf58, (Option.some_get i58).symm, by kernel_rfl, by kernel_rfl, by decide, (Option.some_get z58).symm, List.all_eq_true.1 (show (zv58.cells.toList.all (·.oneCell')) = true from by kernel_rfl)⟩
theorem ok363 : FnOk Try.prog c F (363, 4, r363) := ⟨Try.f4, [], [[0, 1, 2, 3, 4], [0, 1, 2, 3, 4], [], []], Try.func4, by kernel_rfl, by kernel_rfl, by kernel_rfl⟩
theorem ok154 : FnOk Try.prog c F (154, 5, r154) := ⟨Try.f5, [], [], Try.func5, by kernel_rfl, by kernel_rfl, by kernel_rfl⟩
theorem ok155 : FnOk Try.prog c F (155, 8, r155) := ⟨Try.f8, [], [], Try.func8, by kernel_rfl, by kernel_rfl, by kernel_rfl⟩
theorem ok158 : FnOk Try.prog c F (158, 12, r158) := ⟨Try.f12, [], [], Try.func12, by kernel_rfl, by kernel_rfl, by kernel_rfl⟩
theorem ok191 : FnOk Try.prog c F (191, 14, r191) := ⟨Try.f14, [], [], Try.func14, by kernel_rfl, by kernel_rfl, by kernel_rfl⟩
theorem ok292 : FnOk Try.prog c F (292, 16, r292) := ⟨Try.f16, [], [], Try.func16, by kernel_rfl, by kernel_rfl, by kernel_rfl⟩
theorem ok364 : FnOk Try.prog c F (364, 17, r364) := ⟨Try.f17, [], [[11, 12, 2, 3, 8, 0, 1, 4, 5, 6, 7, 9, 10, 13, 14], [0, 1, 2, 3, 4, 5, 11, 12, 13, 6, 7, 8, 9, 10, 14], [9], [], [2, 3, 6, 8, 10, 11, 12], [6, 0, 1, 2, 3, 4, 5, 7, 8, 9, 10, 11, 12, 13], [0, 1, 2, 3, 4, 5, 6, 7, 8, 9, 10, 11, 12, 13], [], [], [2, 3, 6, 8, 10, 11, 13], [4, 0, 1, 2, 3, 5, 6, 7, 8, 9], [0, 1, 2, 3, 4, 5, 6, 7, 8, 9], [], [], [2, 3, 6, 8, 11, 14, 15], [4, 0, 1, 2, 3, 5, 6, 7, 8, 9, 10, 11], [0, 1, 2, 3, 4, 5, 6, 7, 8, 9, 10, 11], [], []], Try.func17, by kernel_rfl, by kernel_rfl, by kernel_rfl⟩
theorem ok365 : FnOk Try.prog c F (365, 18, r365) := ⟨Try.f18, [], [[11, 12, 2, 3, 8, 0, 1, 4, 5, 6, 7, 9, 10, 13, 14], [0, 1, 2, 3, 4, 5, 11, 12, 13, 6, 7, 8, 9, 10, 14], [10], []], Try.func18, by kernel_rfl, by kernel_rfl, by kernel_rfl⟩
theorem ok203 : FnOk Try.prog c F (203, 19, r203) := ⟨Try.f19, [], [[0, 1, 5]], Try.func19, by kernel_rfl, by kernel_rfl, by kernel_rfl⟩
theorem ok205 : FnOk Try.prog c F (205, 26, r205) := ⟨Try.f26, [], [[0, 3, 4]], Try.func26, by kernel_rfl, by kernel_rfl, by kernel_rfl⟩
theorem ok207 : FnOk Try.prog c F (207, 34, r207) := ⟨Try.f34, [], [[0, 1, 5], [0, 1, 2, 4, 5, 6, 3, 7, 8, 9], [0, 1, 2, 3, 4, 5, 6, 7, 8, 9], [], []], Try.func34, by kernel_rfl, by kernel_rfl, by kernel_rfl⟩
theorem ok230 : FnOk Try.prog c F (230, 35, r230) := ⟨Try.f35, [], [[0, 1, 5]], Try.func35, by kernel_rfl, by kernel_rfl, by kernel_rfl⟩
theorem ok322 : FnOk Try.prog c F (322, 36, r322) := ⟨Try.f36, [], [[0, 1, 5]], Try.func36, by kernel_rfl, by kernel_rfl, by kernel_rfl⟩
theorem ok317 : FnOk Try.prog c F (317, 22, r317) := ⟨Try.f22, [], [[1, 2, 3, 4], [4, 0, 1, 2, 3, 5, 6, 7, 8, 9, 10, 11], [0, 1, 2, 3, 4, 5, 6, 7, 8, 9, 10, 11], [], []], Try.func22, by kernel_rfl, by kernel_rfl, by kernel_rfl⟩
theorem ok210 : FnOk Try.prog c F (210, 37, r210) := ⟨Try.f37, [], [[1, 2, 3, 7]], Try.func37, by kernel_rfl, by kernel_rfl, by kernel_rfl⟩
theorem ok316 : FnOk Try.prog c F (316, 38, r316) := ⟨Try.f38, [], [], Try.func38, by kernel_rfl, by kernel_rfl, by kernel_rfl⟩
theorem ok228 : FnOk Try.prog c F (228, 39, r228) := ⟨Try.f39, [], [[1, 2, 3, 4]], Try.func39, by kernel_rfl, by kernel_rfl, by kernel_rfl⟩
theorem ok374 : FnOk Try.prog c F (374, 40, r374) := ⟨Try.f40, [], [[0, 3, 5, 6, 7], [0, 1, 2, 4, 5, 6, 3, 7, 8, 9], [0, 1, 2, 3, 4, 5, 6, 7, 8, 9], [], []], Try.func40, by kernel_rfl, by kernel_rfl, by kernel_rfl⟩
theorem ok318 : FnOk Try.prog c F (318, 41, r318) := ⟨Try.f41, [], [[1, 4, 5, 6]], Try.func41, by kernel_rfl, by kernel_rfl, by kernel_rfl⟩
theorem ok320 : FnOk Try.prog c F (320, 27, r320) := ⟨Try.f27, [], [[2, 3, 12, 13, 14], [0, 1, 2, 3, 4, 5, 6, 7], [0, 1, 2, 3, 4, 5, 6, 7], [], []], Try.func27, by kernel_rfl, by kernel_rfl, by kernel_rfl⟩
theorem ok213 : FnOk Try.prog c F (213, 42, r213) := ⟨Try.f42, [4, 5], [], Try.func42, by kernel_rfl, by kernel_rfl, by kernel_rfl⟩
theorem ok319 : FnOk Try.prog c F (319, 43, r319) := ⟨Try.f43, [], [], Try.func43, by kernel_rfl, by kernel_rfl, by kernel_rfl⟩
theorem ok267 : FnOk Try.prog c F (267, 45, r267) := ⟨Try.f45, [], [[0, 1, 2, 3, 5, 6, 7, 8, 4, 9, 10, 11, 12], [0, 1, 2, 3, 4, 5, 6, 7, 8, 9, 10, 11, 12], [], []], Try.func45, by kernel_rfl, by kernel_rfl, by kernel_rfl⟩
theorem ok321 : FnOk Try.prog c F (321, 47, r321) := ⟨Try.f47, [], [[1, 2, 4, 10, 11]], Try.func47, by kernel_rfl, by kernel_rfl, by kernel_rfl⟩
theorem ok111 : FnOk Try.prog c F (111, 48, r111) := ⟨Try.f48, [], [], Try.func48, by kernel_rfl, by kernel_rfl, by kernel_rfl⟩
theorem ok112 : FnOk Try.prog c F (112, 55, r112) := ⟨Try.f55, [], [], Try.func55, by kernel_rfl, by kernel_rfl, by kernel_rfl⟩
theorem ok114 : FnOk Try.prog c F (114, 64, r114) := ⟨Try.f64, [], [], Try.func64, by kernel_rfl, by kernel_rfl, by kernel_rfl⟩
theorem ok261 : FnOk Try.prog c F (261, 65, r261) := ⟨Try.f65, [], [[0, 1, 5]], Try.func65, by kernel_rfl, by kernel_rfl, by kernel_rfl⟩
theorem ok232 : FnOk Try.prog c F (232, 66, r232) := ⟨Try.f66, [], [[0, 1, 5]], Try.func66, by kernel_rfl, by kernel_rfl, by kernel_rfl⟩
theorem ok262 : FnOk Try.prog c F (262, 67, r262) := ⟨Try.f67, [], [[0, 1, 5]], Try.func67, by kernel_rfl, by kernel_rfl, by kernel_rfl⟩
theorem ok234 : FnOk Try.prog c F (234, 68, r234) := ⟨Try.f68, [], [[0, 1, 5]], Try.func68, by kernel_rfl, by kernel_rfl, by kernel_rfl⟩
theorem ok156 : FnOk Try.prog c F (156, 21, r156) := ⟨Try.f21, [], [[1, 3], [0, 1, 2, 3, 4, 5, 6, 7, 8, 9, 10, 11, 12, 13, 16, 17, 14, 15, 18, 19, 20, 21, 22, 23, 24, 25], [0, 1, 2, 3, 4, 5, 6, 7, 8, 9, 10, 11, 12, 13, 14, 15, 16, 17, 18, 19, 20, 21, 22, 23, 24, 25], [], []], Try.func21, by kernel_rfl, by kernel_rfl, by kernel_rfl⟩
theorem ok5 : FnOk Try.prog c F (5, 49, r5) := ⟨Try.f49, [], [], Try.func49, by kernel_rfl, by kernel_rfl, by kernel_rfl⟩
theorem ok259 : FnOk Try.prog c F (259, 69, r259) := ⟨Try.f69, [], [[1, 2, 3, 4], [4, 0, 1, 2, 3, 5, 6, 7, 8, 9, 10], [0, 1, 2, 3, 4, 5, 6, 7, 8, 9, 10], [], []], Try.func69, by kernel_rfl, by kernel_rfl, by kernel_rfl⟩
theorem ok243 : FnOk Try.prog c F (243, 70, r243) := ⟨Try.f70, [], [[0, 3, 5], [0, 1, 2, 3, 4, 5], [0, 1, 2, 3, 4, 5], [], []], Try.func70, by kernel_rfl, by kernel_rfl, by kernel_rfl⟩
theorem ok242 : FnOk Try.prog c F (242, 71, r242) := ⟨Try.f71, [], [], Try.func71, by kernel_rfl, by kernel_rfl, by kernel_rfl⟩
theorem ok229 : FnOk Try.prog c F (229, 56, r229) := ⟨Try.f56, [], [], Try.func56, by kernel_rfl, by kernel_rfl, by kernel_rfl⟩
theorem ok248 : FnOk Try.prog c F (248, 72, r248) := ⟨Try.f72, [], [[0, 1, 7, 8]], Try.func72, by kernel_rfl, by kernel_rfl, by kernel_rfl⟩
theorem ok249 : FnOk Try.prog c F (249, 73, r249) := ⟨Try.f73, [], [], Try.func73, by kernel_rfl, by kernel_rfl, by kernel_rfl⟩
theorem ok206 : FnOk Try.prog c F (206, 29, r206) := ⟨Try.f29, [], [[1, 26, 27, 28], [0, 1, 2, 3, 4, 5, 6, 7, 8, 9, 10, 11, 12, 13, 16, 17, 14, 15, 18, 19, 20, 21, 22, 23, 24, 25], [0, 1, 2, 3, 4, 5, 6, 7, 8, 9, 10, 11, 12, 13, 14, 15, 16, 17, 18, 19, 20, 21, 22, 23, 24, 25], [], []], Try.func29, by kernel_rfl, by kernel_rfl, by kernel_rfl⟩
theorem ok275 : FnOk Try.prog c F (275, 76, r275) := ⟨Try.f76, [], [[3, 6, 7, 8]], Try.func76, by kernel_rfl, by kernel_rfl, by kernel_rfl⟩
theorem ok273 : FnOk Try.prog c F (273, 77, r273) := ⟨Try.f77, [], [], Try.func77, by kernel_rfl, by kernel_rfl, by kernel_rfl⟩
theorem ok274 : FnOk Try.prog c F (274, 78, r274) := ⟨Try.f78, [], [], Try.func78, by kernel_rfl, by kernel_rfl, by kernel_rfl⟩
theorem ok128 : FnOk Try.prog c F (128, 79, r128) := ⟨Try.f79, [], [], Try.func79, by kernel_rfl, by kernel_rfl, by kernel_rfl⟩
theorem ok129 : FnOk Try.prog c F (129, 80, r129) := ⟨Try.f80, [], [], Try.func80, by kernel_rfl, by kernel_rfl, by kernel_rfl⟩
theorem ok130 : FnOk Try.prog c F (130, 82, r130) := ⟨Try.f82, [], [], Try.func82, by kernel_rfl, by kernel_rfl, by kernel_rfl⟩
theorem ok131 : FnOk Try.prog c F (131, 83, r131) := ⟨Try.f83, [], [[0, 3, 4]], Try.func83, by kernel_rfl, by kernel_rfl, by kernel_rfl⟩
theorem ok133 : FnOk Try.prog c F (133, 88, r133) := ⟨Try.f88, [], [], Try.func88, by kernel_rfl, by kernel_rfl, by kernel_rfl⟩
theorem ok134 : FnOk Try.prog c F (134, 89, r134) := ⟨Try.f89, [], [[0, 1, 5], [0, 1, 2, 4, 5, 6, 3, 7, 8, 9], [0, 1, 2, 3, 4, 5, 6, 7, 8, 9], [], []], Try.func89, by kernel_rfl, by kernel_rfl, by kernel_rfl⟩
theorem ok204 : FnOk Try.prog c F (204, 50, r204) := ⟨Try.f50, [], [[1, 3], [0, 1, 2, 3, 4, 5, 6, 7, 8, 9, 10, 11, 12, 13, 14, 15, 16, 17, 18, 19, 20, 23, 24, 21, 22, 25, 26, 27, 28, 29, 30, 31], [0, 1, 2, 3, 4, 5, 6, 7, 8, 9, 10, 11, 12, 13, 14, 15, 16, 17, 18, 19, 20, 21, 22, 23, 24, 25, 26, 27, 28, 29, 30, 31], [], [], [1, 5]], Try.func50, by kernel_rfl, by kernel_rfl, by kernel_rfl⟩
theorem ok260 : FnOk Try.prog c F (260, 84, r260) := ⟨Try.f84, [], [], Try.func84, by kernel_rfl, by kernel_rfl, by kernel_rfl⟩
theorem ok7 : FnOk Try.prog c F (7, 57, r7) := ⟨Try.f57, [], [], Try.func57, by kernel_rfl, by kernel_rfl, by kernel_rfl⟩
theorem ok244 : FnOk Try.prog c F (244, 58, r244) := ⟨Try.f58, [], [[1, 46, 47, 48], [1, 76, 77, 78], [0, 1, 2, 3, 4, 5, 6, 7, 8, 9, 10, 11, 12, 13, 14, 15, 16, 17, 18, 19, 20, 23, 24, 21, 22, 25, 26, 27, 28, 29, 30, 31], [0, 1, 2, 3, 4, 5, 6, 7, 8, 9, 10, 11, 12, 13, 14, 15, 16, 17, 18, 19, 20, 21, 22, 23, 24, 25, 26, 27, 28, 29, 30, 31], [], []], Try.func58, by kernel_rfl, by kernel_rfl, by kernel_rfl⟩
theorem ok276 : FnOk Try.prog c F (276, 100, r276) := ⟨Try.f100, [], [], Try.func100, by kernel_rfl, by kernel_rfl, by kernel_rfl⟩
theorem ok277 : FnOk Try.prog c F (277, 101, r277) := ⟨Try.f101, [], [], Try.func101, by kernel_rfl, by kernel_rfl, by kernel_rfl⟩
theorem ok136 : FnOk Try.prog c F (136, 102, r136) := ⟨Try.f102, [], [], Try.func102, by kernel_rfl, by kernel_rfl, by kernel_rfl⟩
theorem ok137 : FnOk Try.prog c F (137, 103, r137) := ⟨Try.f103, [], [[0, 3, 4]], Try.func103, by kernel_rfl, by kernel_rfl, by kernel_rfl⟩
theorem ok138 : FnOk Try.prog c F (138, 104, r138) := ⟨Try.f104, [], [], Try.func104, by kernel_rfl, by kernel_rfl, by kernel_rfl⟩
theorem ok139 : FnOk Try.prog c F (139, 109, r139) := ⟨Try.f109, [], [[0, 1, 5], [0, 1, 2, 4, 5, 6, 3, 7, 8, 9], [0, 1, 2, 3, 4, 5, 6, 7, 8, 9], [], []], Try.func109, by kernel_rfl, by kernel_rfl, by kernel_rfl⟩
theorem ok140 : FnOk Try.prog c F (140, 110, r140) := ⟨Try.f110, [], [], Try.func110, by kernel_rfl, by kernel_rfl, by kernel_rfl⟩
theorem ok241 : FnOk Try.prog c F (241, 81, r241) := ⟨Try.f81, [], [[1, 3], [0, 1, 2, 5, 6, 3, 4, 7, 8, 9, 10, 11, 12, 13, 14, 15, 16, 17, 18, 19, 20, 21, 22, 23, 24, 25, 26, 27, 28, 29, 30, 31, 32, 33], [0, 1, 2, 3, 4, 5, 6, 7, 8, 9, 10, 11, 12, 13, 14, 15, 16, 17, 18, 19, 20, 21, 22, 23, 24, 25, 26, 27, 28, 29, 30, 31, 32, 33], [], []], Try.func81, by kernel_rfl, by kernel_rfl, by kernel_rfl⟩
theorem ok265 : FnOk Try.prog c F (265, 85, r265) := ⟨Try.f85, [], [[1, 10, 11, 12], [0, 1, 2, 3, 4, 5, 6, 7, 8, 9, 10, 11, 12, 13, 14, 15, 16, 17, 18, 19, 20, 21, 22, 23, 24, 25, 26, 27, 30, 31, 28, 29, 32, 33, 34, 35, 36, 37, 38, 39], [0, 1, 2, 3, 4, 5, 6, 7, 8, 9, 10, 11, 12, 13, 14, 15, 16, 17, 18, 19, 20, 21, 22, 23, 24, 25, 26, 27, 28, 29, 30, 31, 32, 33, 34, 35, 36, 37, 38, 39], [], []], Try.func85, by kernel_rfl, by kernel_rfl, by kernel_rfl⟩
theorem ok266 : FnOk Try.prog c F (266, 86, r266) := ⟨Try.f86, [], [], Try.func86, by kernel_rfl, by kernel_rfl, by kernel_rfl⟩
theorem ok141 : FnOk Try.prog c F (141, 116, r141) := ⟨Try.f116, [], [], Try.func116, by kernel_rfl, by kernel_rfl, by kernel_rfl⟩
theorem ok142 : FnOk Try.prog c F (142, 118, r142) := ⟨Try.f118, [], [], Try.func118, by kernel_rfl, by kernel_rfl, by kernel_rfl⟩
theorem ok272 : FnOk Try.prog c F (272, 106, r272) := ⟨Try.f106, [], [[0, 3, 7, 8], [1, 2, 3, 0, 4, 5], [0, 1, 2, 3, 4, 5], [], []], Try.func106, by kernel_rfl, by kernel_rfl, by kernel_rfl⟩
theorem okT : (c.T.all fun x => x.2.okB Try.prog (mkCfgZ Try.prog tab ptab tags).ET (mkCfgZ Try.prog tab ptab tags).SZ x.1) = true := by kernel_rfl
theorem okF : (c.F.all fun x => decide ((mkCfgZ Try.prog tab ptab tags).G x.2 = some x.1)) = true := by kernel_rfl
theorem okTab : AllT (FnOk Try.prog c F) tab := ⟨ok363, ok154, ok155, ok158, ok191, ok292, ok364, ok365, ok203, ok205, ok207, ok230, ok322, ok317, ok210, ok316, ok228, ok374, ok318, ok320, ok213, ok319, ok267, ok321, ok111, ok112, ok114, ok261, ok232, ok262, ok234, ok156, ok5, ok259, ok243, ok242, ok229, ok248, ok249, ok206, ok275, ok273, ok274, ok128, ok129, ok130, ok131, ok133, ok134, ok204, ok260, ok7, ok244, ok276, ok277, ok136, ok137, ok138, ok139, ok140, ok241, ok265, ok266, ok141, ok142, ok272, trivial⟩
theorem okP : AllT (PFn Try.prog F) ptab := ⟨⟨⟨Try.f44, Try.func44, by kernel_rfl, by kernel_rfl⟩, rfl, step_sort _ _⟩, ⟨⟨Try.f46, Try.func46, by kernel_rfl, by kernel_rfl⟩, rfl, step_del _⟩, trivial⟩
theorem prog (O : Nat) : ProgOk ((mkCfgZ Try.prog tab ptab tags).at O) c F (primZ ptab) :=
  mkProgZ okT okF okTab okP ⟨⟨Try.f105, Try.func105, by kernel_rfl, by kernel_rfl, by kernel_rfl, by kernel_rfl⟩, trivial⟩ ⟨⟨by kernel_rfl, by kernel_rfl, by kernel_rfl⟩, trivial⟩ O ⟨sort_sound (ρ := (renS [(6, 44), (14, 74), (15, 75), (20, 90), (21, 91), (22, 92), (23, 93), (24, 94), (25, 95), (26, 96), (27, 97), (28, 98), (29, 99), (46, 111), (47, 112), (48, 113), (49, 114), (50, 115), (57, 119)] [(0, 0), (3, 3), (4, 4), (5, 5), (9, 9), (22, 56), (24, 78), (25, 81), (39, 107), (45, 120), (46, 121), (50, 125), (53, 128), (55, 22), (66, 140), (70, 144), (76, 149), (77, 150)])) (g := 45) rfl p375 Try.isAgg78 Try.sizeOf78 rfl (fun args w => enter_run (prog2 0).cc (g := 267) rfl args) cmpF, del_ok (ρ := renD 46 3 4 58 31) (k := 6) rfl rfl p330, trivial⟩
theorem pr375 : PrimAt F (primZ ptab) 375 (sortF 9 267) := primAt (ptab := ptab) (n := 375) (x := (44, (sortF 9 267))) rfl rfl
theorem pr330 : PrimAt F (primZ ptab) 330 (delF 16) := primAt (ptab := ptab) (n := 330) (x := (46, (delF 16))) rfl rfl
end Go.Proofs.Ytgfclcpnefinoaa.A.ExactJoinShard
namespace Go.Proofs.Ytgfclcpnefinoaa.A
open Go
set_option linter.unusedSimpArgs false
set_option linter.unusedVariables false
set_option maxHeartbeats 2000000 in
theorem law_ExactJoinShard {F : Nat → Option RF} {Z : CallF} (hI10 : Has F tI10) (hI11 : Has F tI11) (hI13 : Has F tI13) (hLAccount : Has F tLAccount) (hLBook : Has F tLBook) (hLFin : Has F tLFin) (hLShard : Has F tLShard) (hLStore : Has F tLStore) (hLibcmpCompareint : Has F tLibcmpCompareint) (hLibcmpCompareuint64 : Has F tLibcmpCompareuint64) (hLibcmpOrint : Has F tLibcmpOrint) (hLibcmpisNaNint : Has F tLibcmpisNaNint) (hLibcmpisNaNuint64 : Has F tLibcmpisNaNuint64) (hLibslicesContainsimplFinimplFin : Has F tLibslicesContainsimplFinimplFin) (hLibslicesIndexFuncimplShardimplShard : Has F tLibslicesIndexFuncimplShardimplShard) (hLibslicesIndeximplFinimplFin : Has F tLibslicesIndeximplFinimplFin) (hS01d : Has F tS01d) (hS10 : Has F tS10) (hS13 : Has F tS13) (hWJoinShard : Has F tWJoinShard) (pr375 : PrimAt F Z 375 (sortF 9 267)) (pr330 : PrimAt F Z 330 (delF 16)) (h : Heap) (avs : List V) (hfl : h.floor = h.next) (w : ArgsWf h 8 [shStore, .int .u64, .int .i64] avs) : ∃ h', call F Z 363 avs h = some (.c (.bool true), h') := by
  obtain ⟨sc, _, rfl, sw, w1⟩ := ArgsWf.struct w
  obtain ⟨s, sp, sv, sok⟩ := Wf.isStore sw
  obtain ⟨sl1, sl2, sl3⟩ := Store.lenL sv
  obtain ⟨a, _, rfl, aw, w2⟩ := ArgsWf.int w1
  obtain ⟨e, _, rfl, ew, w3⟩ := ArgsWf.int w2
  obtain rfl := w3.nil
  have f0 : h.floor ≤ h.next := by omega
  rw [call_run F Z (hWJoinShard.lk (g := 363) rfl) _ _ rfl]
  obtain ⟨l0, s0, s0l, s0k⟩ := szStore_c hLStore hLShard hLBook hLAccount hLFin (Z := Z) sv 1048576 (by omega) (by omega)
  simp only [run0, run1, run2, run3, run4, noSlot, ownS, ownK, memN, RO.dst, lk, drop, forget, number, Nat.reduceBEq, cut?, splice?, builds, Nat.reduceAdd, Nat.reduceLeDiff, ↓reduceIte, reduceCtorEq, qqa, qqb, qqc, qqd, qqe, qqf, qqg, qqh, qqi, qqj, qqk, qql, qqm, qqn, qqo, qqp, qqq, qqr, qqs, qqt, qqu, qqv, qqw, qqx, qqy, s0, sl1, sl2, sl3]
  by_cases hn0 : l0 < 0
  · simp only [run0, run1, run2, run3, run4, noSlot, ownS, ownK, memN, RO.dst, lk, drop, forget, number, Nat.reduceBEq, cut?, splice?, builds, Nat.reduceAdd, Nat.reduceLeDiff, ↓reduceIte, reduceCtorEq, qqa, qqb, qqc, qqd, qqe, qqf, qqg, qqh, qqi, qqj, qqk, qql, qqm, qqn, qqo, qqp, qqq, qqr, qqs, qqt, qqu, qqv, qqw, qqx, qqy, hn0]
    exact ⟨_, rfl⟩
  have sm0 := s0k (by omega)
  have flr : h.floor = h.next := hfl
  have Tsv := Store.okL.lt sv
  obtain ⟨y1, h1, p1, e1, o1, v1, q1⟩ := toStore_c hLStore hLShard hLBook hLAccount hLFin (Z := Z) f0 sv sm0
  replace sv := Store.okL.on sv o1
  have n1 := o1.ext.1
  have g1 := o1.fl
  have f1 := o1.le f0
  obtain ⟨vl1, vt1, vd1⟩ := Store.lenI v1
  obtain ⟨r2_0, h2, p2_0, e2, o2, v2_0, q2_0⟩ := sJoinShard_c ⟨hS01d, hS10, hS13⟩ (Z := Z) f1 v1 a e (wfU aw) sok sm0
  replace sv := Store.okL.on sv o2
  replace v1 := Store.okI.on v1 o2
  have n2 := o2.ext.1
  have g2 := o2.fl
  have f2 := o2.le f1
  have Tv2_0 := Store.okI.lt v2_0
  obtain ⟨vl2_0, vt2_0, vd2_0⟩ := Store.lenI v2_0
  obtain ⟨y3, h3, p3, e3, o3, v3, q3⟩ := toStore_c hLStore hLShard hLBook hLAccount hLFin (Z := Z) f2 sv sm0
  replace sv := Store.okL.on sv o3
  replace v1 := Store.okI.on v1 o3
  replace v2_0 := Store.okI.on v2_0 o3
  have n3 := o3.ext.1
  have g3 := o3.fl
  have f3 := o3.le f2
  have Tv3 := Store.okI.lt v3
  obtain ⟨vl3, vt3, vd3⟩ := Store.lenI v3
  obtain ⟨r4_0, h4, p4_0, e4, o4, v4_0, q4_0⟩ := JoinShard_c ⟨hI10, hI11, hI13, hLibcmpCompareint, hLibcmpCompareuint64, hLibcmpOrint, hLibcmpisNaNint, hLibcmpisNaNuint64, hLibslicesIndeximplFinimplFin, hLibslicesContainsimplFinimplFin⟩ hLibslicesIndexFuncimplShardimplShard pr330 pr375 (Z := Z) f3 v3 a e (wfU aw) sok sm0
  replace sv := Store.okL.on sv o4
  replace v1 := Store.okI.on v1 o4
  replace v2_0 := Store.okI.on v2_0 o4
  replace v3 := Store.okI.on v3 o4
  have n4 := o4.ext.1
  have g4 := o4.fl
  have f4 := o4.le f3
  obtain ⟨vl4_0, vt4_0, vd4_0⟩ := Store.lenI v4_0
  have c1 := eqStore_r hLStore hLShard hLBook hLAccount hLFin (Z := Z) v4_0 v2_0
  obtain ⟨y5, hq5, p5, e5, oq5, vq5, qq5⟩ := toStore_c hLStore hLShard hLBook hLAccount hLFin (Z := Z) (h := ⟨h4.next, h4.next, h4.get⟩) (Nat.le_refl _) (Store.okL.up sv _) sm0
  obtain ⟨h5, mq5⟩ : ∃ g, Heap.mk hq5.next h4.floor hq5.get = g := ⟨_, rfl⟩
  have o5 : On h4 h5 := by rw [← mq5]; exact ⟨⟨oq5.ext.1, oq5.ext.2⟩, rfl⟩
  have v5 := Store.okI.up vq5 h4.floor
  rw [mq5] at v5
  have q5 : Fre h4 p5 := ⟨qq5.lo, qq5.nd⟩
  replace sv := Store.okL.on sv o5
  replace v1 := Store.okI.on v1 o5
  replace v2_0 := Store.okI.on v2_0 o5
  replace v3 := Store.okI.on v3 o5
  replace v4_0 := Store.okI.on v4_0 o5
  have n5 := o5.ext.1
  have g5 := o5.fl
  have f5 := o5.le f4
  obtain ⟨vl5, vt5, vd5⟩ := Store.lenI v5
  have c2 := eqStore_r hLStore hLShard hLBook hLAccount hLFin (Z := Z) (h := ⟨h5.next, h5.next, h5.get⟩) (Store.okI.up v3 _) (Store.okI.up v5 _)
  have hb1 := Store.wt_le sm0
  have hb2 := s.wt_nn
  have hb3 := Store.wt_le (joinShard_small sm0 a e)
  have hb4 := (joinShard s a e).1.wt_nn
  have lo6 : ∀ id, id ∈ p3 → h5.floor ≤ id := fun id hid => by have := q3.lo id hid; omega
  obtain ⟨h6, m6, k6, u6⟩ := markStore_r hLStore hLShard hLBook hLAccount hLFin (Z := Z) v3 q3.nd lo6 (1) (by omega) (by omega)
  replace sv := Store.okL.mk' sv k6 fun id h1 h2 => by have a1 := q3.lo id h2; have a2 := Tsv id h1; omega
  replace v2_0 := Store.okI.mk' v2_0 k6 fun id h1 h2 => by have a1 := q3.lo id h2; have a2 := Tv2_0 id h1; omega
  replace v4_0 := Store.okI.mk' v4_0 k6 fun id h1 h2 => by have a1 := q3.lo id h2; have a2 := Tv3 id h2; have a3 := q4_0.lo id h1; omega
  have n6 := k6.next
  have g6 := k6.fl
  have f6 : h6.floor ≤ h6.next := by omega
  replace v3 := u6
  have hk6 : ¬ (1 + s.wt : Int) < 0 := by omega
  have c3 := eqStore_r hLStore hLShard hLBook hLAccount hLFin (Z := Z) v4_0 v2_0
  have lo7 : ∀ id, id ∈ p4_0 → h6.floor ≤ id := fun id hid => by have := q4_0.lo id hid; omega
  obtain ⟨h7, m7, k7, u7⟩ := markStore_r hLStore hLShard hLBook hLAccount hLFin (Z := Z) v4_0 q4_0.nd lo7 (1) (by omega) (by omega)
  replace sv := Store.okL.mk' sv k7 fun id h1 h2 => by have a1 := q4_0.lo id h2; have a2 := Tsv id h1; omega
  replace v2_0 := Store.okI.mk' v2_0 k7 fun id h1 h2 => by have a1 := q4_0.lo id h2; have a2 := Tv2_0 id h1; omega
  have n7 := k7.next
  have g7 := k7.fl
  have f7 : h7.floor ≤ h7.next := by omega
  replace v4_0 := u7
  have hkk : ¬ (1 + ((joinShard s a e).1).wt : Int) < 0 := by omega
  have d4 := heldStore_r hLStore hLShard hLBook hLAccount hLFin (Z := Z) v4_0 (by omega) (by omega)
  have hh5 : ¬ (1 + ((joinShard s a e).1).wt : Int) < 0 := by omega
  obtain ⟨y8, h8, p8, e8, o8, v8, q8⟩ := toStore_c hLStore hLShard hLBook hLAccount hLFin (Z := Z) f7 sv sm0
  replace sv := Store.okL.on sv o8
  replace v2_0 := Store.okI.on v2_0 o8
  replace v4_0 := Store.okI.on v4_0 o8
  have n8 := o8.ext.1
  have g8 := o8.fl
  have f8 := o8.le f7
  obtain ⟨vl8, vt8, vd8⟩ := Store.lenI v8
  obtain ⟨r9_0, h9, p9_0, e9, o9, v9_0, q9_0⟩ := JoinShard_c ⟨hI10, hI11, hI13, hLibcmpCompareint, hLibcmpCompareuint64, hLibcmpOrint, hLibcmpisNaNint, hLibcmpisNaNuint64, hLibslicesIndeximplFinimplFin, hLibslicesContainsimplFinimplFin⟩ hLibslicesIndexFuncimplShardimplShard pr330 pr375 (Z := Z) f8 v8 a e (wfU aw) sok sm0
  replace sv := Store.okL.on sv o9
  replace v2_0 := Store.okI.on v2_0 o9
  replace v4_0 := Store.okI.on v4_0 o9
  replace v8 := Store.okI.on v8 o9
  have n9 := o9.ext.1
  have g9 := o9.fl
  have f9 := o9.le f8
  obtain ⟨vl9_0, vt9_0, vd9_0⟩ := Store.lenI v9_0
  have c6 := eqStore_r hLStore hLShard hLBook hLAccount hLFin (Z := Z) v9_0 v2_0
  have d7 := heldStore_r hLStore hLShard hLBook hLAccount hLFin (Z := Z) v4_0 (by omega) (by omega)
  have hh8 : ¬ (1 + ((joinShard s a e).1).wt : Int) < 0 := by omega
  simp only [run0, run1, run2, run3, run4, noSlot, ownS, ownK, memN, RO.dst, lk, drop, forget, number, Nat.reduceBEq, cut?, splice?, builds, Nat.reduceAdd, Nat.reduceLeDiff, ↓reduceIte, reduceCtorEq, qqa, qqb, qqc, qqd, qqe, qqf, qqg, qqh, qqi, qqj, qqk, qql, qqm, qqn, qqo, qqp, qqq, qqr, qqs, qqt, qqu, qqv, qqw, qqx, qqy, hn0, sl1, sl2, sl3, e1, vl1, vt1, vd1, e2, vl2_0, vt2_0, vd2_0, e3, vl3, vt3, vd3, e4, vl4_0, vt4_0, vd4_0, c1, mq5, e5, vl5, vt5, vd5, c2, m6, hk6, c3, m7, hkk, d4, hh5, e8, vl8, vt8, vd8, e9, vl9_0, vt9_0, vd9_0, c6, d7, hh8]
  exact ⟨_, rfl⟩
end Go.Proofs.Ytgfclcpnefinoaa.A
namespace Go.Proofs.Ytgfclcpnefinoaa.A.ExactJoinShard
open Go Go.ChangeShapes Go.WideShapes Go.ChangeAt Go.RowKit
theorem own : ownKnob Try.prog.godebug = none := by kernel_rfl
set_option maxRecDepth 100000 in
theorem lifted (os : Os) (started : os.Started) (H : Type) (enc : TypeId × Value → H) :
    ReturnsInHanded {} Try.checked os 4 .any (Rows.fnExactJoinShardSpec.pre6 enc Try.prog Try.f4 Rows.fnExactJoinShardRow.domain false) (Rows.fnExactJoinShardSpec.post enc Try.prog Try.f4 false true false false) := by
  refine returnsInHanded_of_change_sized (C := Try.checked) own started (by kernel_rfl) Try.func4
    (ChangeSpec.witness6 (enc := enc) (C := Try.checked) false ⟨#[], #[.agg #[.int .i64 0, .int .i64 0, .slice none 0 0], .int .u64 0, .int .i64 0], []⟩ 8 (by kernel_rfl) (by kernel_rfl) (by kernel_rfl) (by kernel_rfl)) ?_
  intro W base args ds gs before hval hW _ _ _
  have hW' := hW
  obtain ⟨p, q, hA, hV, rfl, hfz, hnd⟩ := hW
  obtain ⟨rfl, rfl⟩ := trodVars_none hV
  have r0 : DataW.TrodAll enc Try.prog W 0 (fun _ => true) true [27, 22, 3] args.toList ds p := hA
  obtain ⟨_, _, d0, _, _, _, _, rfl, _, _, r1⟩ := trodAll_cons r0
  obtain ⟨_, _, d1, _, _, _, _, rfl, _, _, r2⟩ := trodAll_cons r1
  obtain ⟨_, _, d2, _, _, _, _, rfl, _, _, r3⟩ := trodAll_cons r2
  obtain ⟨_, rfl, _⟩ := trodAll_nil r3
  refine (law_calls (ts := [27, 22, 3]) (ss := [shStore, (.int .u64), (.int .i64)]) prog (show (mkCfgZ Try.prog tab ptab tags).G 363 = some 4 from by kernel_rfl) ⟨show shIs Try.prog (mkCfgZ Try.prog tab ptab tags).ET (mkCfgZ Try.prog tab ptab tags).SZ 8 27 shStore = true from by kernel_rfl, show shIs Try.prog (mkCfgZ Try.prog tab ptab tags).ET (mkCfgZ Try.prog tab ptab tags).SZ 8 22 (.int .u64) = true from by kernel_rfl, show shIs Try.prog (mkCfgZ Try.prog tab ptab tags).ET (mkCfgZ Try.prog tab ptab tags).SZ 8 3 (.int .i64) = true from by kernel_rfl, trivial⟩ (law_ExactJoinShard inI10 inI11 inI13 inLAccount inLBook inLFin inLShard inLStore inLibcmpCompareint inLibcmpCompareuint64 inLibcmpOrint inLibcmpisNaNint inLibcmpisNaNuint64 inLibslicesContainsimplFinimplFin inLibslicesIndexFuncimplShardimplShard inLibslicesIndeximplFinimplFin inS01d inS10 inS13 inWJoinShard pr375 pr330) (fun j t v h1 => hval j t v (by rw [Try.params4]; exact (List.getElem?_toArray ..).trans h1)) hA).mono fun e W' ⟨he, bel⟩ => ?_
  subst he
  exact ⟨_, rfl, _, _, _, [], _, [], hW', trodAll_mk1 (shut_bool Try.underlying4 _), trodAll_below (by kernel_rfl) bel _ _ _ _ (by kernel_rfl) hA hA.lt, rfl, bel.frame _, fun h => by cases h⟩
theorem over : Rows.fnExactJoinShardRow.holds Try.pinned (OpenSpec.ofChange Rows.fnExactJoinShardSpec) :=
  OpenClaim.holds_of_wide 4 Try.f4 rfl rfl rfl rfl rfl rfl rfl ⟨rfl, rfl, rfl, rfl, rfl⟩ rfl rfl rfl rfl rfl (by kernel_rfl) Try.func4 (by kernel_rfl)
    (of_decide_eq_true (by kernel_rfl)) (by unfold Func.isWrapper; first | (rw [if_pos (by decide +kernel)]; kernel_rfl) | (rw [if_neg (by decide +kernel)]; exact ⟨rfl, rfl⟩))
    (fun os started H enc _ => lifted os started H enc)
end Go.Proofs.Ytgfclcpnefinoaa.A.ExactJoinShard
namespace Go.Proofs.Ytgfclcpnefinoaa
/-- The row. -/
theorem fnExactJoinShard_holds : Rows.FnExactJoinShardSaid := A.ExactJoinShard.over
#print axioms fnExactJoinShard_holds
end Go.Proofs.Ytgfclcpnefinoaa
