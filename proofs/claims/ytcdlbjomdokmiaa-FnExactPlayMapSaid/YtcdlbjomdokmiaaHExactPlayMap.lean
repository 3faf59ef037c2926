/- FnExactPlayMap: the statement, from the law of the abstract run. No condition. -/
import Derived.Test.YtcdlbjomdokmiaaHCExactPlayMap3
import Derived.Test.YtcdlbjomdokmiaaB6
import Derived.Test.YtcdlbjomdokmiaaZ7
import Derived.Test.YtcdlbjomdokmiaaProg
import Derived.Test.YtcdlbjomdokmiaaRows
import Derived.ProofKit
import Derived.OpenShut
import Derived.ShutString
import Derived.ChangeOld
import Derived.Below
import Derived.SizedLaws
/- The functions that FnExactPlayMap reaches: the program's code against the compact code, entry by entry. -/
namespace Go.Proofs.Ytcdlbjomdokmiaa.A.ExactPlayMap
open Go
def c : CC where
  T := [(3, ⟨1, 8, false, some [.int .i64 0], (.int .i64)⟩),
    (4, ⟨1, 1, false, some [.bool false], .bool⟩),
    (22, ⟨1, 24, false, some [.nil], (.slice 92 8)⟩),
    (23, ⟨1, 8, false, some [.int .u64 0], (.int .u64)⟩),
    (25, ⟨5, 56, true, some [.int .i64 0, .nil, .bool false, .int .u64 0, .int .i64 0], (.struct [(0, 1, false), (1, 1, false), (2, 1, false), (3, 1, false), (4, 1, false)])⟩),
    (26, ⟨1, 24, false, some [.nil], (.slice 62 21)⟩),
    (29, ⟨1, 24, false, some [.nil], (.slice 86 7)⟩),
    (31, ⟨5, 56, true, some [.int .i64 0, .nil, .bool false, .int .u64 0, .int .i64 0], (.struct [(0, 1, false), (1, 1, false), (2, 1, false), (3, 1, false), (4, 1, false)])⟩),
    (32, ⟨1, 24, false, some [.nil], (.slice 3 15)⟩),
    (36, ⟨1, 24, false, some [.nil], (.slice 59 14)⟩),
    (59, ⟨3, 24, true, some [.int .i64 0, .int .u64 0, .int .i64 0], (.struct [(0, 1, false), (1, 1, false), (2, 1, false)])⟩),
    (62, ⟨3, 24, true, some [.int .i64 0, .int .u64 0, .int .i64 0], (.struct [(0, 1, false), (1, 1, false), (2, 1, false)])⟩),
    (86, ⟨3, 24, true, some [.int .u64 0, .int .u64 0, .int .i64 0], (.struct [(0, 1, false), (1, 1, false), (2, 1, false)])⟩),
    (92, ⟨3, 24, true, some [.int .u64 0, .int .u64 0, .int .i64 0], (.struct [(0, 1, false), (1, 1, false), (2, 1, false)])⟩)]
  F := [(3, 354), (5, 67), (6, 355), (7, 187), (8, 68), (9, 356), (10, 184), (11, 71), (12, 285), (13, 357), (14, 94), (15, 358), (16, 287), (17, 118), (18, 288), (25, 102), (26, 103), (27, 115), (28, 180), (29, 105), (30, 179), (31, 116), (32, 106), (33, 224), (34, 108), (35, 369), (36, 117), (37, 135), (40, 5), (47, 120), (48, 121), (49, 104), (50, 221), (51, 222), (52, 223), (53, 123), (54, 124), (55, 107), (56, 7), (57, 254), (58, 255), (59, 256), (60, 127), (69, 122), (70, 126), (71, 125), (72, 269), (73, 270)]
  eqT := []
  adds := []
def F : Nat → Option RF := lk (tI11 ++ tI12 ++ tLChart ++ tLInt ++ tLMapCmd ++ tLRange ++ tLibslicesIndexFuncimplRangeimplRange ++ tS01d ++ tS11 ++ tS12 ++ tWPlayMap)
def tab : List (Nat × FuncId × RF) := [(354, 3, r354), (67, 5, r67), (355, 6, r355), (187, 7, r187), (68, 8, r68), (356, 9, r356), (184, 10, r184), (71, 11, r71), (285, 12, r285), (357, 13, r357), (94, 14, r94), (358, 15, r358), (287, 16, r287), (118, 17, r118), (288, 18, r288), (102, 25, r102), (103, 26, r103), (115, 27, r115), (180, 28, r180), (105, 29, r105), (179, 30, r179), (116, 31, r116), (106, 32, r106), (224, 33, r224), (108, 34, r108), (369, 35, r369), (117, 36, r117), (135, 37, r135), (5, 40, r5), (120, 47, r120), (121, 48, r121), (104, 49, r104), (221, 50, r221), (222, 51, r222), (223, 52, r223), (123, 53, r123), (124, 54, r124), (107, 55, r107), (7, 56, r7), (254, 57, r254), (255, 58, r255), (256, 59, r256), (127, 60, r127), (122, 69, r122), (126, 70, r126), (125, 71, r125)]
def tags : List (Nat × TypeId × Nat) := [(7, 86, 3), (8, 92, 3), (14, 59, 3), (15, 3, 1), (21, 62, 3)]
open Go.Shelf
def ptab : List (Nat × FuncId × PrimF) := [(269, 72, (insF 7 24)), (270, 73, (delF 7))]
theorem i86 : (Try.prog.info? 86).isSome = true := by kernel_rfl
noncomputable def inf86 : TypeInfo := (Try.prog.info? 86).get i86
theorem z86 : inf86.zero.isSome = true := by kernel_rfl
noncomputable def zv86 : Value := inf86.zero.get z86
theorem p269 : Z.InsT Try.prog (renI 72 91 92 3 4 86 29) 3 24 zv86 where
  mixed := by kernel_rfl
  f22 := ⟨(Try.prog.funcs[72]?.map (·.name)).getD "", by kernel_rfl, by kernel_rfl⟩
  f29 := ⟨Try.f91, Try.func91, by kernel_rfl, by kernel_rfl, by kernel_rfl, by kernel_rfl⟩
  t3 := by kernel_rfl
  t4 := by kernel_rfl
  t24 := by kernel_rfl
  i9 := ⟨inf86, (Option.some_get i86).symm, by kernel_rfl, by kernel_rfl, (Option.some_get z86).symm, by kernel_rfl, by decide⟩
theorem p270 : Z.DelT Try.prog (renD 73 3 4 86 29) 3 zv86 where
  mixed := by kernel_rfl
  f45 := ⟨(Try.prog.funcs[73]?.map (·.name)).getD "", by kernel_rfl, by kernel_rfl⟩
  t3 := by kernel_rfl
  t4 := by kernel_rfl
  t22 := by kernel_rfl
  i23 := ⟨inf86, (Option.some_get i86).symm, by kernel_rfl, by kernel_rfl, by decide, (Option.some_get z86).symm, List.all_eq_true.1 (show (zv86.cells.toList.all (·.oneCell')) = true from by kernel_rfl)⟩
theorem ok354 : FnOk Try.prog c F (354, 3, r354) := ⟨Try.f3, [], [[0, 1, 2, 3, 4], [0, 1, 2, 3, 4], []], Try.func3, by kernel_rfl, by kernel_rfl, by kernel_rfl⟩
theorem ok67 : FnOk Try.prog c F (67, 5, r67) := ⟨Try.f5, [], [], Try.func5, by kernel_rfl, by kernel_rfl, by kernel_rfl⟩
theorem ok355 : FnOk Try.prog c F (355, 6, r355) := ⟨Try.f6, [], [], Try.func6, by kernel_rfl, by kernel_rfl, by kernel_rfl⟩
theorem ok187 : FnOk Try.prog c F (187, 7, r187) := ⟨Try.f7, [], [[1, 4, 6, 7, 8], [9, 1, 2, 3, 0, 4, 5, 6, 7, 8, 10, 11], [0, 1, 2, 3, 4, 5, 6, 7, 9, 10, 8, 11], []], Try.func7, by kernel_rfl, by kernel_rfl, by kernel_rfl⟩
theorem ok68 : FnOk Try.prog c F (68, 8, r68) := ⟨Try.f8, [], [], Try.func8, by kernel_rfl, by kernel_rfl, by kernel_rfl⟩
theorem ok356 : FnOk Try.prog c F (356, 9, r356) := ⟨Try.f9, [], [[0, 3, 4]], Try.func9, by kernel_rfl, by kernel_rfl, by kernel_rfl⟩
theorem ok184 : FnOk Try.prog c F (184, 10, r184) := ⟨Try.f10, [], [[4, 6, 7, 24, 25, 26]], Try.func10, by kernel_rfl, by kernel_rfl, by kernel_rfl⟩
theorem ok71 : FnOk Try.prog c F (71, 11, r71) := ⟨Try.f11, [], [], Try.func11, by kernel_rfl, by kernel_rfl, by kernel_rfl⟩
theorem ok285 : FnOk Try.prog c F (285, 12, r285) := ⟨Try.f12, [], [[0, 1, 5], [0, 1, 2, 4, 5, 6, 3, 7, 8], [0, 1, 2, 3, 4, 5, 6, 7, 8], []], Try.func12, by kernel_rfl, by kernel_rfl, by kernel_rfl⟩
theorem ok357 : FnOk Try.prog c F (357, 13, r357) := ⟨Try.f13, [], [[0, 1, 5], [0, 1, 2, 4, 5, 6, 3, 7, 8, 9], [0, 1, 2, 3, 4, 5, 6, 7, 8, 9], []], Try.func13, by kernel_rfl, by kernel_rfl, by kernel_rfl⟩
theorem ok94 : FnOk Try.prog c F (94, 14, r94) := ⟨Try.f14, [], [], Try.func14, by kernel_rfl, by kernel_rfl, by kernel_rfl⟩
theorem ok358 : FnOk Try.prog c F (358, 15, r358) := ⟨Try.f15, [], [[0, 1, 5]], Try.func15, by kernel_rfl, by kernel_rfl, by kernel_rfl⟩
theorem ok287 : FnOk Try.prog c F (287, 16, r287) := ⟨Try.f16, [], [[0, 1, 5]], Try.func16, by kernel_rfl, by kernel_rfl, by kernel_rfl⟩
theorem ok118 : FnOk Try.prog c F (118, 17, r118) := ⟨Try.f17, [], [], Try.func17, by kernel_rfl, by kernel_rfl, by kernel_rfl⟩
theorem ok288 : FnOk Try.prog c F (288, 18, r288) := ⟨Try.f18, [], [[0, 1, 5]], Try.func18, by kernel_rfl, by kernel_rfl, by kernel_rfl⟩
theorem ok102 : FnOk Try.prog c F (102, 25, r102) := ⟨Try.f25, [], [], Try.func25, by kernel_rfl, by kernel_rfl, by kernel_rfl⟩
theorem ok103 : FnOk Try.prog c F (103, 26, r103) := ⟨Try.f26, [], [[0, 1, 2, 3, 4, 5, 6, 7, 10, 8, 9, 11, 12, 13, 14, 15, 16, 17, 18], [0, 1, 2, 3, 4, 5, 6, 7, 8, 9, 10, 11, 12, 13, 14, 15, 16, 17, 18], []], Try.func26, by kernel_rfl, by kernel_rfl, by kernel_rfl⟩
theorem ok115 : FnOk Try.prog c F (115, 27, r115) := ⟨Try.f27, [], [[1, 2, 3, 4], [4, 0, 1, 2, 3, 5, 6, 7, 8, 9, 10], [0, 1, 2, 3, 4, 5, 6, 7, 8, 9, 10], []], Try.func27, by kernel_rfl, by kernel_rfl, by kernel_rfl⟩
theorem ok180 : FnOk Try.prog c F (180, 28, r180) := ⟨Try.f28, [], [[6, 0, 1, 2, 3, 4, 5, 7, 8, 9, 10, 11, 12, 13, 14, 15, 16], [0, 1, 2, 3, 4, 5, 6, 7, 8, 9, 10, 11, 12, 14, 15, 13, 16], [], [2, 0, 1, 3, 4, 5, 6, 7, 8, 9, 10, 11, 12], [0, 1, 2, 3, 4, 5, 6, 7, 8, 9, 10, 11, 12], [], [0, 1, 2, 3, 4, 9, 5, 6, 7, 8, 10, 11, 12, 13, 14], [0, 1, 2, 3, 4, 5, 6, 7, 8, 9, 10, 11, 12, 13, 14], []], Try.func28, by kernel_rfl, by kernel_rfl, by kernel_rfl⟩
theorem ok105 : FnOk Try.prog c F (105, 29, r105) := ⟨Try.f29, [], [[0, 3, 4]], Try.func29, by kernel_rfl, by kernel_rfl, by kernel_rfl⟩
theorem ok179 : FnOk Try.prog c F (179, 30, r179) := ⟨Try.f30, [], [], Try.func30, by kernel_rfl, by kernel_rfl, by kernel_rfl⟩
theorem ok116 : FnOk Try.prog c F (116, 31, r116) := ⟨Try.f31, [], [], Try.func31, by kernel_rfl, by kernel_rfl, by kernel_rfl⟩
theorem ok106 : FnOk Try.prog c F (106, 32, r106) := ⟨Try.f32, [], [[9, 0, 1, 2, 3, 4, 5, 6, 7, 8, 10], [0, 1, 2, 3, 4, 5, 6, 7, 8, 9, 10], []], Try.func32, by kernel_rfl, by kernel_rfl, by kernel_rfl⟩
theorem ok224 : FnOk Try.prog c F (224, 33, r224) := ⟨Try.f33, [2], [[0, 1, 2, 3, 4, 5, 7, 8, 6, 9, 10, 11], [0, 1, 2, 3, 4, 5, 6, 7, 8, 9, 10, 11], []], Try.func33, by kernel_rfl, by kernel_rfl, by kernel_rfl⟩
theorem ok108 : FnOk Try.prog c F (108, 34, r108) := ⟨Try.f34, [], [[0, 1, 5], [0, 1, 2, 4, 5, 6, 3, 7, 8, 9], [0, 1, 2, 3, 4, 5, 6, 7, 8, 9], []], Try.func34, by kernel_rfl, by kernel_rfl, by kernel_rfl⟩
theorem ok369 : FnOk Try.prog c F (369, 35, r369) := ⟨Try.f35, [], [], Try.func35, by kernel_rfl, by kernel_rfl, by kernel_rfl⟩
theorem ok117 : FnOk Try.prog c F (117, 36, r117) := ⟨Try.f36, [], [[0, 1, 5]], Try.func36, by kernel_rfl, by kernel_rfl, by kernel_rfl⟩
theorem ok135 : FnOk Try.prog c F (135, 37, r135) := ⟨Try.f37, [], [[0, 1, 5]], Try.func37, by kernel_rfl, by kernel_rfl, by kernel_rfl⟩
theorem ok5 : FnOk Try.prog c F (5, 40, r5) := ⟨Try.f40, [], [], Try.func40, by kernel_rfl, by kernel_rfl, by kernel_rfl⟩
theorem ok120 : FnOk Try.prog c F (120, 47, r120) := ⟨Try.f47, [], [[0, 3], [0, 1, 2, 3, 4, 5, 6, 7, 8, 9, 10, 11, 12, 13, 14, 15, 16, 17, 18, 19, 20, 21, 22, 25, 26, 27, 28, 23, 24, 29, 30, 31, 32, 33, 34, 35], [0, 1, 2, 3, 4, 5, 6, 7, 8, 9, 10, 11, 12, 13, 14, 15, 16, 17, 18, 19, 20, 21, 22, 23, 24, 25, 26, 27, 28, 29, 30, 31, 32, 33, 34, 35], []], Try.func47, by kernel_rfl, by kernel_rfl, by kernel_rfl⟩
theorem ok121 : FnOk Try.prog c F (121, 48, r121) := ⟨Try.f48, [], [[0, 1, 5]], Try.func48, by kernel_rfl, by kernel_rfl, by kernel_rfl⟩
theorem ok104 : FnOk Try.prog c F (104, 49, r104) := ⟨Try.f49, [], [[0, 1, 5]], Try.func49, by kernel_rfl, by kernel_rfl, by kernel_rfl⟩
theorem ok221 : FnOk Try.prog c F (221, 50, r221) := ⟨Try.f50, [], [[0, 1, 2, 8, 9, 10], [0, 1, 2, 3, 6, 7, 8, 9, 10, 4, 5, 11, 12, 13, 14, 15, 16], [0, 1, 2, 3, 4, 5, 6, 7, 8, 9, 10, 11, 12, 13, 14, 15, 16], []], Try.func50, by kernel_rfl, by kernel_rfl, by kernel_rfl⟩
theorem ok222 : FnOk Try.prog c F (222, 51, r222) := ⟨Try.f51, [], [[0, 1, 2, 3, 4, 5, 6, 7, 8, 9, 10, 11, 12, 13, 14, 17, 18, 19, 20, 15, 16, 21, 22, 23, 24], [0, 1, 2, 3, 4, 5, 6, 7, 8, 9, 10, 11, 12, 13, 14, 15, 16, 17, 18, 19, 20, 21, 22, 23, 24], [], [0, 1, 6, 7]], Try.func51, by kernel_rfl, by kernel_rfl, by kernel_rfl⟩
theorem ok223 : FnOk Try.prog c F (223, 52, r223) := ⟨Try.f52, [], [[0, 1, 2, 8, 9]], Try.func52, by kernel_rfl, by kernel_rfl, by kernel_rfl⟩
theorem ok123 : FnOk Try.prog c F (123, 53, r123) := ⟨Try.f53, [], [], Try.func53, by kernel_rfl, by kernel_rfl, by kernel_rfl⟩
theorem ok124 : FnOk Try.prog c F (124, 54, r124) := ⟨Try.f54, [], [[0, 30, 31, 32], [0, 1, 2, 3, 4, 5, 6, 7, 8, 9, 10, 11, 12, 13, 14, 15, 16, 17, 18, 22, 23, 24, 25, 19, 20, 21, 26, 27, 28, 29, 30, 31], [0, 1, 2, 3, 4, 5, 6, 7, 8, 9, 10, 11, 12, 13, 14, 15, 16, 17, 18, 19, 20, 21, 22, 23, 24, 25, 26, 27, 28, 29, 30, 31], []], Try.func54, by kernel_rfl, by kernel_rfl, by kernel_rfl⟩
theorem ok107 : FnOk Try.prog c F (107, 55, r107) := ⟨Try.f55, [3], [], Try.func55, by kernel_rfl, by kernel_rfl, by kernel_rfl⟩
theorem ok7 : FnOk Try.prog c F (7, 56, r7) := ⟨Try.f56, [], [], Try.func56, by kernel_rfl, by kernel_rfl, by kernel_rfl⟩
theorem ok254 : FnOk Try.prog c F (254, 57, r254) := ⟨Try.f57, [], [], Try.func57, by kernel_rfl, by kernel_rfl, by kernel_rfl⟩
theorem ok255 : FnOk Try.prog c F (255, 58, r255) := ⟨Try.f58, [], [], Try.func58, by kernel_rfl, by kernel_rfl, by kernel_rfl⟩
theorem ok256 : FnOk Try.prog c F (256, 59, r256) := ⟨Try.f59, [], [[0, 1, 2, 3, 4, 5, 6, 7, 8, 9, 10, 11, 12, 13, 14, 15, 16, 17, 20, 21, 22, 23, 18, 19, 24, 25, 26, 27], [0, 1, 2, 3, 4, 5, 6, 7, 8, 9, 10, 11, 12, 13, 14, 15, 16, 17, 18, 19, 20, 21, 22, 23, 24, 25, 26, 27], []], Try.func59, by kernel_rfl, by kernel_rfl, by kernel_rfl⟩
theorem ok127 : FnOk Try.prog c F (127, 60, r127) := ⟨Try.f60, [], [], Try.func60, by kernel_rfl, by kernel_rfl, by kernel_rfl⟩
theorem ok122 : FnOk Try.prog c F (122, 69, r122) := ⟨Try.f69, [], [], Try.func69, by kernel_rfl, by kernel_rfl, by kernel_rfl⟩
theorem ok126 : FnOk Try.prog c F (126, 70, r126) := ⟨Try.f70, [], [[0, 1, 7, 8]], Try.func70, by kernel_rfl, by kernel_rfl, by kernel_rfl⟩
theorem ok125 : FnOk Try.prog c F (125, 71, r125) := ⟨Try.f71, [], [], Try.func71, by kernel_rfl, by kernel_rfl, by kernel_rfl⟩
theorem okT : (c.T.all fun x => x.2.okB Try.prog (mkCfgZ Try.prog tab ptab tags).ET (mkCfgZ Try.prog tab ptab tags).SZ x.1) = true := by kernel_rfl
theorem okF : (c.F.all fun x => decide ((mkCfgZ Try.prog tab ptab tags).G x.2 = some x.1)) = true := by kernel_rfl
theorem okTab : AllT (FnOk Try.prog c F) tab := ⟨ok354, ok67, ok355, ok187, ok68, ok356, ok184, ok71, ok285, ok357, ok94, ok358, ok287, ok118, ok288, ok102, ok103, ok115, ok180, ok105, ok179, ok116, ok106, ok224, ok108, ok369, ok117, ok135, ok5, ok120, ok121, ok104, ok221, ok222, ok223, ok123, ok124, ok107, ok7, ok254, ok255, ok256, ok127, ok122, ok126, ok125, trivial⟩
theorem okP : AllT (PFn Try.prog F) ptab := ⟨⟨⟨Try.f72, Try.func72, by kernel_rfl, by kernel_rfl⟩, rfl, step_ins _ _⟩, ⟨⟨Try.f73, Try.func73, by kernel_rfl, by kernel_rfl⟩, rfl, step_del _⟩, trivial⟩
theorem prog (O : Nat) : ProgOk ((mkCfgZ Try.prog tab ptab tags).at O) c F (primZ ptab) :=
  mkProgZ okT okF okTab okP ⟨⟩ trivial O ⟨ins_ok (ρ := renI 72 91 92 3 4 86 29) (k := 3) rfl rfl p269, del_ok (ρ := renD 73 3 4 86 29) (k := 3) rfl rfl p270, trivial⟩
theorem pr269 : PrimAt F (primZ ptab) 269 (insF 7 24) := primAt (ptab := ptab) (n := 269) (x := (72, (insF 7 24))) rfl rfl
theorem pr270 : PrimAt F (primZ ptab) 270 (delF 7) := primAt (ptab := ptab) (n := 270) (x := (73, (delF 7))) rfl rfl
theorem inI11 : AllT (fun x => F x.1 = some x.2) tI11 := ⟨rfl, rfl, rfl, rfl, rfl, rfl, trivial⟩
theorem inI12 : AllT (fun x => F x.1 = some x.2) tI12 := ⟨rfl, rfl, rfl, rfl, rfl, rfl, rfl, rfl, rfl, trivial⟩
theorem inLChart : AllT (fun x => F x.1 = some x.2) tLChart := ⟨rfl, rfl, rfl, rfl, rfl, rfl, trivial⟩
theorem inLInt : AllT (fun x => F x.1 = some x.2) tLInt := ⟨rfl, rfl, rfl, rfl, trivial⟩
theorem inLMapCmd : AllT (fun x => F x.1 = some x.2) tLMapCmd := ⟨rfl, rfl, rfl, rfl, rfl, rfl, trivial⟩
theorem inLRange : AllT (fun x => F x.1 = some x.2) tLRange := ⟨rfl, rfl, rfl, rfl, rfl, rfl, rfl, rfl, trivial⟩
theorem inLibslicesIndexFuncimplRangeimplRange : AllT (fun x => F x.1 = some x.2) tLibslicesIndexFuncimplRangeimplRange := ⟨rfl, trivial⟩
theorem inS01d : AllT (fun x => F x.1 = some x.2) tS01d := ⟨rfl, rfl, rfl, rfl, rfl, rfl, rfl, rfl, rfl, trivial⟩
theorem inS11 : AllT (fun x => F x.1 = some x.2) tS11 := ⟨rfl, rfl, rfl, rfl, rfl, rfl, rfl, trivial⟩
theorem inS12 : AllT (fun x => F x.1 = some x.2) tS12 := ⟨rfl, rfl, rfl, rfl, rfl, rfl, rfl, rfl, rfl, rfl, rfl, rfl, trivial⟩
theorem inWPlayMap : AllT (fun x => F x.1 = some x.2) tWPlayMap := ⟨rfl, trivial⟩
end Go.Proofs.Ytcdlbjomdokmiaa.A.ExactPlayMap
/- PlayMap: the law's function, run on any arguments, answers true. -/
namespace Go.Proofs.Ytcdlbjomdokmiaa.A
open Go
set_option linter.unusedSimpArgs false
set_option linter.unusedVariables false
set_option maxRecDepth 20000 in
set_option maxHeartbeats 2000000 in
theorem law_ExactPlayMap {F : Nat → Option RF} {Z : CallF} (hI11 : Has F tI11) (hI12 : Has F tI12) (hLChart : Has F tLChart) (hLInt : Has F tLInt) (hLMapCmd : Has F tLMapCmd) (hLRange : Has F tLRange) (hLibslicesIndexFuncimplRangeimplRange : Has F tLibslicesIndexFuncimplRangeimplRange) (hS01d : Has F tS01d) (hS11 : Has F tS11) (hS12 : Has F tS12) (hWPlayMap : Has F tWPlayMap) (pr269 : PrimAt F Z 269 (insF 7 24)) (pr270 : PrimAt F Z 270 (delF 7)) (h : Heap) (avs : List V) (hfl : h.floor = h.next) (w : ArgsWf h 8 [shChart, shMapCmdS] avs) : ∃ h', call F Z 354 avs h = some (.c (.bool true), h') := by
  obtain ⟨cc, _, rfl, cw, w1⟩ := ArgsWf.struct w
  obtain ⟨c, cp, cv, cok⟩ := Wf.isChart cw
  obtain ⟨cl1, cl2, cl3⟩ := Chart.lenL cv
  obtain ⟨qsx, _, rfl, qsw, w2⟩ := ArgsWf.slice w1
  obtain ⟨qs, qsp, qsv, qsok⟩ := Wf.isMapCmdS qsw
  obtain rfl := w2.nil
  have f0 : h.floor ≤ h.next := by omega
  rw [call_run F Z (hWPlayMap.lk (g := 354) rfl) _ _ rfl]
  obtain ⟨l0, s0, s0l, s0k⟩ := szChart_c hLChart hLRange (Z := Z) cv 1048576 (by omega) (by omega)
  simp only [run0, run1, run2, run3, run4, noSlot, ownS, ownK, memN, RO.dst, lk, drop, forget, number, Nat.reduceBEq, cut?, splice?, builds, List.length_cons, List.length_nil, List.drop_succ_cons, List.drop_zero, List.take_succ_cons, List.take_zero, List.cons_append, List.nil_append, List.append_nil, List.drop_nil, List.take_nil, Nat.reduceAdd, Nat.reduceLeDiff, Nat.zero_add, Nat.add_zero, ↓reduceIte, Bool.not_true, Bool.not_false, decide_true, decide_false, eq_self, bne_self_eq_false, List.getElem?_cons_zero, List.getElem?_cons_succ, decide_eq_true_eq, Bool.false_eq_true, Bool.true_eq_false, reduceCtorEq, Nat.le_refl, s0, cl1, cl2, cl3]
  by_cases hn0 : l0 < 0
  · simp only [run0, run1, run2, run3, run4, noSlot, ownS, ownK, memN, RO.dst, lk, drop, forget, number, Nat.reduceBEq, cut?, splice?, builds, List.length_cons, List.length_nil, List.drop_succ_cons, List.drop_zero, List.take_succ_cons, List.take_zero, List.cons_append, List.nil_append, List.append_nil, List.drop_nil, List.take_nil, Nat.reduceAdd, Nat.reduceLeDiff, Nat.zero_add, Nat.add_zero, ↓reduceIte, Bool.not_true, Bool.not_false, decide_true, decide_false, eq_self, bne_self_eq_false, List.getElem?_cons_zero, List.getElem?_cons_succ, decide_eq_true_eq, Bool.false_eq_true, Bool.true_eq_false, reduceCtorEq, Nat.le_refl, hn0]
    exact ⟨_, rfl⟩
  have sm0 := s0k (by omega)
  obtain ⟨l1, s1, s1l, s1k⟩ := szMapCmdS_c hLMapCmd (Z := Z) qsv l0 (by omega) (by omega)
  simp only [run0, run1, run2, run3, run4, noSlot, ownS, ownK, memN, RO.dst, lk, drop, forget, number, Nat.reduceBEq, cut?, splice?, builds, List.length_cons, List.length_nil, List.drop_succ_cons, List.drop_zero, List.take_succ_cons, List.take_zero, List.cons_append, List.nil_append, List.append_nil, List.drop_nil, List.take_nil, Nat.reduceAdd, Nat.reduceLeDiff, Nat.zero_add, Nat.add_zero, ↓reduceIte, Bool.not_true, Bool.not_false, decide_true, decide_false, eq_self, bne_self_eq_false, List.getElem?_cons_zero, List.getElem?_cons_succ, decide_eq_true_eq, Bool.false_eq_true, Bool.true_eq_false, reduceCtorEq, Nat.le_refl, s1, hn0, cl1, cl2, cl3]
  by_cases hn1 : l1 < 0
  · simp only [run0, run1, run2, run3, run4, noSlot, ownS, ownK, memN, RO.dst, lk, drop, forget, number, Nat.reduceBEq, cut?, splice?, builds, List.length_cons, List.length_nil, List.drop_succ_cons, List.drop_zero, List.take_succ_cons, List.take_zero, List.cons_append, List.nil_append, List.append_nil, List.drop_nil, List.take_nil, Nat.reduceAdd, Nat.reduceLeDiff, Nat.zero_add, Nat.add_zero, ↓reduceIte, Bool.not_true, Bool.not_false, decide_true, decide_false, eq_self, bne_self_eq_false, List.getElem?_cons_zero, List.getElem?_cons_succ, decide_eq_true_eq, Bool.false_eq_true, Bool.true_eq_false, reduceCtorEq, Nat.le_refl, hn1]
    exact ⟨_, rfl⟩
  have sm1 := s1k (by omega)
  have flr : h.floor = h.next := hfl
  have Tcv := Chart.okL.lt cv
  have Tqsv := qsv.lt (Fl.ok _)
  obtain ⟨y1, h1, p1, e1, o1, v1, q1⟩ := toChart_c hLChart hLRange (Z := Z) f0 cv sm0
  replace cv := Chart.okL.on cv o1
  replace qsv := qsv.on (Fl.ok _) o1
  have n1 := o1.ext.1
  have g1 := o1.fl
  have f1 := o1.le f0
  obtain ⟨vl1, vt1, vd1⟩ := Chart.lenI v1
  obtain ⟨y2, h2, p2, e2, o2, v2, q2⟩ := toMapCmdS_c hLMapCmd (Z := Z) f1 qsv sm1
  replace cv := Chart.okL.on cv o2
  replace qsv := qsv.on (Fl.ok _) o2
  replace v1 := Chart.okI.on v1 o2
  have n2 := o2.ext.1
  have g2 := o2.fl
  have f2 := o2.le f1
  obtain ⟨r3_0, r3_1, h3, p3_0, p3_1, e3, o3, v3_0, q3_0, v3_1, q3_1, dj3⟩ := sPlayMap_c hS01d hS11 hS12 (Z := Z) f2 v1 v2 cok sm0 qsok
  replace cv := Chart.okL.on cv o3
  replace qsv := qsv.on (Fl.ok _) o3
  replace v1 := Chart.okI.on v1 o3
  replace v2 := v2.on (Fl.ok _) o3
  have n3 := o3.ext.1
  have g3 := o3.fl
  have f3 := o3.le f2
  have Tv3_0 := Chart.okI.lt v3_0
  have Tv3_1 := v3_1.lt (Fl.ok _)
  obtain ⟨vl3_0, vt3_0, vd3_0⟩ := Chart.lenI v3_0
  obtain ⟨y4, h4, p4, e4, o4, v4, q4⟩ := toChart_c hLChart hLRange (Z := Z) f3 cv sm0
  replace cv := Chart.okL.on cv o4
  replace qsv := qsv.on (Fl.ok _) o4
  replace v1 := Chart.okI.on v1 o4
  replace v2 := v2.on (Fl.ok _) o4
  replace v3_0 := Chart.okI.on v3_0 o4
  replace v3_1 := v3_1.on (Fl.ok _) o4
  have n4 := o4.ext.1
  have g4 := o4.fl
  have f4 := o4.le f3
  have Tv4 := Chart.okI.lt v4
  obtain ⟨vl4, vt4, vd4⟩ := Chart.lenI v4
  obtain ⟨y5, h5, p5, e5, o5, v5, q5⟩ := toMapCmdS_c hLMapCmd (Z := Z) f4 qsv sm1
  replace cv := Chart.okL.on cv o5
  replace qsv := qsv.on (Fl.ok _) o5
  replace v1 := Chart.okI.on v1 o5
  replace v2 := v2.on (Fl.ok _) o5
  replace v3_0 := Chart.okI.on v3_0 o5
  replace v3_1 := v3_1.on (Fl.ok _) o5
  replace v4 := Chart.okI.on v4 o5
  have n5 := o5.ext.1
  have g5 := o5.fl
  have f5 := o5.le f4
  have Tv5 := v5.lt (Fl.ok _)
  obtain ⟨r6_0, r6_1, h6, p6_0, p6_1, e6, o6, v6_0, q6_0, v6_1, q6_1, dj6⟩ := PlayMap_c hI11 hI12 hLibslicesIndexFuncimplRangeimplRange pr269 pr270 (Z := Z) f5 v4 v5 cok sm0 qsok
  replace cv := Chart.okL.on cv o6
  replace qsv := qsv.on (Fl.ok _) o6
  replace v1 := Chart.okI.on v1 o6
  replace v2 := v2.on (Fl.ok _) o6
  replace v3_0 := Chart.okI.on v3_0 o6
  replace v3_1 := v3_1.on (Fl.ok _) o6
  replace v4 := Chart.okI.on v4 o6
  replace v5 := v5.on (Fl.ok _) o6
  have n6 := o6.ext.1
  have g6 := o6.fl
  have f6 := o6.le f5
  obtain ⟨vl6_0, vt6_0, vd6_0⟩ := Chart.lenI v6_0
  have c1 := eqChart_r hLChart hLRange (Z := Z) v6_0 v3_0
  have c2 := eqIntS_run hLInt (Z := Z) v6_1 v3_1
  obtain ⟨y7, hq7, p7, e7, oq7, vq7, qq7⟩ := toChart_c hLChart hLRange (Z := Z) (h := ⟨h6.next, h6.next, h6.get⟩) (Nat.le_refl _) (Chart.okL.up cv _) sm0
  obtain ⟨h7, mq7⟩ : ∃ g, Heap.mk hq7.next h6.floor hq7.get = g := ⟨_, rfl⟩
  have o7 : On h6 h7 := by rw [← mq7]; exact ⟨⟨oq7.ext.1, oq7.ext.2⟩, rfl⟩
  have v7 := Chart.okI.up vq7 h6.floor
  rw [mq7] at v7
  have q7 : Fre h6 p7 := ⟨qq7.lo, qq7.nd⟩
  replace cv := Chart.okL.on cv o7
  replace qsv := qsv.on (Fl.ok _) o7
  replace v1 := Chart.okI.on v1 o7
  replace v2 := v2.on (Fl.ok _) o7
  replace v3_0 := Chart.okI.on v3_0 o7
  replace v3_1 := v3_1.on (Fl.ok _) o7
  replace v4 := Chart.okI.on v4 o7
  replace v5 := v5.on (Fl.ok _) o7
  replace v6_0 := Chart.okI.on v6_0 o7
  replace v6_1 := v6_1.on (Fl.ok _) o7
  have n7 := o7.ext.1
  have g7 := o7.fl
  have f7 := o7.le f6
  obtain ⟨vl7, vt7, vd7⟩ := Chart.lenI v7
  have c3 := eqChart_r hLChart hLRange (Z := Z) (h := ⟨h7.next, h7.next, h7.get⟩) (Chart.okI.up v4 _) (Chart.okI.up v7 _)
  obtain ⟨y8, h8, p8, e8, o8, v8, q8⟩ := toMapCmdS_c hLMapCmd (Z := Z) f7 qsv sm1
  replace cv := Chart.okL.on cv o8
  replace qsv := qsv.on (Fl.ok _) o8
  replace v1 := Chart.okI.on v1 o8
  replace v2 := v2.on (Fl.ok _) o8
  replace v3_0 := Chart.okI.on v3_0 o8
  replace v3_1 := v3_1.on (Fl.ok _) o8
  replace v4 := Chart.okI.on v4 o8
  replace v5 := v5.on (Fl.ok _) o8
  replace v6_0 := Chart.okI.on v6_0 o8
  replace v6_1 := v6_1.on (Fl.ok _) o8
  have n8 := o8.ext.1
  have g8 := o8.fl
  have f8 := o8.le f7
  have c4 := eqMapCmdS_run hLMapCmd (Z := Z) v5 v8
  have hb1 := Chart.wt_le sm0
  have hb2 := c.wt_nn
  have hb3 := Chart.wt_le (playMap_small sm0 qs)
  have hb4 := (playMap c qs).1.wt_nn
  have hb5 := playMap_len c qs
  have hb6 : qs.length ≤ 1048576 := sm1
  have lo9 : ∀ id, id ∈ p4 → h8.floor ≤ id := fun id hid => by have := q4.lo id hid; omega
  obtain ⟨h9, m9, k9, u9⟩ := markChart_r hLChart hLRange (Z := Z) v4 q4.nd lo9 (1) (by omega) (by omega)
  replace cv := Chart.okL.mk' cv k9 fun id h1 h2 => by have a1 := q4.lo id h2; have a2 := Tcv id h1; omega
  replace qsv := qsv.mk (Fl.ok _) k9 fun id h1 h2 => by have a1 := q4.lo id h2; have a2 := Tqsv id h1; omega
  replace v3_0 := Chart.okI.mk' v3_0 k9 fun id h1 h2 => by have a1 := q4.lo id h2; have a2 := Tv3_0 id h1; omega
  replace v3_1 := v3_1.mk (Fl.ok _) k9 fun id h1 h2 => by have a1 := q4.lo id h2; have a2 := Tv3_1 id h1; omega
  replace v5 := v5.mk (Fl.ok _) k9 fun id h1 h2 => by have a1 := q4.lo id h2; have a2 := Tv4 id h2; have a3 := q5.lo id h1; omega
  replace v6_0 := Chart.okI.mk' v6_0 k9 fun id h1 h2 => by have a1 := q4.lo id h2; have a2 := Tv4 id h2; have a3 := q6_0.lo id h1; omega
  replace v6_1 := v6_1.mk (Fl.ok _) k9 fun id h1 h2 => by have a1 := q4.lo id h2; have a2 := Tv4 id h2; have a3 := q6_1.lo id h1; omega
  have n9 := k9.next
  have g9 := k9.fl
  have f9 : h9.floor ≤ h9.next := by omega
  replace v4 := u9
  have hk9 : ¬ (1 + c.wt : Int) < 0 := by omega
  have lo10 : ∀ id, id ∈ p5 → h9.floor ≤ id := fun id hid => by have := q5.lo id hid; omega
  obtain ⟨h10, m10, k10, u10⟩ := markMapCmdS_run hLMapCmd (Z := Z) v5 lo10 (1 + c.wt) (by omega) (by omega)
  replace cv := Chart.okL.mk' cv k10 fun id h1 h2 => by have a1 := q5.lo id h2; have a2 := Tcv id h1; omega
  replace qsv := qsv.mk (Fl.ok _) k10 fun id h1 h2 => by have a1 := q5.lo id h2; have a2 := Tqsv id h1; omega
  replace v3_0 := Chart.okI.mk' v3_0 k10 fun id h1 h2 => by have a1 := q5.lo id h2; have a2 := Tv3_0 id h1; omega
  replace v3_1 := v3_1.mk (Fl.ok _) k10 fun id h1 h2 => by have a1 := q5.lo id h2; have a2 := Tv3_1 id h1; omega
  replace v6_0 := Chart.okI.mk' v6_0 k10 fun id h1 h2 => by have a1 := q5.lo id h2; have a2 := Tv5 id h2; have a3 := q6_0.lo id h1; omega
  replace v6_1 := v6_1.mk (Fl.ok _) k10 fun id h1 h2 => by have a1 := q5.lo id h2; have a2 := Tv5 id h2; have a3 := q6_1.lo id h1; omega
  have n10 := k10.next
  have g10 := k10.fl
  have f10 : h10.floor ≤ h10.next := by omega
  replace v5 := u10
  have hk10 : ¬ (1 + c.wt + 3 * ((qs.length : Nat) : Int) : Int) < 0 := by omega
  have c5 := eqChart_r hLChart hLRange (Z := Z) v6_0 v3_0
  have c6 := eqIntS_run hLInt (Z := Z) v6_1 v3_1
  have lo11 : ∀ id, id ∈ p6_0 → h10.floor ≤ id := fun id hid => by have := q6_0.lo id hid; omega
  obtain ⟨h11, m11, k11, u11⟩ := markChart_r hLChart hLRange (Z := Z) v6_0 q6_0.nd lo11 (1) (by omega) (by omega)
  replace cv := Chart.okL.mk' cv k11 fun id h1 h2 => by have a1 := q6_0.lo id h2; have a2 := Tcv id h1; omega
  replace qsv := qsv.mk (Fl.ok _) k11 fun id h1 h2 => by have a1 := q6_0.lo id h2; have a2 := Tqsv id h1; omega
  replace v3_0 := Chart.okI.mk' v3_0 k11 fun id h1 h2 => by have a1 := q6_0.lo id h2; have a2 := Tv3_0 id h1; omega
  replace v3_1 := v3_1.mk (Fl.ok _) k11 fun id h1 h2 => by have a1 := q6_0.lo id h2; have a2 := Tv3_1 id h1; omega
  replace v6_1 := v6_1.mk (Fl.ok _) k11 fun id h1 h2 => dj6 id h2 h1
  have n11 := k11.next
  have g11 := k11.fl
  have f11 : h11.floor ≤ h11.next := by omega
  replace v6_0 := u11
  have lo12 : ∀ id, id ∈ p6_1 → h11.floor ≤ id := fun id hid => by have := q6_1.lo id hid; omega
  obtain ⟨h12, m12, k12, u12⟩ := markIntS_run hLInt (Z := Z) v6_1 lo12 (1 + ((playMap c qs).1).wt) (by omega) (by omega)
  replace cv := Chart.okL.mk' cv k12 fun id h1 h2 => by have a1 := q6_1.lo id h2; have a2 := Tcv id h1; omega
  replace qsv := qsv.mk (Fl.ok _) k12 fun id h1 h2 => by have a1 := q6_1.lo id h2; have a2 := Tqsv id h1; omega
  replace v3_0 := Chart.okI.mk' v3_0 k12 fun id h1 h2 => by have a1 := q6_1.lo id h2; have a2 := Tv3_0 id h1; omega
  replace v3_1 := v3_1.mk (Fl.ok _) k12 fun id h1 h2 => by have a1 := q6_1.lo id h2; have a2 := Tv3_1 id h1; omega
  replace v6_0 := Chart.okI.mk' v6_0 k12 fun id h1 h2 => dj6 id h1 h2
  have n12 := k12.next
  have g12 := k12.fl
  have f12 : h12.floor ≤ h12.next := by omega
  replace v6_1 := u12
  have hkk : ¬ (1 + ((playMap c qs).1).wt + 1 * (((playMap c qs).2.length : Nat) : Int) : Int) < 0 := by omega
  have d7 := heldChart_r hLChart hLRange (Z := Z) v6_0 (by omega) (by omega)
  have hh8 : ¬ (1 + ((playMap c qs).1).wt : Int) < 0 := by omega
  have d9 := heldIntS_run hLInt (Z := Z) v6_1 (by omega) (by omega)
  have hh10 : ¬ (1 + ((playMap c qs).1).wt + 1 * (((playMap c qs).2.length : Nat) : Int) : Int) < 0 := by omega
  obtain ⟨y13, h13, p13, e13, o13, v13, q13⟩ := toChart_c hLChart hLRange (Z := Z) f12 cv sm0
  replace cv := Chart.okL.on cv o13
  replace qsv := qsv.on (Fl.ok _) o13
  replace v3_0 := Chart.okI.on v3_0 o13
  replace v3_1 := v3_1.on (Fl.ok _) o13
  replace v6_0 := Chart.okI.on v6_0 o13
  replace v6_1 := v6_1.on (Fl.ok _) o13
  have n13 := o13.ext.1
  have g13 := o13.fl
  have f13 := o13.le f12
  obtain ⟨vl13, vt13, vd13⟩ := Chart.lenI v13
  obtain ⟨y14, h14, p14, e14, o14, v14, q14⟩ := toMapCmdS_c hLMapCmd (Z := Z) f13 qsv sm1
  replace cv := Chart.okL.on cv o14
  replace qsv := qsv.on (Fl.ok _) o14
  replace v3_0 := Chart.okI.on v3_0 o14
  replace v3_1 := v3_1.on (Fl.ok _) o14
  replace v6_0 := Chart.okI.on v6_0 o14
  replace v6_1 := v6_1.on (Fl.ok _) o14
  replace v13 := Chart.okI.on v13 o14
  have n14 := o14.ext.1
  have g14 := o14.fl
  have f14 := o14.le f13
  obtain ⟨r15_0, r15_1, h15, p15_0, p15_1, e15, o15, v15_0, q15_0, v15_1, q15_1, dj15⟩ := PlayMap_c hI11 hI12 hLibslicesIndexFuncimplRangeimplRange pr269 pr270 (Z := Z) f14 v13 v14 cok sm0 qsok
  replace cv := Chart.okL.on cv o15
  replace qsv := qsv.on (Fl.ok _) o15
  replace v3_0 := Chart.okI.on v3_0 o15
  replace v3_1 := v3_1.on (Fl.ok _) o15
  replace v6_0 := Chart.okI.on v6_0 o15
  replace v6_1 := v6_1.on (Fl.ok _) o15
  replace v13 := Chart.okI.on v13 o15
  replace v14 := v14.on (Fl.ok _) o15
  have n15 := o15.ext.1
  have g15 := o15.fl
  have f15 := o15.le f14
  obtain ⟨vl15_0, vt15_0, vd15_0⟩ := Chart.lenI v15_0
  have c11 := eqChart_r hLChart hLRange (Z := Z) v15_0 v3_0
  have c12 := eqIntS_run hLInt (Z := Z) v15_1 v3_1
  have d13 := heldChart_r hLChart hLRange (Z := Z) v6_0 (by omega) (by omega)
  have hh14 : ¬ (1 + ((playMap c qs).1).wt : Int) < 0 := by omega
  have d15 := heldIntS_run hLInt (Z := Z) v6_1 (by omega) (by omega)
  have hh16 : ¬ (1 + ((playMap c qs).1).wt + 1 * (((playMap c qs).2.length : Nat) : Int) : Int) < 0 := by omega
  simp only [run0, run1, run2, run3, run4, noSlot, ownS, ownK, memN, RO.dst, lk, drop, forget, number, Nat.reduceBEq, cut?, splice?, builds, List.length_cons, List.length_nil, List.drop_succ_cons, List.drop_zero, List.take_succ_cons, List.take_zero, List.cons_append, List.nil_append, List.append_nil, List.drop_nil, List.take_nil, Nat.reduceAdd, Nat.reduceLeDiff, Nat.zero_add, Nat.add_zero, ↓reduceIte, Bool.not_true, Bool.not_false, decide_true, decide_false, eq_self, bne_self_eq_false, List.getElem?_cons_zero, List.getElem?_cons_succ, decide_eq_true_eq, Bool.false_eq_true, Bool.true_eq_false, reduceCtorEq, Nat.le_refl, hn0, hn1, cl1, cl2, cl3, e1, vl1, vt1, vd1, e2, e3, vl3_0, vt3_0, vd3_0, e4, vl4, vt4, vd4, e5, e6, vl6_0, vt6_0, vd6_0, c1, c2, mq7, e7, vl7, vt7, vd7, c3, e8, c4, m9, hk9, m10, hk10, c5, c6, m11, m12, hkk, d7, hh8, d9, hh10, e13, vl13, vt13, vd13, e14, e15, vl15_0, vt15_0, vd15_0, c11, c12, d13, hh14, d15, hh16]
  exact ⟨_, rfl⟩
end Go.Proofs.Ytcdlbjomdokmiaa.A
/- FnExactPlayMap: the row's statement, from the law of the abstract run. No condition. -/
namespace Go.Proofs.Ytcdlbjomdokmiaa.A.ExactPlayMap
open Go Go.ChangeShapes Go.WideShapes Go.ChangeAt Go.RowKit
theorem own : ownKnob Try.prog.godebug = none := by kernel_rfl
set_option maxRecDepth 100000 in
theorem lifted (os : Os) (started : os.Started) (H : Type) (enc : TypeId × Value → H) :
    ReturnsInHanded {} Try.checked os 3 .any (Rows.fnExactPlayMapSpec.pre6 enc Try.prog Try.f3 Rows.fnExactPlayMapRow.domain false) (Rows.fnExactPlayMapSpec.post enc Try.prog Try.f3 false true false false) := by
  refine returnsInHanded_of_change_sized (C := Try.checked) own started (by kernel_rfl) Try.func3
    (ChangeSpec.witness6 (enc := enc) (C := Try.checked) false ⟨#[], #[.agg #[.int .i64 0, .slice none 0 0, .bool false, .int .u64 0, .int .i64 0], .slice none 0 0], []⟩ 8 (by kernel_rfl) (by kernel_rfl) (by kernel_rfl) (by kernel_rfl)) ?_
  intro W base args ds gs before hval hW _ _ _
  have hW' := hW
  obtain ⟨p, q, hA, hV, rfl, hfz, hnd⟩ := hW
  obtain ⟨rfl, rfl⟩ := trodVars_none hV
  have r0 : DataW.TrodAll enc Try.prog W 0 (fun _ => true) true [25, 26] args.toList ds p := hA
  obtain ⟨_, _, d0, _, _, _, _, rfl, _, _, r1⟩ := trodAll_cons r0
  obtain ⟨_, _, d1, _, _, _, _, rfl, _, _, r2⟩ := trodAll_cons r1
  obtain ⟨_, rfl, _⟩ := trodAll_nil r2
  refine (law_calls (ts := [25, 26]) (ss := [shChart, shMapCmdS]) prog (show (mkCfgZ Try.prog tab ptab tags).G 354 = some 3 from by kernel_rfl) ⟨show shIs Try.prog (mkCfgZ Try.prog tab ptab tags).ET (mkCfgZ Try.prog tab ptab tags).SZ 8 25 shChart = true from by kernel_rfl, show shIs Try.prog (mkCfgZ Try.prog tab ptab tags).ET (mkCfgZ Try.prog tab ptab tags).SZ 8 26 shMapCmdS = true from by kernel_rfl, trivial⟩ (law_ExactPlayMap inI11 inI12 inLChart inLInt inLMapCmd inLRange inLibslicesIndexFuncimplRangeimplRange inS01d inS11 inS12 inWPlayMap pr269 pr270) (fun j t v h1 => hval j t v (by rw [Try.params3]; exact (List.getElem?_toArray ..).trans h1)) hA).mono fun e W' ⟨he, bel⟩ => ?_
  subst he
  exact ⟨_, rfl, _, _, _, [], _, [], hW', trodAll_mk1 (shut_bool Try.underlying4 _), trodAll_below (by kernel_rfl) bel _ _ _ _ (by kernel_rfl) hA hA.lt, rfl, bel.frame _, fun h => by cases h⟩
theorem over : Rows.fnExactPlayMapRow.holds Try.pinned (OpenSpec.ofChange Rows.fnExactPlayMapSpec) :=
  OpenClaim.holds_of_wide 3 Try.f3 rfl rfl rfl rfl rfl rfl rfl ⟨rfl, rfl, rfl, rfl, rfl⟩ rfl rfl rfl rfl rfl (by kernel_rfl) Try.func3 (by kernel_rfl)
    (of_decide_eq_true (by kernel_rfl)) (by unfold Func.isWrapper; first | (rw [if_pos (by decide +kernel)]; kernel_rfl) | (rw [if_neg (by decide +kernel)]; exact ⟨rfl, rfl⟩))
    (fun os started H enc _ => lifted os started H enc)
end Go.Proofs.Ytcdlbjomdokmiaa.A.ExactPlayMap
namespace Go.Proofs.Ytcdlbjomdokmiaa
/-- The row. -/
theorem fnExactPlayMap_holds : Rows.FnExactPlayMapSaid := A.ExactPlayMap.over
#print axioms fnExactPlayMap_holds
end Go.Proofs.Ytcdlbjomdokmiaa
