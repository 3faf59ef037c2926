/- FnCharts: the statement, from the law of the abstract run. No condition. -/
import Derived.Test.YtlbagejkjkfkjaaHCCharts3
import Derived.Test.YtlbagejkjkfkjaaB6
import Derived.Test.YtlbagejkjkfkjaaZ7
import Derived.Test.YtlbagejkjkfkjaaProg
import Derived.Test.YtlbagejkjkfkjaaRows
import Derived.ProofKit
import Derived.OpenShut
import Derived.ShutString
import Derived.ChangeOld
import Derived.Below
import Derived.SizedLaws
/- The functions that FnCharts reaches: the program's code against the compact code, entry by entry. -/
namespace Go.Proofs.Ytlbagejkjkfkjaa.A.Charts
open Go
def c : CC where
  T := [(3, ⟨1, 8, false, some [.int .i64 0], (.int .i64)⟩),
    (4, ⟨1, 1, false, some [.bool false], .bool⟩),
    (5, ⟨1, 1, false, some [.int .u8 0], (.int .u8)⟩),
    (22, ⟨1, 24, false, some [.nil], (.slice 5 19)⟩),
    (24, ⟨1, 8, false, some [.int .u64 0], (.int .u64)⟩),
    (46, ⟨1, 24, false, some [.nil], (.slice 175 7)⟩),
    (48, ⟨5, 56, true, some [.int .i64 0, .nil, .bool false, .int .u64 0, .int .i64 0], (.struct [(0, 1, false), (1, 1, false), (2, 1, false), (3, 1, false), (4, 1, false)])⟩),
    (121, ⟨3, 24, true, some [.int .i64 0, .int .u64 0, .int .i64 0], (.struct [(0, 1, false), (1, 1, false), (2, 1, false)])⟩),
    (126, ⟨1, 24, false, some [.nil], (.slice 121 14)⟩),
    (129, ⟨1, 24, false, some [.nil], (.slice 3 15)⟩),
    (133, ⟨1, 24, false, some [.nil], (.slice 24 13)⟩),
    (175, ⟨3, 24, true, some [.int .u64 0, .int .u64 0, .int .i64 0], (.struct [(0, 1, false), (1, 1, false), (2, 1, false)])⟩),
    (195, ⟨3, 40, true, some [.nil, .int .i64 0, .int .i64 0], (.struct [(0, 1, false), (1, 1, false), (2, 1, false)])⟩)]
  F := [(13, 182), (15, 144), (55, 177), (57, 180), (60, 181), (64, 183), (65, 184), (66, 185), (67, 186), (68, 70), (69, 74), (70, 187), (77, 194), (94, 5), (115, 107), (116, 106), (117, 116), (119, 115), (120, 103), (121, 104), (122, 121), (123, 221), (124, 222), (125, 223), (127, 224), (131, 225), (132, 226), (133, 227), (145, 236), (148, 238), (149, 239), (156, 7), (171, 126), (172, 125), (173, 124), (174, 120), (175, 122), (177, 254), (178, 255), (179, 256), (181, 257), (182, 258), (190, 263), (202, 269), (203, 270), (204, 271)]
  eqT := [(175, [.i .u64, .i .u64, .i .i64])]
  adds := []
def F : Nat → Option RF := lk (tI11 ++ tI12 ++ tLChart ++ tLRange ++ tLaws ++ tLibslicesIndexFuncimplRangeimplRange ++ tS01d ++ tS11 ++ tS12 ++ tWFnCharts)
def tab : List (Nat × FuncId × RF) := [(182, 13, r182), (144, 15, r144), (177, 55, r177), (181, 60, r181), (183, 64, r183), (184, 65, r184), (185, 66, r185), (186, 67, r186), (70, 68, r70), (74, 69, r74), (187, 70, r187), (224, 127, r224), (194, 77, r194), (225, 131, r225), (226, 132, r226), (106, 116, r106), (116, 117, r116), (227, 133, r227), (107, 115, r107), (180, 57, r180), (115, 119, r115), (103, 120, r103), (7, 156, r7), (254, 177, r254), (255, 178, r255), (256, 179, r256), (236, 145, r236), (257, 181, r257), (238, 148, r238), (258, 182, r258), (124, 173, r124), (126, 171, r126), (125, 172, r125), (5, 94, r5), (104, 121, r104), (121, 122, r121), (221, 123, r221), (222, 124, r222), (223, 125, r223), (120, 174, r120), (263, 190, r263), (239, 149, r239), (271, 204, r271), (122, 175, r122)]
def tags : List (Nat × TypeId × Nat) := [(7, 175, 3), (13, 24, 1), (14, 121, 3), (15, 3, 1), (19, 5, 1)]
open Go.Shelf
def ptab : List (Nat × FuncId × PrimF) := [(269, 202, (insF 7 24)), (270, 203, (delF 7))]
theorem i175 : (Try.prog.info? 175).isSome = true := by kernel_rfl
noncomputable def inf175 : TypeInfo := (Try.prog.info? 175).get i175
theorem z175 : inf175.zero.isSome = true := by kernel_rfl
noncomputable def zv175 : Value := inf175.zero.get z175
theorem p269 : Z.InsT Try.prog (renI 202 211 212 3 4 175 46) 3 24 zv175 where
  mixed := by kernel_rfl
  f22 := ⟨(Try.prog.funcs[202]?.map (·.name)).getD "", by kernel_rfl, by kernel_rfl⟩
  f29 := ⟨Try.f211, Try.func211, by kernel_rfl, by kernel_rfl, by kernel_rfl, by kernel_rfl⟩
  t3 := by kernel_rfl
  t4 := by kernel_rfl
  t24 := by kernel_rfl
  i9 := ⟨inf175, (Option.some_get i175).symm, by kernel_rfl, by kernel_rfl, (Option.some_get z175).symm, by kernel_rfl, by decide⟩
theorem p270 : Z.DelT Try.prog (renD 203 3 4 175 46) 3 zv175 where
  mixed := by kernel_rfl
  f45 := ⟨(Try.prog.funcs[203]?.map (·.name)).getD "", by kernel_rfl, by kernel_rfl⟩
  t3 := by kernel_rfl
  t4 := by kernel_rfl
  t22 := by kernel_rfl
  i23 := ⟨inf175, (Option.some_get i175).symm, by kernel_rfl, by kernel_rfl, by decide, (Option.some_get z175).symm, List.all_eq_true.1 (show (zv175.cells.toList.all (·.oneCell')) = true from by kernel_rfl)⟩
theorem ok182 : FnOk Try.prog c F (182, 13, r182) := ⟨Try.f13, [], [[3, 4, 6, 7, 8], [9, 1, 2, 3, 0, 4, 5, 6, 7, 8, 10, 11], [0, 1, 2, 3, 4, 5, 6, 7, 9, 10, 8, 11], [], [], [3, 4, 6, 7, 8, 9, 11], [1, 2, 3, 0, 4, 5, 6, 7, 8, 9, 10], [0, 1, 2, 3, 4, 5, 6, 7, 9, 8, 10], [], [], [1, 2, 3, 0, 4, 5, 6, 7, 8, 9, 10], [0, 1, 2, 3, 4, 5, 6, 7, 9, 8, 10], [], [], [0, 1, 2, 3, 4, 5, 6, 7, 8, 11, 12, 13, 16, 17, 18, 9, 10, 14, 15, 19, 20], [0, 1, 2, 3, 4, 5, 6, 7, 8, 9, 10, 11, 12, 13, 14, 15, 16, 17, 18, 19, 20], [], []], Try.func13, by kernel_rfl, by kernel_rfl, by kernel_rfl⟩
theorem ok144 : FnOk Try.prog c F (144, 15, r144) := ⟨Try.f15, [], [], Try.func15, by kernel_rfl, by kernel_rfl, by kernel_rfl⟩
theorem ok177 : FnOk Try.prog c F (177, 55, r177) := ⟨Try.f55, [], [], Try.func55, by kernel_rfl, by kernel_rfl, by kernel_rfl⟩
theorem ok181 : FnOk Try.prog c F (181, 60, r181) := ⟨Try.f60, [], [], Try.func60, by kernel_rfl, by kernel_rfl, by kernel_rfl⟩
theorem ok183 : FnOk Try.prog c F (183, 64, r183) := ⟨Try.f64, [], [[1, 2, 0, 3, 4, 5], [0, 1, 2, 3, 4, 5], [], [0, 3]], Try.func64, by kernel_rfl, by kernel_rfl, by kernel_rfl⟩
theorem ok184 : FnOk Try.prog c F (184, 65, r184) := ⟨Try.f65, [], [[4, 6, 7, 24, 25, 26]], Try.func65, by kernel_rfl, by kernel_rfl, by kernel_rfl⟩
theorem ok185 : FnOk Try.prog c F (185, 66, r185) := ⟨Try.f66, [], [], Try.func66, by kernel_rfl, by kernel_rfl, by kernel_rfl⟩
theorem ok186 : FnOk Try.prog c F (186, 67, r186) := ⟨Try.f67, [], [], Try.func67, by kernel_rfl, by kernel_rfl, by kernel_rfl⟩
theorem ok70 : FnOk Try.prog c F (70, 68, r70) := ⟨Try.f68, [], [[4, 0, 1, 2, 3, 9, 10, 5, 6, 7, 8, 11, 12], [0, 1, 2, 3, 4, 5, 6, 7, 8, 11, 9, 10, 12], [], []], Try.func68, by kernel_rfl, by kernel_rfl, by kernel_rfl⟩
theorem ok74 : FnOk Try.prog c F (74, 69, r74) := ⟨Try.f69, [], [[0, 1, 2, 3, 4, 5, 6, 11, 20, 7, 8, 9, 10, 16, 17, 18, 19, 12, 13, 14, 15, 21, 22, 23, 24, 25, 26, 27], [0, 1, 2, 3, 4, 5, 6, 7, 8, 9, 10, 11, 12, 13, 14, 15, 16, 17, 18, 19, 20, 21, 22, 23, 24, 25, 26, 27], [], []], Try.func69, by kernel_rfl, by kernel_rfl, by kernel_rfl⟩
theorem ok187 : FnOk Try.prog c F (187, 70, r187) := ⟨Try.f70, [], [[1, 4, 6, 7, 8], [9, 1, 2, 3, 0, 4, 5, 6, 7, 8, 10, 11], [0, 1, 2, 3, 4, 5, 6, 7, 9, 10, 8, 11], [], []], Try.func70, by kernel_rfl, by kernel_rfl, by kernel_rfl⟩
theorem ok224 : FnOk Try.prog c F (224, 127, r224) := ⟨Try.f127, [2], [[0, 1, 2, 3, 4, 5, 7, 8, 6, 9, 10, 11], [0, 1, 2, 3, 4, 5, 6, 7, 8, 9, 10, 11], [], []], Try.func127, by kernel_rfl, by kernel_rfl, by kernel_rfl⟩
theorem ok194 : FnOk Try.prog c F (194, 77, r194) := ⟨Try.f77, [31], [[0, 3, 4]], Try.func77, by kernel_rfl, by kernel_rfl, by kernel_rfl⟩
theorem ok225 : FnOk Try.prog c F (225, 131, r225) := ⟨Try.f131, [], [], Try.func131, by kernel_rfl, by kernel_rfl, by kernel_rfl⟩
theorem ok226 : FnOk Try.prog c F (226, 132, r226) := ⟨Try.f132, [], [[0, 5, 6]], Try.func132, by kernel_rfl, by kernel_rfl, by kernel_rfl⟩
theorem ok106 : FnOk Try.prog c F (106, 116, r106) := ⟨Try.f116, [], [[9, 0, 1, 2, 3, 4, 5, 6, 7, 8, 10], [0, 1, 2, 3, 4, 5, 6, 7, 8, 9, 10], [], []], Try.func116, by kernel_rfl, by kernel_rfl, by kernel_rfl⟩
theorem ok116 : FnOk Try.prog c F (116, 117, r116) := ⟨Try.f117, [], [], Try.func117, by kernel_rfl, by kernel_rfl, by kernel_rfl⟩
theorem ok227 : FnOk Try.prog c F (227, 133, r227) := ⟨Try.f133, [], [[0, 1, 5], [0, 1, 2, 4, 5, 6, 3, 7, 8], [0, 1, 2, 3, 4, 5, 6, 7, 8], [], []], Try.func133, by kernel_rfl, by kernel_rfl, by kernel_rfl⟩
theorem ok107 : FnOk Try.prog c F (107, 115, r107) := ⟨Try.f115, [3], [], Try.func115, by kernel_rfl, by kernel_rfl, by kernel_rfl⟩
theorem ok180 : FnOk Try.prog c F (180, 57, r180) := ⟨Try.f57, [], [[6, 0, 1, 2, 3, 4, 5, 7, 8, 9, 10, 11, 12, 13, 14, 15, 16], [0, 1, 2, 3, 4, 5, 6, 7, 8, 9, 10, 11, 12, 14, 15, 13, 16], [], [], [2, 0, 1, 3, 4, 5, 6, 7, 8, 9, 10, 11, 12], [0, 1, 2, 3, 4, 5, 6, 7, 8, 9, 10, 11, 12], [], [], [0, 1, 2, 3, 4, 9, 5, 6, 7, 8, 10, 11, 12, 13, 14], [0, 1, 2, 3, 4, 5, 6, 7, 8, 9, 10, 11, 12, 13, 14], [], []], Try.func57, by kernel_rfl, by kernel_rfl, by kernel_rfl⟩
theorem ok115 : FnOk Try.prog c F (115, 119, r115) := ⟨Try.f119, [], [[1, 2, 3, 4], [4, 0, 1, 2, 3, 5, 6, 7, 8, 9, 10], [0, 1, 2, 3, 4, 5, 6, 7, 8, 9, 10], [], []], Try.func119, by kernel_rfl, by kernel_rfl, by kernel_rfl⟩
theorem ok103 : FnOk Try.prog c F (103, 120, r103) := ⟨Try.f120, [], [[0, 1, 2, 3, 4, 5, 6, 7, 10, 8, 9, 11, 12, 13, 14, 15, 16, 17, 18], [0, 1, 2, 3, 4, 5, 6, 7, 8, 9, 10, 11, 12, 13, 14, 15, 16, 17, 18], [], []], Try.func120, by kernel_rfl, by kernel_rfl, by kernel_rfl⟩
theorem ok7 : FnOk Try.prog c F (7, 156, r7) := ⟨Try.f156, [], [], Try.func156, by kernel_rfl, by kernel_rfl, by kernel_rfl⟩
theorem ok254 : FnOk Try.prog c F (254, 177, r254) := ⟨Try.f177, [], [], Try.func177, by kernel_rfl, by kernel_rfl, by kernel_rfl⟩
theorem ok255 : FnOk Try.prog c F (255, 178, r255) := ⟨Try.f178, [], [], Try.func178, by kernel_rfl, by kernel_rfl, by kernel_rfl⟩
theorem ok256 : FnOk Try.prog c F (256, 179, r256) := ⟨Try.f179, [], [[0, 1, 2, 3, 4, 5, 6, 7, 8, 9, 10, 11, 12, 13, 14, 15, 16, 17, 20, 21, 22, 23, 18, 19, 24, 25, 26, 27], [0, 1, 2, 3, 4, 5, 6, 7, 8, 9, 10, 11, 12, 13, 14, 15, 16, 17, 18, 19, 20, 21, 22, 23, 24, 25, 26, 27], [], []], Try.func179, by kernel_rfl, by kernel_rfl, by kernel_rfl⟩
theorem ok236 : FnOk Try.prog c F (236, 145, r236) := ⟨Try.f145, [], [], Try.func145, by kernel_rfl, by kernel_rfl, by kernel_rfl⟩
theorem ok257 : FnOk Try.prog c F (257, 181, r257) := ⟨Try.f181, [], [], Try.func181, by kernel_rfl, by kernel_rfl, by kernel_rfl⟩
theorem ok238 : FnOk Try.prog c F (238, 148, r238) := ⟨Try.f148, [], [], Try.func148, by kernel_rfl, by kernel_rfl, by kernel_rfl⟩
theorem ok258 : FnOk Try.prog c F (258, 182, r258) := ⟨Try.f182, [], [], Try.func182, by kernel_rfl, by kernel_rfl, by kernel_rfl⟩
theorem ok124 : FnOk Try.prog c F (124, 173, r124) := ⟨Try.f173, [], [[0, 30, 31, 32], [0, 1, 2, 3, 4, 5, 6, 7, 8, 9, 10, 11, 12, 13, 14, 15, 16, 17, 18, 22, 23, 24, 25, 19, 20, 21, 26, 27, 28, 29, 30, 31], [0, 1, 2, 3, 4, 5, 6, 7, 8, 9, 10, 11, 12, 13, 14, 15, 16, 17, 18, 19, 20, 21, 22, 23, 24, 25, 26, 27, 28, 29, 30, 31], [], []], Try.func173, by kernel_rfl, by kernel_rfl, by kernel_rfl⟩
theorem ok126 : FnOk Try.prog c F (126, 171, r126) := ⟨Try.f171, [], [[0, 1, 7, 8]], Try.func171, by kernel_rfl, by kernel_rfl, by kernel_rfl⟩
theorem ok125 : FnOk Try.prog c F (125, 172, r125) := ⟨Try.f172, [], [], Try.func172, by kernel_rfl, by kernel_rfl, by kernel_rfl⟩
theorem ok5 : FnOk Try.prog c F (5, 94, r5) := ⟨Try.f94, [], [], Try.func94, by kernel_rfl, by kernel_rfl, by kernel_rfl⟩
theorem ok104 : FnOk Try.prog c F (104, 121, r104) := ⟨Try.f121, [], [[0, 1, 5]], Try.func121, by kernel_rfl, by kernel_rfl, by kernel_rfl⟩
theorem ok121 : FnOk Try.prog c F (121, 122, r121) := ⟨Try.f122, [], [[0, 1, 5]], Try.func122, by kernel_rfl, by kernel_rfl, by kernel_rfl⟩
theorem ok221 : FnOk Try.prog c F (221, 123, r221) := ⟨Try.f123, [], [[0, 1, 2, 8, 9, 10], [0, 1, 2, 3, 6, 7, 8, 9, 10, 4, 5, 11, 12, 13, 14, 15, 16], [0, 1, 2, 3, 4, 5, 6, 7, 8, 9, 10, 11, 12, 13, 14, 15, 16], [], []], Try.func123, by kernel_rfl, by kernel_rfl, by kernel_rfl⟩
theorem ok222 : FnOk Try.prog c F (222, 124, r222) := ⟨Try.f124, [], [[0, 1, 2, 3, 4, 5, 6, 7, 8, 9, 10, 11, 12, 13, 14, 17, 18, 19, 20, 15, 16, 21, 22, 23, 24], [0, 1, 2, 3, 4, 5, 6, 7, 8, 9, 10, 11, 12, 13, 14, 15, 16, 17, 18, 19, 20, 21, 22, 23, 24], [], [], [0, 1, 6, 7]], Try.func124, by kernel_rfl, by kernel_rfl, by kernel_rfl⟩
theorem ok223 : FnOk Try.prog c F (223, 125, r223) := ⟨Try.f125, [], [[0, 1, 2, 8, 9]], Try.func125, by kernel_rfl, by kernel_rfl, by kernel_rfl⟩
theorem ok120 : FnOk Try.prog c F (120, 174, r120) := ⟨Try.f174, [], [[0, 3], [0, 1, 2, 3, 4, 5, 6, 7, 8, 9, 10, 11, 12, 13, 14, 15, 16, 17, 18, 19, 20, 21, 22, 25, 26, 27, 28, 23, 24, 29, 30, 31, 32, 33, 34, 35], [0, 1, 2, 3, 4, 5, 6, 7, 8, 9, 10, 11, 12, 13, 14, 15, 16, 17, 18, 19, 20, 21, 22, 23, 24, 25, 26, 27, 28, 29, 30, 31, 32, 33, 34, 35], [], []], Try.func174, by kernel_rfl, by kernel_rfl, by kernel_rfl⟩
theorem ok263 : FnOk Try.prog c F (263, 190, r263) := ⟨Try.f190, [], [[0, 1, 5, 6, 2, 3, 4, 7, 8, 9, 10, 11, 12], [0, 1, 2, 3, 4, 5, 6, 7, 8, 9, 10, 11, 12], [], [], [0, 1, 4, 5, 2, 3, 6, 7, 8, 9], [0, 1, 2, 3, 4, 5, 6, 7, 8, 9], [], [], [0, 1, 2, 5, 6, 3, 4, 7, 8, 9, 10, 11, 12, 13, 14], [0, 1, 2, 3, 4, 5, 6, 7, 8, 9, 10, 11, 12, 13, 14], [], []], Try.func190, by kernel_rfl, by kernel_rfl, by kernel_rfl⟩
theorem ok239 : FnOk Try.prog c F (239, 149, r239) := ⟨Try.f149, [], [], Try.func149, by kernel_rfl, by kernel_rfl, by kernel_rfl⟩
theorem ok271 : FnOk Try.prog c F (271, 204, r271) := ⟨Try.f204, [], [], Try.func204, by kernel_rfl, by kernel_rfl, by kernel_rfl⟩
theorem ok122 : FnOk Try.prog c F (122, 175, r122) := ⟨Try.f175, [], [], Try.func175, by kernel_rfl, by kernel_rfl, by kernel_rfl⟩
theorem okT : (c.T.all fun x => x.2.okB Try.prog (mkCfgZ Try.prog tab ptab tags).ET (mkCfgZ Try.prog tab ptab tags).SZ x.1) = true := by kernel_rfl
theorem okF : (c.F.all fun x => decide ((mkCfgZ Try.prog tab ptab tags).G x.2 = some x.1)) = true := by kernel_rfl
theorem okTab : AllT (FnOk Try.prog c F) tab := ⟨ok182, ok144, ok177, ok181, ok183, ok184, ok185, ok186, ok70, ok74, ok187, ok224, ok194, ok225, ok226, ok106, ok116, ok227, ok107, ok180, ok115, ok103, ok7, ok254, ok255, ok256, ok236, ok257, ok238, ok258, ok124, ok126, ok125, ok5, ok104, ok121, ok221, ok222, ok223, ok120, ok263, ok239, ok271, ok122, trivial⟩
theorem okP : AllT (PFn Try.prog F) ptab := ⟨⟨⟨Try.f202, Try.func202, by kernel_rfl, by kernel_rfl⟩, rfl, step_ins _ _⟩, ⟨⟨Try.f203, Try.func203, by kernel_rfl, by kernel_rfl⟩, rfl, step_del _⟩, trivial⟩
theorem prog (O : Nat) : ProgOk ((mkCfgZ Try.prog tab ptab tags).at O) c F (primZ ptab) :=
  mkProgZ okT okF okTab okP ⟨⟩ ⟨⟨by kernel_rfl, by kernel_rfl, by kernel_rfl⟩, trivial⟩ O ⟨ins_ok (ρ := renI 202 211 212 3 4 175 46) (k := 3) rfl rfl p269, del_ok (ρ := renD 203 3 4 175 46) (k := 3) rfl rfl p270, trivial⟩
theorem pr269 : PrimAt F (primZ ptab) 269 (insF 7 24) := primAt (ptab := ptab) (n := 269) (x := (202, (insF 7 24))) rfl rfl
theorem pr270 : PrimAt F (primZ ptab) 270 (delF 7) := primAt (ptab := ptab) (n := 270) (x := (203, (delF 7))) rfl rfl
theorem inI11 : AllT (fun x => F x.1 = some x.2) tI11 := ⟨rfl, rfl, rfl, rfl, rfl, rfl, trivial⟩
theorem inI12 : AllT (fun x => F x.1 = some x.2) tI12 := ⟨rfl, rfl, rfl, rfl, rfl, rfl, rfl, rfl, rfl, trivial⟩
theorem inLChart : AllT (fun x => F x.1 = some x.2) tLChart := ⟨rfl, rfl, rfl, rfl, rfl, rfl, trivial⟩
theorem inLRange : AllT (fun x => F x.1 = some x.2) tLRange := ⟨rfl, rfl, rfl, rfl, rfl, rfl, rfl, rfl, trivial⟩
theorem inLaws : AllT (fun x => F x.1 = some x.2) tLaws := ⟨rfl, rfl, trivial⟩
theorem inLibslicesIndexFuncimplRangeimplRange : AllT (fun x => F x.1 = some x.2) tLibslicesIndexFuncimplRangeimplRange := ⟨rfl, trivial⟩
theorem inS01d : AllT (fun x => F x.1 = some x.2) tS01d := ⟨rfl, rfl, rfl, rfl, rfl, rfl, rfl, rfl, rfl, trivial⟩
theorem inS11 : AllT (fun x => F x.1 = some x.2) tS11 := ⟨rfl, rfl, rfl, rfl, rfl, rfl, rfl, trivial⟩
theorem inS12 : AllT (fun x => F x.1 = some x.2) tS12 := ⟨rfl, rfl, rfl, rfl, rfl, rfl, rfl, rfl, rfl, rfl, rfl, rfl, trivial⟩
theorem inWFnCharts : AllT (fun x => F x.1 = some x.2) tWFnCharts := ⟨rfl, trivial⟩
end Go.Proofs.Ytlbagejkjkfkjaa.A.Charts
/- FnCharts: the law's function answers true, whatever is drawn. -/
namespace Go.Proofs.Ytlbagejkjkfkjaa.A
open Go
set_option linter.unusedSimpArgs false
set_option linter.unusedVariables false
def runC (c : Chart) : List MapCmd → Chart
  | [] => c
  | q :: r => runC (doMap c q).1 r
def codesC (c : Chart) : List MapCmd → List Int
  | [] => []
  | q :: r => (doMap c q).2 :: codesC (doMap c q).1 r
theorem fold_runC : ∀ (qs : List MapCmd) (a : Chart × List Int), qs.foldl mapStep a = (runC a.1 qs, a.2 ++ codesC a.1 qs)
  | [], a => by simp [runC, codesC]
  | e :: r, a => by rw [List.foldl_cons, fold_runC r]; simp [runC, codesC, mapStep]
theorem playMap_run {c : Chart} (h : c.good = true) {qs : List MapCmd} (hl : qs.length ≤ 200) : playMap c qs = (runC c qs, codesC c qs) := by
  simp only [playMap, h, Bool.true_and, decide_eq_true hl, cond_true, fold_runC, List.nil_append]
theorem runC_snoc : ∀ (qs : List MapCmd) (c : Chart) (q : MapCmd), runC c (qs ++ [q]) = (doMap (runC c qs) q).1
  | [], _, _ => rfl
  | _ :: r, _, e => runC_snoc r _ e
theorem codesC_len : ∀ (qs : List MapCmd) (c : Chart), (codesC c qs).length = qs.length
  | [], _ => rfl
  | _ :: r, _ => by simp [codesC, codesC_len r]
theorem codesC_at : ∀ (qs : List MapCmd) (c : Chart) (i : Nat) (hi : i < qs.length), (codesC c qs)[i]? = some (doMap (runC c (qs.take i)) qs[i]).2
  | [], _, _, hi => absurd hi (Nat.not_lt_zero _)
  | _ :: _, _, 0, _ => rfl
  | _ :: r, _, i + 1, hi => by
    simp only [codesC, List.getElem?_cons_succ, List.take_succ_cons, runC, List.getElem_cons_succ]
    exact codesC_at r _ i (by simpa using hi)
theorem runC_good : ∀ (qs : List MapCmd) {c : Chart}, c.good = true → c.Ok → c.Small → (∀ q, q ∈ qs → q.Ok) → (runC c qs).good = true ∧ (runC c qs).Ok ∧ (runC c qs).Small
  | [], _, h1, h2, h3, _ => ⟨h1, h2, h3⟩
  | q :: r, _, h1, h2, h3, h4 => runC_good r (doMap_moves h1 h2 (h4 q (by simp))).good (doMap_ok h2 (h4 q (by simp))) (doMap_small h3 q) fun q' hq => h4 q' (by simp [hq])
def u64_enc (z : Int) : List Cell := [.int .u64 z]
section
variable {F : Nat → Option RF} {Z : CallF} {h g : Heap} {cs ds : List Cell} {c d : Chart} {fp fq fr : List Nat}
theorem range_eqs (r : Range) : eqsR true [.i .u64, .i .u64, .i .i64] (some (.agg r.enc)) (some (.agg r.enc)) = some (.bool false) := by
  have hc : cellsEq? [.i .u64, .i .u64, .i .i64] r.enc r.enc = some true := by simp [cellsEq?, eqK, Range.enc]
  simp only [eqsR, hc, Range.len, List.length_cons, List.length_nil, and_self, if_true, Option.bind_some]; rfl
theorem sameRanges_self (hL : Has F tLRange) {x y : Cell} {xs : List Range} (w : SlR 7 (Fl Range.enc) h x xs fp) (v : SlR 7 (Fl Range.enc) h y xs fq) : call F Z 227 [.c x, .c y] h = some (.c (.bool true), h) := by
  have hle := w.le2
  rw [call_run F Z (hL.lk (g := 227) rfl) _ _ rfl]
  have key := loop_goesF (F := F) (Z := Z) (live := [0, 1, 5]) (b := r227L0) xs.length (fun i => ⟨[(0, .c x), (1, .c y), (5, .c (.int .i64 (i : Nat)))], [], [], h⟩) fun i hi => by
    have hlt : (i : Int) < xs.length := by omega
    have hws := wrapS i (by omega)
    have e := range_eqs xs[i]
    have h1 := w.idx hi
    have h2 := w.load hi
    have h3 := v.idx hi
    have h4 := v.load hi
    have h5 := w.len
    generalize xs[i] = r at *
    simp only [Range.enc] at e h2 h4
    rw [loop_run]
    conv in (codeF _ _ r227L0 _) => unfold r227L0
    simp only [run0, run1, run2, run3, run4, noSlot, ownS, ownK, memN, RO.dst, lk, drop, forget, number, Nat.reduceBEq, cut?, splice?, builds, List.length_cons, List.length_nil, List.drop_succ_cons, List.drop_zero, List.take_succ_cons, List.take_zero, List.cons_append, List.nil_append, List.append_nil, List.drop_nil, List.take_nil, Nat.reduceAdd, Nat.reduceLeDiff, Nat.zero_add, Nat.add_zero, ↓reduceIte, Bool.not_true, Bool.not_false, decide_true, decide_false, eq_self, bne_self_eq_false, List.getElem?_cons_zero, List.getElem?_cons_succ, decide_eq_true_eq, Bool.false_eq_true, Bool.true_eq_false, reduceCtorEq, Nat.le_refl, h5, hlt, h1, h2, h3, h4, e, hws]
  simp only [show ((0 : Nat) : Int) = 0 from rfl] at key
  have hlt : ¬ (xs.length : Int) < xs.length := by omega
  simp only [run0, run1, run2, run3, run4, noSlot, ownS, ownK, memN, RO.dst, lk, drop, forget, number, Nat.reduceBEq, cut?, splice?, builds, List.length_cons, List.length_nil, List.drop_succ_cons, List.drop_zero, List.take_succ_cons, List.take_zero, List.cons_append, List.nil_append, List.append_nil, List.drop_nil, List.take_nil, Nat.reduceAdd, Nat.reduceLeDiff, Nat.zero_add, Nat.add_zero, ↓reduceIte, Bool.not_true, Bool.not_false, decide_true, decide_false, eq_self, bne_self_eq_false, List.getElem?_cons_zero, List.getElem?_cons_succ, decide_eq_true_eq, Bool.false_eq_true, Bool.true_eq_false, reduceCtorEq, Nat.le_refl, w.len, v.len, key]
  rw [loop_run]
  conv in (codeF _ _ r227L0 _) => unfold r227L0
  simp only [run0, run1, run2, run3, run4, noSlot, ownS, ownK, memN, RO.dst, lk, drop, forget, number, Nat.reduceBEq, cut?, splice?, builds, List.length_cons, List.length_nil, List.drop_succ_cons, List.drop_zero, List.take_succ_cons, List.take_zero, List.cons_append, List.nil_append, List.append_nil, List.drop_nil, List.take_nil, Nat.reduceAdd, Nat.reduceLeDiff, Nat.zero_add, Nat.add_zero, ↓reduceIte, Bool.not_true, Bool.not_false, decide_true, decide_false, eq_self, bne_self_eq_false, List.getElem?_cons_zero, List.getElem?_cons_succ, decide_eq_true_eq, Bool.false_eq_true, Bool.true_eq_false, reduceCtorEq, Nat.le_refl, w.len, hlt]
theorem sameChart_self (hL : Has F tLChart) (hLR : Has F tLRange) (v : Chart.RI h cs c fp) (u : Chart.RI h ds c fq) : call F Z 186 [.agg cs, .agg ds] h = some (.c (.bool true), h) := by
  obtain ⟨x, p, rfl, rfl, w⟩ := v
  obtain ⟨y, p', rfl, rfl, w'⟩ := u
  have e := sameRanges_self (Z := Z) hLR w w'
  rw [call_run F Z (hL.lk (g := 186) rfl) _ _ rfl]
  simp only [run0, run1, run2, run3, run4, noSlot, ownS, ownK, memN, RO.dst, lk, drop, forget, number, Nat.reduceBEq, cut?, splice?, builds, List.length_cons, List.length_nil, List.drop_succ_cons, List.drop_zero, List.take_succ_cons, List.take_zero, List.cons_append, List.nil_append, List.append_nil, List.drop_nil, List.take_nil, Nat.reduceAdd, Nat.reduceLeDiff, Nat.zero_add, Nat.add_zero, ↓reduceIte, Bool.not_true, Bool.not_false, decide_true, decide_false, eq_self, bne_self_eq_false, List.getElem?_cons_zero, List.getElem?_cons_succ, decide_eq_true_eq, Bool.false_eq_true, Bool.true_eq_false, reduceCtorEq, Nat.le_refl, beq_self_eq_true, e]
theorem ChartOk_c (hI11 : Has F tI11) (hI12 : Has F tI12) (hLi : Has F tLibslicesIndexFuncimplRangeimplRange) (v : Chart.RI h cs c fp) (ok : c.Ok) : ∃ h', call F Z 185 [.agg cs] h = some (.c (.bool c.good), h') ∧ On h h' := by
  obtain ⟨l1, l2, l3⟩ := Chart.lenI v
  obtain ⟨h1, e1, o1⟩ := isChart_run (Z := Z) hI11 hI12 hLi v ok
  rw [call_run F Z (hI12.lk (g := 185) rfl) _ _ rfl]
  simp only [run0, run1, run2, run3, run4, noSlot, ownS, ownK, memN, RO.dst, lk, drop, forget, number, Nat.reduceBEq, cut?, splice?, builds, List.length_cons, List.length_nil, List.drop_succ_cons, List.drop_zero, List.take_succ_cons, List.take_zero, List.cons_append, List.nil_append, List.append_nil, List.drop_nil, List.take_nil, Nat.reduceAdd, Nat.reduceLeDiff, Nat.zero_add, Nat.add_zero, ↓reduceIte, Bool.not_true, Bool.not_false, decide_true, decide_false, eq_self, bne_self_eq_false, List.getElem?_cons_zero, List.getElem?_cons_succ, decide_eq_true_eq, Bool.false_eq_true, Bool.true_eq_false, reduceCtorEq, Nat.le_refl, l1, l2, l3, e1]
  exact ⟨_, rfl, o1⟩
theorem route_of (hg : c.good = true) (id : Int) : c.route id = ((c.of_ id).group, c.epoch) := by simp [Chart.route, hg]
theorem of_grp (hg : c.good = true) {id : Int} (hi : U64 id) : 0 ≤ (c.of_ id).group := by
  obtain ⟨j, hj, _, _, r3, _, _⟩ := Chart.has (c := c) (Chart.good_ranges hg) hi.1 hi.2
  rw [r3]; exact ((rangesOk_fit (Chart.good_ranges hg)).grp j hj).1
set_option maxHeartbeats 4000000 in
/-- One id: who owned it, who owns it. -/
theorem chart_id (hI11 : Has F tI11) (hI12 : Has F tI12) (hLi : Has F tLibslicesIndexFuncimplRangeimplRange) (hf : g.floor ≤ g.next) {y z s : Cell} {qs : List MapCmd} {ids : List Int} (w : SlR 14 (Fl MapCmd.enc) g y qs fr) (ws : SlR 13 (Fl u64_enc) g s ids fp) {f1 f2 : List Nat}
    (v : Chart.RI g cs c f1) (u : Chart.RI g ds d f2) (ok : c.Ok) (okd : d.Ok) (hg : c.good = true) {i : Nat} (hi : i < qs.length) {x : Int} (M : Moves c d x qs[i]) (hids : ∀ id, id ∈ ids → U64 id) (hl : ids.length ≤ 100) (j : Nat) (hj : j < ids.length) :
    ∃ g', On g g' ∧ loop F Z [3, 4, 6, 7, 8, 9, 11] r182L0 ⟨[(4, .c y), (6, .c z), (7, .c s), (8, .c (.int .i64 ((i : Nat) : Int))), (11, .c (.int .i64 ((j : Nat) : Int)))], [(3, 3, 0), (9, 9, 0)], [(3, cs), (9, ds)], g⟩ =
      loop F Z [3, 4, 6, 7, 8, 9, 11] r182L0 ⟨[(4, .c y), (6, .c z), (7, .c s), (8, .c (.int .i64 ((i : Nat) : Int))), (11, .c (.int .i64 ((j + 1 : Nat) : Int)))], [(3, 3, 0), (9, 9, 0)], [(3, cs), (9, ds)], g'⟩ := by
  have hlt : (j : Int) < ids.length := by omega
  have hws := wrapS j (by omega)
  have hsi := ws.idx hj
  have hsl := ws.len
  have hu := hids _ (List.getElem_mem hj)
  have gd := M.good
  have hyi := w.idx hi
  have quiet : ∀ {a : Heap} {hq : Heap}, On ⟨a.next, a.next, a.get⟩ hq → On a (Heap.mk hq.next a.floor hq.get) := fun o => ⟨⟨o.ext.1, o.ext.2⟩, rfl⟩
  obtain ⟨q1, e1, o1⟩ := RouteOf_c (Z := Z) (h := ⟨g.next, g.next, g.get⟩) hI11 hI12 hLi (Nat.le_refl _) (Chart.okI.up v _) ids[j] ok hu
  obtain ⟨g1, m1⟩ : ∃ g', Heap.mk q1.next g.floor q1.get = g' := ⟨_, rfl⟩
  have p1 := quiet o1
  rw [m1] at p1
  have u1 := Chart.okI.on u p1
  obtain ⟨q2, e2, o2⟩ := RouteOf_c (Z := Z) (h := ⟨g1.next, g1.next, g1.get⟩) hI11 hI12 hLi (Nat.le_refl _) (Chart.okI.up u1 _) ids[j] okd hu
  obtain ⟨g2, m2⟩ : ∃ g', Heap.mk q2.next g1.floor q2.get = g' := ⟨_, rfl⟩
  have p2 := quiet o2
  rw [m2] at p2
  have v2 := Chart.okI.on v (p1.trans p2)
  have u2 := Chart.okI.on u1 p2
  obtain ⟨q3, e3, o3⟩ := MovedBetween_c (Z := Z) (h := ⟨g2.next, g2.next, g2.get⟩) hI11 hI12 hLi (Nat.le_refl _) (Chart.okI.up v2 _) (Chart.okI.up u2 _) ids[j] ok okd hu
  obtain ⟨g3, m3⟩ : ∃ g', Heap.mk q3.next g2.floor q3.get = g' := ⟨_, rfl⟩
  have p3 := quiet o3
  rw [m3] at p3
  have pp := (p1.trans p2).trans p3
  have l0 := ws.load hj
  have l1 := (ws.on (Fl.ok _) p1).load hj
  have l2 := (ws.on (Fl.ok _) (p1.trans p2)).load hj
  have lq := (w.on (Fl.ok _) pp).load hi
  have hmv : c.moved d ids[j] = ((c.of_ ids[j]).group != (d.of_ ids[j]).group) := by simp [Chart.moved, hg, gd]
  rw [hmv] at e3
  rw [route_of hg] at e1
  rw [route_of gd] at e2
  have hnow := of_grp gd hu
  have hgr := M.grp _ hu
  generalize ids[j] = id at *
  generalize (c.of_ id).group = was at *
  generalize (d.of_ id).group = now at *
  have hn0 : ¬ now < 0 := by omega
  generalize qs[i] = q at *
  obtain ⟨qk, qa, qg⟩ := q
  obtain ⟨xc, pc, rfl, _, _⟩ := v
  obtain ⟨xd, pd, rfl, _, _⟩ := u
  refine ⟨g3, pp, ?_⟩
  simp only [u64_enc] at l0 l1 l2
  simp only [MapCmd.enc] at lq
  rw [loop_run]
  conv in (codeF _ _ r182L0 _) => unfold r182L0
  by_cases hwn : was = now
  · subst hwn
    simp only [run0, run1, run2, run3, run4, noSlot, ownS, ownK, memN, RO.dst, lk, drop, forget, number, Nat.reduceBEq, cut?, splice?, builds, List.length_cons, List.length_nil, List.drop_succ_cons, List.drop_zero, List.take_succ_cons, List.take_zero, List.cons_append, List.nil_append, List.append_nil, List.drop_nil, List.take_nil, Nat.reduceAdd, Nat.reduceLeDiff, Nat.zero_add, Nat.add_zero, ↓reduceIte, Bool.not_true, Bool.not_false, decide_true, decide_false, eq_self, bne_self_eq_false, List.getElem?_cons_zero, List.getElem?_cons_succ, decide_eq_true_eq, Bool.false_eq_true, Bool.true_eq_false, reduceCtorEq, Nat.le_refl, hsl, hlt, hsi, l0, e1, m1, l1, e2, m2, l2, e3, m3, hn0, hws]
  · have hne : (was != now) = true := by simpa using hwn
    rcases hgr with hgr | ⟨hk, ht⟩
    · exact absurd hgr.symm hwn
    · simp only at hk
      have k1 : (qk != 3) = false := by simp [hk]
      have k2 : (now != c.to) = false := by simp [ht]
      simp only [run0, run1, run2, run3, run4, noSlot, ownS, ownK, memN, RO.dst, lk, drop, forget, number, Nat.reduceBEq, cut?, splice?, builds, List.length_cons, List.length_nil, List.drop_succ_cons, List.drop_zero, List.take_succ_cons, List.take_zero, List.cons_append, List.nil_append, List.append_nil, List.drop_nil, List.take_nil, Nat.reduceAdd, Nat.reduceLeDiff, Nat.zero_add, Nat.add_zero, ↓reduceIte, Bool.not_true, Bool.not_false, decide_true, decide_false, eq_self, bne_self_eq_false, List.getElem?_cons_zero, List.getElem?_cons_succ, decide_eq_true_eq, Bool.false_eq_true, Bool.true_eq_false, reduceCtorEq, Nat.le_refl, hsl, hlt, hsi, l0, e1, m1, l1, e2, m2, l2, e3, m3, hn0, hne, hyi, lq, k1, k2, hws]
set_option maxHeartbeats 4000000 in
/-- One command. -/
theorem chart_turn (hI11 : Has F tI11) (hI12 : Has F tI12) (hLi : Has F tLibslicesIndexFuncimplRangeimplRange) (pr1 : PrimAt F Z 269 (insF 7 24)) (pr2 : PrimAt F Z 270 (delF 7)) (hLC : Has F tLChart) (hLR : Has F tLRange) (hf : g.floor ≤ g.next) {y z s : Cell} {qs : List MapCmd} {ids : List Int} {zs : List Int} {fz : List Nat}
    (w : SlR 14 (Fl MapCmd.enc) g y qs fr) (wz : SlR 15 (Fl int_enc) g z zs fz) (ws : SlR 13 (Fl u64_enc) g s ids fp) {f1 : List Nat}
    (v : Chart.RI g cs c f1) (ok : c.Ok) (sm : c.Small) (hg : c.good = true) {i : Nat} (hi : i < qs.length) (okq : qs[i].Ok) (hzl : zs.length = qs.length) (hz : zs[i]'(by omega) = (doMap c qs[i]).2) (hl : qs.length ≤ 200) (hids : ∀ id, id ∈ ids → U64 id) (hil : ids.length ≤ 100) :
    ∃ g' ds f2, On g g' ∧ Chart.RI g' ds (doMap c qs[i]).1 f2 ∧ loop F Z [3, 4, 6, 7, 8] r182L1 ⟨[(4, .c y), (6, .c z), (7, .c s), (8, .c (.int .i64 ((i : Nat) : Int)))], [(3, 3, 0)], [(3, cs)], g⟩ =
      loop F Z [3, 4, 6, 7, 8] r182L1 ⟨[(4, .c y), (6, .c z), (7, .c s), (8, .c (.int .i64 ((i + 1 : Nat) : Int)))], [(3, 3, 0)], [(3, ds)], g'⟩ := by
  have hlt : (i : Int) < qs.length := by omega
  have hws := wrapS i (by omega)
  have hwl := w.len
  have hyi := w.idx hi
  have hyd := w.load hi
  have hzi := wz.idx (i := i) (by omega)
  obtain ⟨l1, l2, l3⟩ := Chart.lenI v
  obtain ⟨ds, hq, f2, e1, oq, uq, _⟩ := DoMap_c (Z := Z) (h := ⟨g.next, g.next, g.get⟩) hI11 hI12 hLi pr1 pr2 (Nat.le_refl _) (Chart.okI.up v _) qs[i] okq ok sm
  obtain ⟨g1, mq⟩ : ∃ g', Heap.mk hq.next g.floor hq.get = g' := ⟨_, rfl⟩
  have o1 : On g g1 := by rw [← mq]; exact ⟨⟨oq.ext.1, oq.ext.2⟩, rfl⟩
  have u1 := Chart.okI.up uq g.floor
  rw [mq] at u1
  obtain ⟨k1, k2, k3⟩ := Chart.lenI u1
  have M := doMap_moves hg ok okq
  have okd := doMap_ok ok okq
  have hzd := (wz.on (Fl.ok _) o1).load (i := i) (by omega)
  rw [hz] at hzd
  obtain ⟨g2, e2, o2⟩ := ChartOk_c (Z := Z) hI11 hI12 hLi u1 okd
  rw [M.good] at e2
  have o12 := o1.trans o2
  have hep := (good_parts hg).1
  have hwe : IntKind.i64.wrap (c.epoch + 1) = c.epoch + 1 := wrapI _ (by omega) (by omega)
  have hsame := M.same
  have hup := M.up
  -- the ids
  obtain ⟨s', ⟨g3, rfl, o3⟩, key⟩ := loop_goes (F := F) (Z := Z) (live := [3, 4, 6, 7, 8, 9, 11]) (b := r182L0) ids.length (fun j st => ∃ g' : Heap, st = ⟨[(4, .c y), (6, .c z), (7, .c s), (8, .c (.int .i64 ((i : Nat) : Int))), (11, .c (.int .i64 (j : Nat)))], [(3, 3, 0), (9, 9, 0)], [(3, cs), (9, ds)], g'⟩ ∧ On g2 g') (fun j st hj ⟨g', hs, og⟩ => by
    subst hs
    have oo := o12.trans og
    obtain ⟨g'', o'', e⟩ := chart_id (F := F) (Z := Z) (x := (doMap c qs[i]).2) (z := z) hI11 hI12 hLi (oo.le hf) (w.on (Fl.ok _) oo) (ws.on (Fl.ok _) oo) (Chart.okI.on v oo) (Chart.okI.on u1 (o2.trans og)) ok okd hg hi M hids hil j hj
    exact ⟨_, ⟨g'', rfl, og.trans o''⟩, e⟩) (s := ⟨[(4, .c y), (6, .c z), (7, .c s), (8, .c (.int .i64 ((i : Nat) : Int))), (11, .c (.int .i64 ((0 : Nat) : Int)))], [(3, 3, 0), (9, 9, 0)], [(3, cs), (9, ds)], g2⟩) ⟨g2, rfl, On.refl g2⟩
  have u3 := Chart.okI.on u1 (o2.trans o3)
  have hsl := ws.len
  have hlt2 : ¬ (ids.length : Int) < ids.length := by omega
  have hsm : (doMap c qs[i]).2 ≠ 0 → call F Z 186 [.agg ds, .agg cs] g2 = some (.c (.bool true), g2) := fun hx => by
    have h1 := Chart.okI.on u1 o2
    rw [hsame hx] at h1
    exact sameChart_self (Z := Z) hLC hLR h1 (Chart.okI.on v o12)
  refine ⟨g3, ds, f2, o12.trans o3, u3, ?_⟩
  simp only [show ((0 : Nat) : Int) = 0 from rfl] at key
  have hd0 : ds.take 1 = [.int .i64 (doMap c qs[i]).1.epoch] ∧ cs.take 1 = [.int .i64 c.epoch] := by
    obtain ⟨xd, pd, rfl, _⟩ := u1
    obtain ⟨xc, pc, rfl, _⟩ := v
    exact ⟨rfl, rfl⟩
  have hle1 : ∀ (l : List Cell), l.length = 5 → (0 + 1 ≤ l.length) = True := fun l h => by rw [h]; simp
  have c1 := hle1 _ l1
  have c2 := hle1 _ k1
  simp only [Nat.zero_add] at c1 c2
  generalize (doMap c qs[i]).2 = x at *
  generalize (doMap c qs[i]).1 = d at *
  generalize qs[i] = q at *
  obtain ⟨qk, qa, qg⟩ := q
  simp only [MapCmd.enc] at e1 hyd
  rw [loop_run]
  conv in (codeF _ _ r182L1 _) => unfold r182L1
  by_cases hx : x = 0
  · have x1 : (x != 0) = false := by simp [hx]
    have x2 : (x == 0) = true := by simp [hx]
    have x3 : (d.epoch != c.epoch + 1) = false := by simp [hup hx]
    simp only [run0, run1, run2, run3, run4, noSlot, ownS, ownK, memN, RO.dst, lk, drop, forget, number, Nat.reduceBEq, cut?, splice?, builds, List.length_cons, List.length_nil, List.drop_succ_cons, List.drop_zero, List.take_succ_cons, List.take_zero, List.cons_append, List.nil_append, List.append_nil, List.drop_nil, List.take_nil, Nat.reduceAdd, Nat.reduceLeDiff, Nat.zero_add, Nat.add_zero, ↓reduceIte, Bool.not_true, Bool.not_false, decide_true, decide_false, eq_self, bne_self_eq_false, List.getElem?_cons_zero, List.getElem?_cons_succ, decide_eq_true_eq, Bool.false_eq_true, Bool.true_eq_false, reduceCtorEq, Nat.le_refl, hwl, hlt, hyi, hyd, l1, l2, l3, e1, mq, k1, k2, k3, hzi, hzd, int_enc, e2, x1, x2, hd0.1, hd0.2, c1, c2, hwe, x3, key]
    rw [loop_run]
    conv in (codeF _ _ r182L0 _) => unfold r182L0
    simp only [run0, run1, run2, run3, run4, noSlot, ownS, ownK, memN, RO.dst, lk, drop, forget, number, Nat.reduceBEq, cut?, splice?, builds, List.length_cons, List.length_nil, List.drop_succ_cons, List.drop_zero, List.take_succ_cons, List.take_zero, List.cons_append, List.nil_append, List.append_nil, List.drop_nil, List.take_nil, Nat.reduceAdd, Nat.reduceLeDiff, Nat.zero_add, Nat.add_zero, ↓reduceIte, Bool.not_true, Bool.not_false, decide_true, decide_false, eq_self, bne_self_eq_false, List.getElem?_cons_zero, List.getElem?_cons_succ, decide_eq_true_eq, Bool.false_eq_true, Bool.true_eq_false, reduceCtorEq, Nat.le_refl, hsl, hlt2, k1, k2, k3, l1, l2, l3, hws]
  · have x1 : (x != 0) = true := by simpa using hx
    have x2 : (x == 0) = false := by simpa using hx
    simp only [run0, run1, run2, run3, run4, noSlot, ownS, ownK, memN, RO.dst, lk, drop, forget, number, Nat.reduceBEq, cut?, splice?, builds, List.length_cons, List.length_nil, List.drop_succ_cons, List.drop_zero, List.take_succ_cons, List.take_zero, List.cons_append, List.nil_append, List.append_nil, List.drop_nil, List.take_nil, Nat.reduceAdd, Nat.reduceLeDiff, Nat.zero_add, Nat.add_zero, ↓reduceIte, Bool.not_true, Bool.not_false, decide_true, decide_false, eq_self, bne_self_eq_false, List.getElem?_cons_zero, List.getElem?_cons_succ, decide_eq_true_eq, Bool.false_eq_true, Bool.true_eq_false, reduceCtorEq, Nat.le_refl, hwl, hlt, hyi, hyd, l1, l2, l3, e1, mq, k1, k2, k3, hzi, hzd, int_enc, e2, x1, x2, hsm hx, key]
    rw [loop_run]
    conv in (codeF _ _ r182L0 _) => unfold r182L0
    simp only [run0, run1, run2, run3, run4, noSlot, ownS, ownK, memN, RO.dst, lk, drop, forget, number, Nat.reduceBEq, cut?, splice?, builds, List.length_cons, List.length_nil, List.drop_succ_cons, List.drop_zero, List.take_succ_cons, List.take_zero, List.cons_append, List.nil_append, List.append_nil, List.drop_nil, List.take_nil, Nat.reduceAdd, Nat.reduceLeDiff, Nat.zero_add, Nat.add_zero, ↓reduceIte, Bool.not_true, Bool.not_false, decide_true, decide_false, eq_self, bne_self_eq_false, List.getElem?_cons_zero, List.getElem?_cons_succ, decide_eq_true_eq, Bool.false_eq_true, Bool.true_eq_false, reduceCtorEq, Nat.le_refl, hsl, hlt2, k1, k2, k3, l1, l2, l3, hws]
theorem law_Charts (hI11 : Has F tI11) (hI12 : Has F tI12) (hLC : Has F tLChart) (hLR : Has F tLRange) (hLaws : Has F tLaws) (hLi : Has F tLibslicesIndexFuncimplRangeimplRange) (hS : Has F tS01d) (hS11 : Has F tS11) (hS12 : Has F tS12) (hW : Has F tWFnCharts) (pr1 : PrimAt F Z 269 (insF 7 24)) (pr2 : PrimAt F Z 270 (delF 7))
    (h : Heap) (avs : List V) (hfl : h.floor = h.next) (w : ArgsWf h 8 [shUint8S] avs) : ∃ h', call F Z 182 avs h = some (.c (.bool true), h') := by
  obtain ⟨x, _, rfl, xw, w1⟩ := ArgsWf.slice w
  obtain ⟨code, v⟩ := Wf.isBytes xw
  obtain rfl := w1.nil
  have f0 : h.floor ≤ h.next := by omega
  rw [call_run F Z (hW.lk (g := 182) rfl) _ _ rfl]
  have hb := big_run (Z := Z) hLaws v
  by_cases hbig : (code.length : Int) > 1048576
  · rw [decide_eq_true hbig] at hb
    simp only [run0, run1, run2, run3, run4, noSlot, ownS, ownK, memN, RO.dst, lk, drop, forget, number, Nat.reduceBEq, cut?, splice?, builds, List.length_cons, List.length_nil, List.drop_succ_cons, List.drop_zero, List.take_succ_cons, List.take_zero, List.cons_append, List.nil_append, List.append_nil, List.drop_nil, List.take_nil, Nat.reduceAdd, Nat.reduceLeDiff, Nat.zero_add, Nat.add_zero, ↓reduceIte, Bool.not_true, Bool.not_false, decide_true, decide_false, eq_self, bne_self_eq_false, List.getElem?_cons_zero, List.getElem?_cons_succ, decide_eq_true_eq, Bool.false_eq_true, Bool.true_eq_false, reduceCtorEq, Nat.le_refl, hb]
    exact ⟨_, rfl⟩
  rw [decide_eq_false hbig] at hb
  obtain ⟨c, cs, y, qs, h1, fp, fq, e1, o1, vc, wy, hg, ok, sm, hql, okq⟩ := DrawRightChart_c (Z := Z) hS hS11 hS12 f0 v
  obtain ⟨k1, k2, k3⟩ := Chart.lenI vc
  obtain ⟨cs2, z, h2, p1, p2, e2, o2, v2, _, wz, _, _⟩ := PlayMap_c (Z := Z) hI11 hI12 hLi pr1 pr2 (o1.le f0) vc wy ok sm okq
  obtain ⟨l1, l2, l3⟩ := Chart.lenI v2
  rw [playMap_run hg (by omega)] at wz
  have vc2 := Chart.okI.on vc o2
  obtain ⟨h3, e3, o3⟩ := ChartOk_c (Z := Z) hI11 hI12 hLi vc2 ok
  rw [hg] at e3
  have o13 := (o1.trans o2).trans o3
  obtain ⟨r, e4⟩ := at_run (Z := Z) hLaws (v.on o13) (by omega) (i := 3) (by omega)
  have hln : (((codesC c qs).length : Int) != (qs.length : Int)) = false := by rw [codesC_len]; simp
  have hru := wrapU_in r
  have o4 := On.push h3 [[.int .u64 0], [.int .u64 (IntKind.u64.wrap r)], [.int .u64 9223372036854775808], [.int .u64 18446744073709551615], [.int .u64 100], [.int .u64 5]]
  have ws : SlR 13 (Fl u64_enc) (h3.push [[.int .u64 0], [.int .u64 (IntKind.u64.wrap r)], [.int .u64 9223372036854775808], [.int .u64 18446744073709551615], [.int .u64 100], [.int .u64 5]]) (.sl 13 h3.next 0 6) [0, IntKind.u64.wrap r, 9223372036854775808, 18446744073709551615, 100, 5] [h3.next] :=
    SlR.ofFlat (xs := ([0, IntKind.u64.wrap r, 9223372036854775808, 18446744073709551615, 100, 5] : List Int)) (by simp [maxLen]) (push_get _ _) (by rw [push_next]; omega)
  have o34 := o3.trans o4
  generalize hh4 : h3.push [[.int .u64 0], [.int .u64 (IntKind.u64.wrap r)], [.int .u64 9223372036854775808], [.int .u64 18446744073709551615], [.int .u64 100], [.int .u64 5]] = h4 at *
  have f4 := o4.le (o13.le f0)
  have wy4 := (wy.on (Fl.ok _) o2).on (Fl.ok _) o34
  have wz4 := wz.on (Fl.ok _) o34
  have vc4 := Chart.okI.on vc2 o34
  have hids : ∀ id, id ∈ ([0, IntKind.u64.wrap r, 9223372036854775808, 18446744073709551615, 100, 5] : List Int) → U64 id := fun id hid => by
    simp only [List.mem_cons, List.not_mem_nil, or_false] at hid
    unfold U64
    rcases hid with rfl | rfl | rfl | rfl | rfl | rfl
    · omega
    · exact hru
    all_goals omega
  obtain ⟨s', ⟨g, ds, f5, rfl, og, vd⟩, key⟩ := loop_goes (F := F) (Z := Z) (live := [3, 4, 6, 7, 8]) (b := r182L1) qs.length (fun i s => ∃ (g : Heap) (ds : List Cell) (f5 : List Nat), s = ⟨[(4, .c y), (6, .c z), (7, .c (.sl 13 h3.next 0 6)), (8, .c (.int .i64 (i : Nat)))], [(3, 3, 0)], [(3, ds)], g⟩ ∧ On h4 g ∧ Chart.RI g ds (runC c (qs.take i)) f5) (fun i s hi ⟨g, ds, f5, hs, og, vd⟩ => by
    subst hs
    obtain ⟨g1, g2, g3⟩ := runC_good (qs.take i) hg ok sm fun q hq => okq q (List.mem_of_mem_take hq)
    have hz : (codesC c qs)[i]'(by rw [codesC_len]; omega) = (doMap (runC c (qs.take i)) qs[i]).2 := by
      have := codesC_at qs c i hi
      rw [List.getElem?_eq_getElem (by rw [codesC_len]; omega)] at this
      injection this
    obtain ⟨g', ds', f', o', vd', e⟩ := chart_turn (F := F) (Z := Z) hI11 hI12 hLi pr1 pr2 hLC hLR (og.le f4) (wy4.on (Fl.ok _) og) (wz4.on (Fl.ok _) og) (ws.on (Fl.ok _) og) vd g2 g3 g1 hi (okq _ (List.getElem_mem hi)) (codesC_len qs c) hz (by omega) hids (by simp)
    refine ⟨_, ⟨g', ds', f', rfl, og.trans o', ?_⟩, e⟩
    rw [List.take_add_one, List.getElem?_eq_getElem hi]
    rw [show (some qs[i]).toList = [qs[i]] from rfl, runC_snoc]
    exact vd') (s := ⟨[(4, .c y), (6, .c z), (7, .c (.sl 13 h3.next 0 6)), (8, .c (.int .i64 ((0 : Nat) : Int)))], [(3, 3, 0)], [(3, cs)], h4⟩) ⟨h4, cs, fp, rfl, On.refl h4, vc4⟩
  rw [List.take_length] at vd
  obtain ⟨g1, g2, g3⟩ := runC_good qs hg ok sm okq
  obtain ⟨m1, m2, m3⟩ := Chart.lenI vd
  obtain ⟨cs6, z6, h6, p6, _, e6, o6, v6, _, _, _, _⟩ := sPlayMap_c (Z := Z) hS hS11 hS12 (og.le f4) vd (SlR.nil 14 (Fl MapCmd.enc) g) g2 g3 (fun _ h => (nomatch h))
  obtain ⟨n1, n2, n3⟩ := Chart.lenI v6
  rw [playMap_run g1 (by simp)] at v6
  have e7 := sameChart_self (Z := Z) hLC hLR (Chart.okI.on vd o6) v6
  simp only [show ((0 : Nat) : Int) = 0 from rfl] at key
  have hlt : ¬ (qs.length : Int) < qs.length := by omega
  simp only [run0, run1, run2, run3, run4, noSlot, ownS, ownK, memN, RO.dst, lk, drop, forget, number, Nat.reduceBEq, cut?, splice?, builds, List.length_cons, List.length_nil, List.drop_succ_cons, List.drop_zero, List.take_succ_cons, List.take_zero, List.cons_append, List.nil_append, List.append_nil, List.drop_nil, List.take_nil, Nat.reduceAdd, Nat.reduceLeDiff, Nat.zero_add, Nat.add_zero, ↓reduceIte, Bool.not_true, Bool.not_false, decide_true, decide_false, eq_self, bne_self_eq_false, List.getElem?_cons_zero, List.getElem?_cons_succ, decide_eq_true_eq, Bool.false_eq_true, Bool.true_eq_false, reduceCtorEq, Nat.le_refl, hb, e1, k1, k2, k3, e2, l1, l2, l3, e3, wz.len, wy.len, hln, e4, List.replicate_succ, List.replicate_zero, fills, and_self, List.set_cons_zero, List.set_cons_succ, Nat.reduceLT, Nat.zero_lt_succ, Nat.zero_lt_one, hh4, key]
  rw [loop_run]
  conv in (codeF _ _ r182L1 _) => unfold r182L1
  simp only [run0, run1, run2, run3, run4, noSlot, ownS, ownK, memN, RO.dst, lk, drop, forget, number, Nat.reduceBEq, cut?, splice?, builds, List.length_cons, List.length_nil, List.drop_succ_cons, List.drop_zero, List.take_succ_cons, List.take_zero, List.cons_append, List.nil_append, List.append_nil, List.drop_nil, List.take_nil, Nat.reduceAdd, Nat.reduceLeDiff, Nat.zero_add, Nat.add_zero, ↓reduceIte, Bool.not_true, Bool.not_false, decide_true, decide_false, eq_self, bne_self_eq_false, List.getElem?_cons_zero, List.getElem?_cons_succ, decide_eq_true_eq, Bool.false_eq_true, Bool.true_eq_false, reduceCtorEq, Nat.le_refl, wy.len, hlt, m1, m2, m3, e6, n1, n2, n3, e7]
  exact ⟨_, rfl⟩
end
end Go.Proofs.Ytlbagejkjkfkjaa.A
/- FnCharts: the row's statement, from the law of the abstract run. No condition. -/
namespace Go.Proofs.Ytlbagejkjkfkjaa.A.Charts
open Go Go.ChangeShapes Go.WideShapes Go.ChangeAt Go.RowKit
theorem own : ownKnob Try.prog.godebug = none := by kernel_rfl
set_option maxRecDepth 100000 in
theorem lifted (os : Os) (started : os.Started) (H : Type) (enc : TypeId × Value → H) :
    ReturnsInHanded {} Try.checked os 13 .any (Rows.fnChartsSpec.pre6 enc Try.prog Try.f13 Rows.fnChartsRow.domain false) (Rows.fnChartsSpec.post enc Try.prog Try.f13 false true false false) := by
  refine returnsInHanded_of_change_sized (C := Try.checked) own started (by kernel_rfl) Try.func13
    (ChangeSpec.witness6 (enc := enc) (C := Try.checked) false ⟨#[], #[.slice none 0 0], []⟩ 8 (by kernel_rfl) (by kernel_rfl) (by kernel_rfl) (by kernel_rfl)) ?_
  intro W base args ds gs before hval hW _ _ _
  have hW' := hW
  obtain ⟨p, q, hA, hV, rfl, hfz, hnd⟩ := hW
  obtain ⟨rfl, rfl⟩ := trodVars_none hV
  have r0 : DataW.TrodAll enc Try.prog W 0 (fun _ => true) true [22] args.toList ds p := hA
  obtain ⟨_, _, d0, _, _, _, _, rfl, _, _, r1⟩ := trodAll_cons r0
  obtain ⟨_, rfl, _⟩ := trodAll_nil r1
  refine (law_calls (ts := [22]) (ss := [shUint8S]) prog (show (mkCfgZ Try.prog tab ptab tags).G 182 = some 13 from by kernel_rfl) ⟨show shIs Try.prog (mkCfgZ Try.prog tab ptab tags).ET (mkCfgZ Try.prog tab ptab tags).SZ 8 22 shUint8S = true from by kernel_rfl, trivial⟩ (law_Charts inI11 inI12 inLChart inLRange inLaws inLibslicesIndexFuncimplRangeimplRange inS01d inS11 inS12 inWFnCharts pr269 pr270) (fun j t v h1 => hval j t v (by rw [Try.params13]; exact (List.getElem?_toArray ..).trans h1)) hA).mono fun e W' ⟨he, bel⟩ => ?_
  subst he
  exact ⟨_, rfl, _, _, _, [], _, [], hW', trodAll_mk1 (shut_bool Try.underlying4 _), trodAll_below (by kernel_rfl) bel _ _ _ _ (by kernel_rfl) hA hA.lt, rfl, bel.frame _, fun h => by cases h⟩
theorem over : Rows.fnChartsRow.holds Try.pinned (OpenSpec.ofChange Rows.fnChartsSpec) :=
  OpenClaim.holds_of_wide 13 Try.f13 rfl rfl rfl rfl rfl rfl rfl ⟨rfl, rfl, rfl, rfl, rfl⟩ rfl rfl rfl rfl rfl (by kernel_rfl) Try.func13 (by kernel_rfl)
    (of_decide_eq_true (by kernel_rfl)) (by unfold Func.isWrapper; first | (rw [if_pos (by decide +kernel)]; kernel_rfl) | (rw [if_neg (by decide +kernel)]; exact ⟨rfl, rfl⟩))
    (fun os started H enc _ => lifted os started H enc)
end Go.Proofs.Ytlbagejkjkfkjaa.A.Charts
namespace Go.Proofs.Ytlbagejkjkfkjaa
/-- The row. -/
theorem fnCharts_holds : Rows.FnChartsSaid := A.Charts.over
#print axioms fnCharts_holds
end Go.Proofs.Ytlbagejkjkfkjaa
