/- FnExactInOrder: the statement, from the law of the abstract run. No condition. -/
import Derived.Test.YtcdlbjomdokmiaaHCExactInOrder3
import Derived.Test.YtcdlbjomdokmiaaB6
import Derived.Test.YtcdlbjomdokmiaaZ7
import Derived.Test.YtcdlbjomdokmiaaProg
import Derived.Test.YtcdlbjomdokmiaaRows
import Derived.ProofKit
import Derived.OpenShut
import Derived.ShutString
import Derived.ChangeOld
import Derived.Below
import Derived.SizedLaws
/- The functions that FnExactInOrder reaches: the program's code against the compact code, entry by entry. -/
namespace Go.Proofs.Ytcdlbjomdokmiaa.A.ExactInOrder
open Go
def c : CC where
  T := [(3, ⟨1, 8, false, some [.int .i64 0], (.int .i64)⟩),
    (4, ⟨1, 1, false, some [.bool false], .bool⟩),
    (23, ⟨1, 8, false, some [.int .u64 0], (.int .u64)⟩),
    (32, ⟨1, 24, false, some [.nil], (.slice 3 15)⟩),
    (45, ⟨1, 24, false, some [.nil], (.slice 80 2)⟩),
    (48, ⟨1, 24, false, some [.nil], (.slice 76 1)⟩),
    (67, ⟨1, 24, false, some [.nil], (.slice 113 11)⟩),
    (69, ⟨1, 24, true, some [.nil], (.struct [(0, 1, false)])⟩),
    (74, ⟨4, 32, true, some [.int .i64 0, .int .u64 0, .int .u64 0, .int .u64 0], (.struct [(0, 1, false), (1, 1, false), (2, 1, false), (3, 1, false)])⟩),
    (76, ⟨8, 64, true, some [.int .i64 0, .int .u64 0, .int .u64 0, .int .u64 0, .int .i64 0, .int .i64 0, .int .i64 0, .int .u64 0], (.struct [(0, 4, true), (4, 1, false), (5, 1, false), (6, 1, false), (7, 1, false)])⟩),
    (78, ⟨4, 32, true, some [.int .i64 0, .int .u64 0, .int .u64 0, .int .u64 0], (.struct [(0, 1, false), (1, 1, false), (2, 1, false), (3, 1, false)])⟩),
    (80, ⟨8, 64, true, some [.int .i64 0, .int .u64 0, .int .u64 0, .int .u64 0, .int .i64 0, .int .i64 0, .int .i64 0, .int .u64 0], (.struct [(0, 4, true), (4, 1, false), (5, 1, false), (6, 1, false), (7, 1, false)])⟩),
    (113, ⟨5, 40, true, some [.int .u64 0, .int .u64 0, .int .u64 0, .int .u64 0, .int .i64 0], (.struct [(0, 1, false), (1, 1, false), (2, 1, false), (3, 1, false), (4, 1, false)])⟩)]
  F := [(4, 359), (12, 285), (19, 40), (20, 361), (21, 41), (22, 360), (23, 362), (24, 44), (38, 42), (39, 370), (40, 5), (41, 371), (42, 9), (43, 97), (44, 372), (45, 373), (46, 98), (61, 377), (62, 10), (63, 294), (64, 26), (65, 27), (66, 329), (67, 378), (68, 119), (74, 259), (75, 241), (76, 323), (77, 324), (78, 325), (79, 326), (80, 327), (81, 328), (82, 260), (83, 265), (84, 337), (85, 338), (86, 339), (87, 340), (88, 341), (89, 342), (90, 379), (93, 335), (94, 336), (96, 343), (97, 345), (98, 344), (99, 346), (100, 347), (104, 348)]
  eqT := []
  adds := [95]
def F : Nat → Option RF := lk (tI10 ++ tI17 ++ tLInt ++ tLLedgerCall ++ tLPast ++ tLibslicesContainsintint ++ tLibslicesIndexintint ++ tS01d ++ tS10 ++ tS17 ++ tWInOrder)
def tab : List (Nat × FuncId × RF) := [(359, 4, r359), (285, 12, r285), (40, 19, r40), (361, 20, r361), (41, 21, r41), (360, 22, r360), (362, 23, r362), (44, 24, r44), (42, 38, r42), (370, 39, r370), (5, 40, r5), (371, 41, r371), (9, 42, r9), (97, 43, r97), (372, 44, r372), (373, 45, r373), (98, 46, r98), (377, 61, r377), (10, 62, r10), (294, 63, r294), (26, 64, r26), (27, 65, r27), (329, 66, r329), (378, 67, r378), (119, 68, r119), (259, 74, r259), (241, 75, r241), (323, 76, r323), (324, 77, r324), (325, 78, r325), (326, 79, r326), (327, 80, r327), (328, 81, r328), (260, 82, r260), (265, 83, r265), (337, 84, r337), (338, 85, r338), (339, 86, r339), (340, 87, r340), (341, 88, r341), (342, 89, r342), (379, 90, r379), (335, 93, r335), (336, 94, r336), (345, 97, r345), (344, 98, r344), (346, 99, r346), (347, 100, r347)]
def tags : List (Nat × TypeId × Nat) := [(1, 76, 8), (2, 80, 8), (11, 113, 5), (15, 3, 1)]
open Go.Shelf
def ptab : List (Nat × FuncId × PrimF) := [(343, 96, (insF 11 40)), (348, 104, (delF 11))]
theorem i113 : (Try.prog.info? 113).isSome = true := by kernel_rfl
noncomputable def inf113 : TypeInfo := (Try.prog.info? 113).get i113
theorem z113 : inf113.zero.isSome = true := by kernel_rfl
noncomputable def zv113 : Value := inf113.zero.get z113
theorem p343 : Z.InsT Try.prog (renI 96 102 103 3 4 113 67) 5 40 zv113 where
  mixed := by kernel_rfl
  f22 := ⟨(Try.prog.funcs[96]?.map (·.name)).getD "", by kernel_rfl, by kernel_rfl⟩
  f29 := ⟨Try.f102, Try.func102, by kernel_rfl, by kernel_rfl, by kernel_rfl, by kernel_rfl⟩
  t3 := by kernel_rfl
  t4 := by kernel_rfl
  t24 := by kernel_rfl
  i9 := ⟨inf113, (Option.some_get i113).symm, by kernel_rfl, by kernel_rfl, (Option.some_get z113).symm, by kernel_rfl, by decide⟩
theorem p348 : Z.DelT Try.prog (renD 104 3 4 113 67) 5 zv113 where
  mixed := by kernel_rfl
  f45 := ⟨(Try.prog.funcs[104]?.map (·.name)).getD "", by kernel_rfl, by kernel_rfl⟩
  t3 := by kernel_rfl
  t4 := by kernel_rfl
  t22 := by kernel_rfl
  i23 := ⟨inf113, (Option.some_get i113).symm, by kernel_rfl, by kernel_rfl, by decide, (Option.some_get z113).symm, List.all_eq_true.1 (show (zv113.cells.toList.all (·.oneCell')) = true from by kernel_rfl)⟩
theorem ok359 : FnOk Try.prog c F (359, 4, r359) := ⟨Try.f4, [], [], Try.func4, by kernel_rfl, by kernel_rfl, by kernel_rfl⟩
theorem ok285 : FnOk Try.prog c F (285, 12, r285) := ⟨Try.f12, [], [[0, 1, 5], [0, 1, 2, 4, 5, 6, 3, 7, 8], [0, 1, 2, 3, 4, 5, 6, 7, 8], []], Try.func12, by kernel_rfl, by kernel_rfl, by kernel_rfl⟩
theorem ok40 : FnOk Try.prog c F (40, 19, r40) := ⟨Try.f19, [], [], Try.func19, by kernel_rfl, by kernel_rfl, by kernel_rfl⟩
theorem ok361 : FnOk Try.prog c F (361, 20, r361) := ⟨Try.f20, [], [[0, 1, 5, 6], [13, 0, 1, 2, 3, 5, 6, 7, 4, 8, 9, 10, 11, 12, 14, 15], [0, 1, 2, 3, 4, 5, 6, 7, 8, 9, 10, 11, 13, 14, 12, 15], []], Try.func20, by kernel_rfl, by kernel_rfl, by kernel_rfl⟩
theorem ok41 : FnOk Try.prog c F (41, 21, r41) := ⟨Try.f21, [], [[0, 3, 4]], Try.func21, by kernel_rfl, by kernel_rfl, by kernel_rfl⟩
theorem ok360 : FnOk Try.prog c F (360, 22, r360) := ⟨Try.f22, [], [[0, 3, 4]], Try.func22, by kernel_rfl, by kernel_rfl, by kernel_rfl⟩
theorem ok362 : FnOk Try.prog c F (362, 23, r362) := ⟨Try.f23, [], [[0, 1, 5, 14, 15, 16], [10, 0, 1, 2, 3, 4, 5, 6, 7, 8, 9, 11, 12], [0, 1, 2, 3, 4, 5, 6, 7, 8, 10, 11, 9, 12], []], Try.func23, by kernel_rfl, by kernel_rfl, by kernel_rfl⟩
theorem ok44 : FnOk Try.prog c F (44, 24, r44) := ⟨Try.f24, [], [[0, 1, 5], [0, 1, 2, 4, 5, 6, 3, 7, 8, 9], [0, 1, 2, 3, 4, 5, 6, 7, 8, 9], []], Try.func24, by kernel_rfl, by kernel_rfl, by kernel_rfl⟩
theorem ok42 : FnOk Try.prog c F (42, 38, r42) := ⟨Try.f38, [], [[0, 3]], Try.func38, by kernel_rfl, by kernel_rfl, by kernel_rfl⟩
theorem ok370 : FnOk Try.prog c F (370, 39, r370) := ⟨Try.f39, [], [[0, 1, 5]], Try.func39, by kernel_rfl, by kernel_rfl, by kernel_rfl⟩
theorem ok5 : FnOk Try.prog c F (5, 40, r5) := ⟨Try.f40, [], [], Try.func40, by kernel_rfl, by kernel_rfl, by kernel_rfl⟩
theorem ok371 : FnOk Try.prog c F (371, 41, r371) := ⟨Try.f41, [], [[0, 1, 3, 6, 8, 10], [0, 1, 2, 4, 3, 5, 6, 7, 8, 9, 11, 12, 13, 14, 10, 15, 16, 17, 18, 19], [0, 1, 2, 3, 4, 5, 6, 7, 8, 9, 10, 11, 12, 13, 14, 15, 16, 17, 18, 19], [], [11, 1, 2, 3, 0, 4, 5, 6, 7, 8, 9, 10, 12, 13, 14], [0, 1, 2, 3, 4, 5, 6, 7, 8, 11, 12, 9, 13, 10, 14], []], Try.func41, by kernel_rfl, by kernel_rfl, by kernel_rfl⟩
theorem ok9 : FnOk Try.prog c F (9, 42, r9) := ⟨Try.f42, [], [], Try.func42, by kernel_rfl, by kernel_rfl, by kernel_rfl⟩
theorem ok97 : FnOk Try.prog c F (97, 43, r97) := ⟨Try.f43, [], [[0, 5, 6, 7]], Try.func43, by kernel_rfl, by kernel_rfl, by kernel_rfl⟩
theorem ok372 : FnOk Try.prog c F (372, 44, r372) := ⟨Try.f44, [], [[0, 2, 7, 8, 10, 20, 21, 22], [0, 1, 2, 3, 5, 6, 7, 4, 8, 9, 10], [0, 1, 2, 3, 4, 5, 6, 7, 8, 9, 10], [], [0, 1, 2, 3, 4, 5, 6, 7, 8, 9, 10, 11, 12, 13, 14, 15, 16, 17], [0, 1, 2, 3, 4, 5, 6, 7, 8, 9, 16, 10, 11, 12, 13, 14, 15, 17], [8]], Try.func44, by kernel_rfl, by kernel_rfl, by kernel_rfl⟩
theorem ok373 : FnOk Try.prog c F (373, 45, r373) := ⟨Try.f45, [], [[1, 7, 8, 9]], Try.func45, by kernel_rfl, by kernel_rfl, by kernel_rfl⟩
theorem ok98 : FnOk Try.prog c F (98, 46, r98) := ⟨Try.f46, [], [], Try.func46, by kernel_rfl, by kernel_rfl, by kernel_rfl⟩
theorem ok377 : FnOk Try.prog c F (377, 61, r377) := ⟨Try.f61, [], [[0, 1, 5]], Try.func61, by kernel_rfl, by kernel_rfl, by kernel_rfl⟩
theorem ok10 : FnOk Try.prog c F (10, 62, r10) := ⟨Try.f62, [], [], Try.func62, by kernel_rfl, by kernel_rfl, by kernel_rfl⟩
theorem ok294 : FnOk Try.prog c F (294, 63, r294) := ⟨Try.f63, [], [[1, 4, 0, 2, 3, 5, 6, 7, 8, 9, 10], [0, 8, 1, 9, 2, 3, 4, 5, 6, 7, 10], [4]], Try.func63, by kernel_rfl, by kernel_rfl, by kernel_rfl⟩
theorem ok26 : FnOk Try.prog c F (26, 64, r26) := ⟨Try.f64, [], [], Try.func64, by kernel_rfl, by kernel_rfl, by kernel_rfl⟩
theorem ok27 : FnOk Try.prog c F (27, 65, r27) := ⟨Try.f65, [], [], Try.func65, by kernel_rfl, by kernel_rfl, by kernel_rfl⟩
theorem ok329 : FnOk Try.prog c F (329, 66, r329) := ⟨Try.f66, [], [[1, 4, 0, 2, 3, 5, 6, 7, 8, 9, 10], [0, 8, 1, 9, 2, 3, 4, 5, 6, 7, 10], [4]], Try.func66, by kernel_rfl, by kernel_rfl, by kernel_rfl⟩
theorem ok378 : FnOk Try.prog c F (378, 67, r378) := ⟨Try.f67, [], [], Try.func67, by kernel_rfl, by kernel_rfl, by kernel_rfl⟩
theorem ok119 : FnOk Try.prog c F (119, 68, r119) := ⟨Try.f68, [], [], Try.func68, by kernel_rfl, by kernel_rfl, by kernel_rfl⟩
theorem ok259 : FnOk Try.prog c F (259, 74, r259) := ⟨Try.f74, [], [[1, 2, 3, 4], [4, 0, 1, 2, 3, 5, 6, 7, 8, 9, 10], [0, 1, 2, 3, 4, 5, 6, 7, 8, 9, 10], []], Try.func74, by kernel_rfl, by kernel_rfl, by kernel_rfl⟩
theorem ok241 : FnOk Try.prog c F (241, 75, r241) := ⟨Try.f75, [], [[1, 3], [0, 1, 2, 5, 6, 3, 4, 7, 8, 9, 10, 11, 12, 13, 14, 15, 16, 17, 18, 19, 20, 21, 22, 23, 24, 25, 26, 27, 28, 29, 30, 31, 32, 33], [0, 1, 2, 3, 4, 5, 6, 7, 8, 9, 10, 11, 12, 13, 14, 15, 16, 17, 18, 19, 20, 21, 22, 23, 24, 25, 26, 27, 28, 29, 30, 31, 32, 33], []], Try.func75, by kernel_rfl, by kernel_rfl, by kernel_rfl⟩
theorem ok323 : FnOk Try.prog c F (323, 76, r323) := ⟨Try.f76, [], [[1, 2, 4, 6, 7, 8], [4, 0, 1, 2, 3, 5, 6, 7, 8, 9, 10], [0, 1, 2, 3, 4, 5, 6, 7, 8, 9, 10], []], Try.func76, by kernel_rfl, by kernel_rfl, by kernel_rfl⟩
theorem ok324 : FnOk Try.prog c F (324, 77, r324) := ⟨Try.f77, [], [[1, 2, 4, 8, 9], [4, 0, 1, 2, 3, 5, 6, 7, 8, 9, 10], [0, 1, 2, 3, 4, 5, 6, 7, 8, 9, 10], []], Try.func77, by kernel_rfl, by kernel_rfl, by kernel_rfl⟩
theorem ok325 : FnOk Try.prog c F (325, 78, r325) := ⟨Try.f78, [], [], Try.func78, by kernel_rfl, by kernel_rfl, by kernel_rfl⟩
theorem ok326 : FnOk Try.prog c F (326, 79, r326) := ⟨Try.f79, [], [], Try.func79, by kernel_rfl, by kernel_rfl, by kernel_rfl⟩
theorem ok327 : FnOk Try.prog c F (327, 80, r327) := ⟨Try.f80, [], [[0, 1, 3, 2, 4, 5, 6], [0, 1, 2, 3, 4, 5, 6], []], Try.func80, by kernel_rfl, by kernel_rfl, by kernel_rfl⟩
theorem ok328 : FnOk Try.prog c F (328, 81, r328) := ⟨Try.f81, [], [[1, 2, 5]], Try.func81, by kernel_rfl, by kernel_rfl, by kernel_rfl⟩
theorem ok260 : FnOk Try.prog c F (260, 82, r260) := ⟨Try.f82, [], [], Try.func82, by kernel_rfl, by kernel_rfl, by kernel_rfl⟩
theorem ok265 : FnOk Try.prog c F (265, 83, r265) := ⟨Try.f83, [], [[1, 10, 11, 12], [0, 1, 2, 3, 4, 5, 6, 7, 8, 9, 10, 11, 12, 13, 14, 15, 16, 17, 18, 19, 20, 21, 22, 23, 24, 25, 26, 27, 30, 31, 28, 29, 32, 33, 34, 35, 36, 37, 38, 39], [0, 1, 2, 3, 4, 5, 6, 7, 8, 9, 10, 11, 12, 13, 14, 15, 16, 17, 18, 19, 20, 21, 22, 23, 24, 25, 26, 27, 28, 29, 30, 31, 32, 33, 34, 35, 36, 37, 38, 39], []], Try.func83, by kernel_rfl, by kernel_rfl, by kernel_rfl⟩
theorem ok337 : FnOk Try.prog c F (337, 84, r337) := ⟨Try.f84, [], [], Try.func84, by kernel_rfl, by kernel_rfl, by kernel_rfl⟩
theorem ok338 : FnOk Try.prog c F (338, 85, r338) := ⟨Try.f85, [], [], Try.func85, by kernel_rfl, by kernel_rfl, by kernel_rfl⟩
theorem ok339 : FnOk Try.prog c F (339, 86, r339) := ⟨Try.f86, [5], [], Try.func86, by kernel_rfl, by kernel_rfl, by kernel_rfl⟩
theorem ok340 : FnOk Try.prog c F (340, 87, r340) := ⟨Try.f87, [5], [], Try.func87, by kernel_rfl, by kernel_rfl, by kernel_rfl⟩
theorem ok341 : FnOk Try.prog c F (341, 88, r341) := ⟨Try.f88, [], [], Try.func88, by kernel_rfl, by kernel_rfl, by kernel_rfl⟩
theorem ok342 : FnOk Try.prog c F (342, 89, r342) := ⟨Try.f89, [], [[1, 2, 6], [0, 1, 2, 3, 4, 5, 6, 9, 13, 16, 7, 8, 10, 11, 12, 14, 15, 17], [0, 1, 2, 3, 4, 5, 6, 16, 7, 8, 9, 10, 11, 12, 13, 14, 15, 17], []], Try.func89, by kernel_rfl, by kernel_rfl, by kernel_rfl⟩
theorem ok379 : FnOk Try.prog c F (379, 90, r379) := ⟨Try.f90, [], [[0, 1, 7, 8]], Try.func90, by kernel_rfl, by kernel_rfl, by kernel_rfl⟩
theorem ok335 : FnOk Try.prog c F (335, 93, r335) := ⟨Try.f93, [], [], Try.func93, by kernel_rfl, by kernel_rfl, by kernel_rfl⟩
theorem ok336 : FnOk Try.prog c F (336, 94, r336) := ⟨Try.f94, [], [[3, 4, 5, 6], [2, 0, 1, 3, 4, 5, 6, 7, 8], [0, 1, 2, 3, 4, 5, 6, 7, 8], []], Try.func94, by kernel_rfl, by kernel_rfl, by kernel_rfl⟩
theorem ok345 : FnOk Try.prog c F (345, 97, r345) := ⟨Try.f97, [], [], Try.func97, by kernel_rfl, by kernel_rfl, by kernel_rfl⟩
theorem ok344 : FnOk Try.prog c F (344, 98, r344) := ⟨Try.f98, [], [], Try.func98, by kernel_rfl, by kernel_rfl, by kernel_rfl⟩
theorem ok346 : FnOk Try.prog c F (346, 99, r346) := ⟨Try.f99, [], [[0, 1, 6, 7, 2, 3, 4, 5, 8, 9, 10], [0, 1, 2, 3, 4, 5, 6, 7, 8, 9, 10], [], [0, 1, 2, 3, 4, 5, 6, 7, 8], [0, 1, 2, 3, 4, 5, 6, 7, 8], []], Try.func99, by kernel_rfl, by kernel_rfl, by kernel_rfl⟩
theorem ok347 : FnOk Try.prog c F (347, 100, r347) := ⟨Try.f100, [], [[0, 1, 2, 3, 4, 5], [0, 1, 2, 3, 4, 5], [], [0, 1, 2, 3, 4, 5, 6, 7, 8], [0, 1, 2, 3, 4, 5, 6, 7, 8], []], Try.func100, by kernel_rfl, by kernel_rfl, by kernel_rfl⟩
theorem okT : (c.T.all fun x => x.2.okB Try.prog (mkCfgZ Try.prog tab ptab tags).ET (mkCfgZ Try.prog tab ptab tags).SZ x.1) = true := by kernel_rfl
theorem okF : (c.F.all fun x => decide ((mkCfgZ Try.prog tab ptab tags).G x.2 = some x.1)) = true := by kernel_rfl
theorem okTab : AllT (FnOk Try.prog c F) tab := ⟨ok359, ok285, ok40, ok361, ok41, ok360, ok362, ok44, ok42, ok370, ok5, ok371, ok9, ok97, ok372, ok373, ok98, ok377, ok10, ok294, ok26, ok27, ok329, ok378, ok119, ok259, ok241, ok323, ok324, ok325, ok326, ok327, ok328, ok260, ok265, ok337, ok338, ok339, ok340, ok341, ok342, ok379, ok335, ok336, ok345, ok344, ok346, ok347, trivial⟩
theorem okP : AllT (PFn Try.prog F) ptab := ⟨⟨⟨Try.f96, Try.func96, by kernel_rfl, by kernel_rfl⟩, rfl, step_ins _ _⟩, ⟨⟨Try.f104, Try.func104, by kernel_rfl, by kernel_rfl⟩, rfl, step_del _⟩, trivial⟩
theorem prog (O : Nat) : ProgOk ((mkCfgZ Try.prog tab ptab tags).at O) c F (primZ ptab) :=
  mkProgZ okT okF okTab okP ⟨⟨Try.f95, Try.func95, by kernel_rfl, by kernel_rfl, by kernel_rfl, by kernel_rfl⟩, trivial⟩ trivial O ⟨ins_ok (ρ := renI 96 102 103 3 4 113 67) (k := 5) rfl rfl p343, del_ok (ρ := renD 104 3 4 113 67) (k := 5) rfl rfl p348, trivial⟩
theorem pr343 : PrimAt F (primZ ptab) 343 (insF 11 40) := primAt (ptab := ptab) (n := 343) (x := (96, (insF 11 40))) rfl rfl
theorem pr348 : PrimAt F (primZ ptab) 348 (delF 11) := primAt (ptab := ptab) (n := 348) (x := (104, (delF 11))) rfl rfl
theorem inI10 : AllT (fun x => F x.1 = some x.2) tI10 := ⟨rfl, rfl, rfl, rfl, rfl, rfl, rfl, rfl, rfl, rfl, rfl, rfl, rfl, trivial⟩
theorem inI17 : AllT (fun x => F x.1 = some x.2) tI17 := ⟨rfl, rfl, rfl, rfl, rfl, rfl, rfl, rfl, rfl, rfl, trivial⟩
theorem inLInt : AllT (fun x => F x.1 = some x.2) tLInt := ⟨rfl, rfl, rfl, rfl, trivial⟩
theorem inLLedgerCall : AllT (fun x => F x.1 = some x.2) tLLedgerCall := ⟨rfl, rfl, trivial⟩
theorem inLPast : AllT (fun x => F x.1 = some x.2) tLPast := ⟨rfl, rfl, rfl, rfl, rfl, rfl, rfl, trivial⟩
theorem inLibslicesContainsintint : AllT (fun x => F x.1 = some x.2) tLibslicesContainsintint := ⟨rfl, trivial⟩
theorem inLibslicesIndexintint : AllT (fun x => F x.1 = some x.2) tLibslicesIndexintint := ⟨rfl, trivial⟩
theorem inS01d : AllT (fun x => F x.1 = some x.2) tS01d := ⟨rfl, rfl, rfl, rfl, rfl, rfl, rfl, rfl, rfl, trivial⟩
theorem inS10 : AllT (fun x => F x.1 = some x.2) tS10 := ⟨rfl, rfl, rfl, rfl, rfl, rfl, rfl, rfl, rfl, rfl, rfl, rfl, rfl, trivial⟩
theorem inS17 : AllT (fun x => F x.1 = some x.2) tS17 := ⟨rfl, rfl, rfl, rfl, rfl, rfl, rfl, trivial⟩
theorem inWInOrder : AllT (fun x => F x.1 = some x.2) tWInOrder := ⟨rfl, trivial⟩
end Go.Proofs.Ytcdlbjomdokmiaa.A.ExactInOrder
/- InOrder: the law's function, run on any arguments, answers true. -/
namespace Go.Proofs.Ytcdlbjomdokmiaa.A
open Go
set_option linter.unusedSimpArgs false
set_option linter.unusedVariables false
set_option maxHeartbeats 2000000 in
theorem law_ExactInOrder {F : Nat → Option RF} {Z : CallF} (hI10 : Has F tI10) (hI17 : Has F tI17) (hLInt : Has F tLInt) (hLLedgerCall : Has F tLLedgerCall) (hLPast : Has F tLPast) (hLibslicesContainsintint : Has F tLibslicesContainsintint) (hLibslicesIndexintint : Has F tLibslicesIndexintint) (hS01d : Has F tS01d) (hS10 : Has F tS10) (hS17 : Has F tS17) (hWInOrder : Has F tWInOrder) (pr343 : PrimAt F Z 343 (insF 11 40)) (pr348 : PrimAt F Z 348 (delF 11)) (h : Heap) (avs : List V) (hfl : h.floor = h.next) (w : ArgsWf h 8 [shPastS, shIntS] avs) : ∃ h', call F Z 359 avs h = some (.c (.bool true), h') := by
  obtain ⟨xsx, _, rfl, xsw, w1⟩ := ArgsWf.slice w
  obtain ⟨xs, xsp, xsv, xsok⟩ := SlR.ofWf (R := Fl Past.enc) (A := Past.Ok) (fun r hr => by obtain ⟨p, rfl, ok⟩ := Wf.past_ok hr.2; exact ⟨p, [], ⟨rfl, rfl⟩, ok⟩) xsw
  obtain ⟨osx, _, rfl, osw, w2⟩ := ArgsWf.slice w1
  obtain ⟨os, osp, osv, osok⟩ := Wf.isIntS osw
  obtain rfl := w2.nil
  have f0 : h.floor ≤ h.next := by omega
  rw [call_run F Z (hWInOrder.lk (g := 359) rfl) _ _ rfl]
  simp only [run0, run1, run2, run3, run4, noSlot, ownS, ownK, memN, RO.dst, lk, drop, forget, number, Nat.reduceBEq, cut?, splice?, builds, List.length_cons, List.length_nil, List.drop_succ_cons, List.drop_zero, List.take_succ_cons, List.take_zero, List.cons_append, List.nil_append, List.append_nil, List.drop_nil, List.take_nil, Nat.reduceAdd, Nat.reduceLeDiff, Nat.zero_add, Nat.add_zero, ↓reduceIte, Bool.not_true, Bool.not_false, decide_true, decide_false, eq_self, bne_self_eq_false, List.getElem?_cons_zero, List.getElem?_cons_succ, decide_eq_true_eq, Bool.false_eq_true, Bool.true_eq_false, reduceCtorEq, Nat.le_refl, osv.len]
  by_cases hg1 : (os.length : Int) > 1048576
  · simp only [run0, run1, run2, run3, run4, noSlot, ownS, ownK, memN, RO.dst, lk, drop, forget, number, Nat.reduceBEq, cut?, splice?, builds, List.length_cons, List.length_nil, List.drop_succ_cons, List.drop_zero, List.take_succ_cons, List.take_zero, List.cons_append, List.nil_append, List.append_nil, List.drop_nil, List.take_nil, Nat.reduceAdd, Nat.reduceLeDiff, Nat.zero_add, Nat.add_zero, ↓reduceIte, Bool.not_true, Bool.not_false, decide_true, decide_false, eq_self, bne_self_eq_false, List.getElem?_cons_zero, List.getElem?_cons_succ, decide_eq_true_eq, Bool.false_eq_true, Bool.true_eq_false, reduceCtorEq, Nat.le_refl, hg1]
    exact ⟨_, rfl⟩
  have sm1 : os.length ≤ 1048576 := by omega
  obtain ⟨l0, s0, s0l, s0k⟩ := szPastS_c hLPast (Z := Z) xsv 1048576 (by omega) (by omega)
  simp only [run0, run1, run2, run3, run4, noSlot, ownS, ownK, memN, RO.dst, lk, drop, forget, number, Nat.reduceBEq, cut?, splice?, builds, List.length_cons, List.length_nil, List.drop_succ_cons, List.drop_zero, List.take_succ_cons, List.take_zero, List.cons_append, List.nil_append, List.append_nil, List.drop_nil, List.take_nil, Nat.reduceAdd, Nat.reduceLeDiff, Nat.zero_add, Nat.add_zero, ↓reduceIte, Bool.not_true, Bool.not_false, decide_true, decide_false, eq_self, bne_self_eq_false, List.getElem?_cons_zero, List.getElem?_cons_succ, decide_eq_true_eq, Bool.false_eq_true, Bool.true_eq_false, reduceCtorEq, Nat.le_refl, s0, osv.len, hg1]
  by_cases hn0 : l0 < 0
  · simp only [run0, run1, run2, run3, run4, noSlot, ownS, ownK, memN, RO.dst, lk, drop, forget, number, Nat.reduceBEq, cut?, splice?, builds, List.length_cons, List.length_nil, List.drop_succ_cons, List.drop_zero, List.take_succ_cons, List.take_zero, List.cons_append, List.nil_append, List.append_nil, List.drop_nil, List.take_nil, Nat.reduceAdd, Nat.reduceLeDiff, Nat.zero_add, Nat.add_zero, ↓reduceIte, Bool.not_true, Bool.not_false, decide_true, decide_false, eq_self, bne_self_eq_false, List.getElem?_cons_zero, List.getElem?_cons_succ, decide_eq_true_eq, Bool.false_eq_true, Bool.true_eq_false, reduceCtorEq, Nat.le_refl, hn0]
    exact ⟨_, rfl⟩
  have sm0 := s0k (by omega)
  have flr : h.floor = h.next := hfl
  obtain ⟨y1, h1, p1, e1, o1, v1, q1⟩ := toPastS_c hLPast hLLedgerCall (Z := Z) f0 xsv sm0
  replace xsv := xsv.on (Fl.ok _) o1
  replace osv := osv.on (Fl.ok _) o1
  have n1 := o1.ext.1
  have g1 := o1.fl
  have f1 := o1.le f0
  obtain ⟨y2, h2, p2, e2, o2, v2, q2⟩ := toIntS_c hLInt (Z := Z) f1 osv sm1
  replace xsv := xsv.on (Fl.ok _) o2
  replace osv := osv.on (Fl.ok _) o2
  replace v1 := v1.on (Fl.ok _) o2
  have n2 := o2.ext.1
  have g2 := o2.fl
  have f2 := o2.le f1
  obtain ⟨h3, e3, o3⟩ := sInOrder_c hS10 hS17 hS01d (Z := Z) f2 v1 v2 xsok sm1
  replace xsv := xsv.on (Fl.ok _) o3
  replace osv := osv.on (Fl.ok _) o3
  replace v1 := v1.on (Fl.ok _) o3
  replace v2 := v2.on (Fl.ok _) o3
  have n3 := o3.ext.1
  have g3 := o3.fl
  have f3 := o3.le f2
  obtain ⟨y4, h4, p4, e4, o4, v4, q4⟩ := toPastS_c hLPast hLLedgerCall (Z := Z) f3 xsv sm0
  replace xsv := xsv.on (Fl.ok _) o4
  replace osv := osv.on (Fl.ok _) o4
  replace v1 := v1.on (Fl.ok _) o4
  replace v2 := v2.on (Fl.ok _) o4
  have n4 := o4.ext.1
  have g4 := o4.fl
  have f4 := o4.le f3
  obtain ⟨y5, h5, p5, e5, o5, v5, q5⟩ := toIntS_c hLInt (Z := Z) f4 osv sm1
  replace xsv := xsv.on (Fl.ok _) o5
  replace osv := osv.on (Fl.ok _) o5
  replace v1 := v1.on (Fl.ok _) o5
  replace v2 := v2.on (Fl.ok _) o5
  replace v4 := v4.on (Fl.ok _) o5
  have n5 := o5.ext.1
  have g5 := o5.fl
  have f5 := o5.le f4
  obtain ⟨h6, e6, o6⟩ := InOrder_c hI10 hI17 hLibslicesIndexintint hLibslicesContainsintint pr343 pr348 (Z := Z) f5 v4 v5 xsok sm1
  replace xsv := xsv.on (Fl.ok _) o6
  replace osv := osv.on (Fl.ok _) o6
  replace v1 := v1.on (Fl.ok _) o6
  replace v2 := v2.on (Fl.ok _) o6
  replace v4 := v4.on (Fl.ok _) o6
  replace v5 := v5.on (Fl.ok _) o6
  have n6 := o6.ext.1
  have g6 := o6.fl
  have f6 := o6.le f5
  obtain ⟨y7, h7, p7, e7, o7, v7, q7⟩ := toPastS_c hLPast hLLedgerCall (Z := Z) f6 xsv sm0
  replace xsv := xsv.on (Fl.ok _) o7
  replace osv := osv.on (Fl.ok _) o7
  replace v1 := v1.on (Fl.ok _) o7
  replace v2 := v2.on (Fl.ok _) o7
  replace v4 := v4.on (Fl.ok _) o7
  replace v5 := v5.on (Fl.ok _) o7
  have n7 := o7.ext.1
  have g7 := o7.fl
  have f7 := o7.le f6
  have c1 := eqPastS_run hLPast hLLedgerCall (Z := Z) v4 v7
  obtain ⟨y8, h8, p8, e8, o8, v8, q8⟩ := toIntS_c hLInt (Z := Z) f7 osv sm1
  replace xsv := xsv.on (Fl.ok _) o8
  replace osv := osv.on (Fl.ok _) o8
  replace v1 := v1.on (Fl.ok _) o8
  replace v2 := v2.on (Fl.ok _) o8
  replace v4 := v4.on (Fl.ok _) o8
  replace v5 := v5.on (Fl.ok _) o8
  have n8 := o8.ext.1
  have g8 := o8.fl
  have f8 := o8.le f7
  have c2 := eqIntS_run hLInt (Z := Z) v5 v8
  simp only [run0, run1, run2, run3, run4, noSlot, ownS, ownK, memN, RO.dst, lk, drop, forget, number, Nat.reduceBEq, cut?, splice?, builds, List.length_cons, List.length_nil, List.drop_succ_cons, List.drop_zero, List.take_succ_cons, List.take_zero, List.cons_append, List.nil_append, List.append_nil, List.drop_nil, List.take_nil, Nat.reduceAdd, Nat.reduceLeDiff, Nat.zero_add, Nat.add_zero, ↓reduceIte, Bool.not_true, Bool.not_false, decide_true, decide_false, eq_self, bne_self_eq_false, List.getElem?_cons_zero, List.getElem?_cons_succ, decide_eq_true_eq, Bool.false_eq_true, Bool.true_eq_false, reduceCtorEq, Nat.le_refl, hn0, osv.len, hg1, e1, e2, e3, e4, e5, e6, e7, c1, e8, c2]
  exact ⟨_, rfl⟩
end Go.Proofs.Ytcdlbjomdokmiaa.A
/- FnExactInOrder: the row's statement, from the law of the abstract run. No condition. -/
namespace Go.Proofs.Ytcdlbjomdokmiaa.A.ExactInOrder
open Go Go.ChangeShapes Go.WideShapes Go.ChangeAt Go.RowKit
theorem own : ownKnob Try.prog.godebug = none := by kernel_rfl
set_option maxRecDepth 100000 in
theorem lifted (os : Os) (started : os.Started) (H : Type) (enc : TypeId × Value → H) :
    ReturnsInHanded {} Try.checked os 4 .any (Rows.fnExactInOrderSpec.pre6 enc Try.prog Try.f4 Rows.fnExactInOrderRow.domain false) (Rows.fnExactInOrderSpec.post enc Try.prog Try.f4 false true false false) := by
  refine returnsInHanded_of_change_sized (C := Try.checked) own started (by kernel_rfl) Try.func4
    (ChangeSpec.witness6 (enc := enc) (C := Try.checked) false ⟨#[], #[.slice none 0 0, .slice none 0 0], []⟩ 8 (by kernel_rfl) (by kernel_rfl) (by kernel_rfl) (by kernel_rfl)) ?_
  intro W base args ds gs before hval hW _ _ _
  have hW' := hW
  obtain ⟨p, q, hA, hV, rfl, hfz, hnd⟩ := hW
  obtain ⟨rfl, rfl⟩ := trodVars_none hV
  have r0 : DataW.TrodAll enc Try.prog W 0 (fun _ => true) true [45, 32] args.toList ds p := hA
  obtain ⟨_, _, d0, _, _, _, _, rfl, _, _, r1⟩ := trodAll_cons r0
  obtain ⟨_, _, d1, _, _, _, _, rfl, _, _, r2⟩ := trodAll_cons r1
  obtain ⟨_, rfl, _⟩ := trodAll_nil r2
  refine (law_calls (ts := [45, 32]) (ss := [shPastS, shIntS]) prog (show (mkCfgZ Try.prog tab ptab tags).G 359 = some 4 from by kernel_rfl) ⟨show shIs Try.prog (mkCfgZ Try.prog tab ptab tags).ET (mkCfgZ Try.prog tab ptab tags).SZ 8 45 shPastS = true from by kernel_rfl, show shIs Try.prog (mkCfgZ Try.prog tab ptab tags).ET (mkCfgZ Try.prog tab ptab tags).SZ 8 32 shIntS = true from by kernel_rfl, trivial⟩ (law_ExactInOrder inI10 inI17 inLInt inLLedgerCall inLPast inLibslicesContainsintint inLibslicesIndexintint inS01d inS10 inS17 inWInOrder pr343 pr348) (fun j t v h1 => hval j t v (by rw [Try.params4]; exact (List.getElem?_toArray ..).trans h1)) hA).mono fun e W' ⟨he, bel⟩ => ?_
  subst he
  exact ⟨_, rfl, _, _, _, [], _, [], hW', trodAll_mk1 (shut_bool Try.underlying4 _), trodAll_below (by kernel_rfl) bel _ _ _ _ (by kernel_rfl) hA hA.lt, rfl, bel.frame _, fun h => by cases h⟩
theorem over : Rows.fnExactInOrderRow.holds Try.pinned (OpenSpec.ofChange Rows.fnExactInOrderSpec) :=
  OpenClaim.holds_of_wide 4 Try.f4 rfl rfl rfl rfl rfl rfl rfl ⟨rfl, rfl, rfl, rfl, rfl⟩ rfl rfl rfl rfl rfl (by kernel_rfl) Try.func4 (by kernel_rfl)
    (of_decide_eq_true (by kernel_rfl)) (by unfold Func.isWrapper; first | (rw [if_pos (by decide +kernel)]; kernel_rfl) | (rw [if_neg (by decide +kernel)]; exact ⟨rfl, rfl⟩))
    (fun os started H enc _ => lifted os started H enc)
end Go.Proofs.Ytcdlbjomdokmiaa.A.ExactInOrder
namespace Go.Proofs.Ytcdlbjomdokmiaa
/-- The row. -/
theorem fnExactInOrder_holds : Rows.FnExactInOrderSaid := A.ExactInOrder.over
#print axioms fnExactInOrder_holds
end Go.Proofs.Ytcdlbjomdokmiaa
