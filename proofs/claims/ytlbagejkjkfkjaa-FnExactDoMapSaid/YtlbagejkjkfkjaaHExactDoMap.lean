/- FnExactDoMap: the statement, from the law of the abstract run. No condition. -/
import Derived.Test.YtlbagejkjkfkjaaHCExactDoMap3
import Derived.Test.YtlbagejkjkfkjaaB6
import Derived.Test.YtlbagejkjkfkjaaZ7
import Derived.Test.YtlbagejkjkfkjaaProg
import Derived.Test.YtlbagejkjkfkjaaRows
import Derived.ProofKit
import Derived.OpenShut
import Derived.ShutString
import Derived.ChangeOld
import Derived.Below
import Derived.SizedLaws
/- The functions that FnExactDoMap reaches: the program's code against the compact code, entry by entry. -/
namespace Go.Proofs.Ytlbagejkjkfkjaa.A.ExactDoMap
open Go
def c : CC where
  T := [(3, ⟨1, 8, false, some [.int .i64 0], (.int .i64)⟩),
    (4, ⟨1, 1, false, some [.bool false], .bool⟩),
    (24, ⟨1, 8, false, some [.int .u64 0], (.int .u64)⟩),
    (39, ⟨1, 24, false, some [.nil], (.slice 223 8)⟩),
    (41, ⟨5, 56, true, some [.int .i64 0, .nil, .bool false, .int .u64 0, .int .i64 0], (.struct [(0, 1, false), (1, 1, false), (2, 1, false), (3, 1, false), (4, 1, false)])⟩),
    (46, ⟨1, 24, false, some [.nil], (.slice 175 7)⟩),
    (48, ⟨5, 56, true, some [.int .i64 0, .nil, .bool false, .int .u64 0, .int .i64 0], (.struct [(0, 1, false), (1, 1, false), (2, 1, false), (3, 1, false), (4, 1, false)])⟩),
    (116, ⟨3, 24, true, some [.int .i64 0, .int .u64 0, .int .i64 0], (.struct [(0, 1, false), (1, 1, false), (2, 1, false)])⟩),
    (121, ⟨3, 24, true, some [.int .i64 0, .int .u64 0, .int .i64 0], (.struct [(0, 1, false), (1, 1, false), (2, 1, false)])⟩),
    (175, ⟨3, 24, true, some [.int .u64 0, .int .u64 0, .int .i64 0], (.struct [(0, 1, false), (1, 1, false), (2, 1, false)])⟩),
    (223, ⟨3, 24, true, some [.int .u64 0, .int .u64 0, .int .i64 0], (.struct [(0, 1, false), (1, 1, false), (2, 1, false)])⟩)]
  F := [(12, 178), (56, 67), (57, 180), (58, 68), (59, 179), (60, 181), (61, 71), (62, 94), (63, 118), (94, 5), (115, 107), (116, 106), (117, 116), (118, 102), (119, 115), (120, 103), (121, 104), (122, 121), (123, 221), (124, 222), (125, 223), (126, 105), (127, 224), (128, 108), (129, 117), (130, 135), (156, 7), (171, 126), (172, 125), (173, 124), (174, 120), (175, 122), (176, 123), (177, 254), (178, 255), (179, 256), (180, 127), (202, 269), (203, 270)]
  eqT := []
  adds := []
def F : Nat → Option RF := lk (tI11 ++ tI12 ++ tLChart ++ tLMapCmd ++ tLRange ++ tLibslicesIndexFuncimplRangeimplRange ++ tS01d ++ tS11 ++ tS12 ++ tWDoMap)
def tab : List (Nat × FuncId × RF) := [(178, 12, r178), (67, 56, r67), (180, 57, r180), (68, 58, r68), (179, 59, r179), (181, 60, r181), (71, 61, r71), (94, 62, r94), (118, 63, r118), (102, 118, r102), (5, 94, r5), (115, 119, r115), (103, 120, r103), (104, 121, r104), (121, 122, r121), (221, 123, r221), (222, 124, r222), (223, 125, r223), (105, 126, r105), (224, 127, r224), (108, 128, r108), (117, 129, r117), (135, 130, r135), (120, 174, r120), (122, 175, r122), (123, 176, r123), (107, 115, r107), (106, 116, r106), (116, 117, r116), (7, 156, r7), (254, 177, r254), (255, 178, r255), (256, 179, r256), (127, 180, r127), (126, 171, r126), (125, 172, r125), (124, 173, r124)]
def tags : List (Nat × TypeId × Nat) := [(7, 175, 3), (8, 223, 3)]
open Go.Shelf
def ptab : List (Nat × FuncId × PrimF) := [(269, 202, (insF 7 24)), (270, 203, (delF 7))]
theorem i175 : (Try.prog.info? 175).isSome = true := by kernel_rfl
noncomputable def inf175 : TypeInfo := (Try.prog.info? 175).get i175
theorem z175 : inf175.zero.isSome = true := by kernel_rfl
noncomputable def zv175 : Value := inf175.zero.get z175
theorem p269 : Z.InsT Try.prog (renI 202 211 212 3 4 175 46) 3 24 zv175 where
  mixed := by kernel_rfl
  f22 := ⟨(Try.prog.funcs[202]?.map (·.name)).getD "", by kernel_rfl, by kernel_rfl⟩
  f29 := ⟨Try.f211, Try.func211, by kernel_rfl, by kernel_rfl, by kernel_rfl, by kernel_rfl⟩
  t3 := by kernel_rfl
  t4 := by kernel_rfl
  t24 := by kernel_rfl
  i9 := ⟨inf175, (Option.some_get i175).symm, by kernel_rfl, by kernel_rfl, (Option.some_get z175).symm, by kernel_rfl, by decide⟩
theorem p270 : Z.DelT Try.prog (renD 203 3 4 175 46) 3 zv175 where
  mixed := by kernel_rfl
  f45 := ⟨(Try.prog.funcs[203]?.map (·.name)).getD "", by kernel_rfl, by kernel_rfl⟩
  t3 := by kernel_rfl
  t4 := by kernel_rfl
  t22 := by kernel_rfl
  i23 := ⟨inf175, (Option.some_get i175).symm, by kernel_rfl, by kernel_rfl, by decide, (Option.some_get z175).symm, List.all_eq_true.1 (show (zv175.cells.toList.all (·.oneCell')) = true from by kernel_rfl)⟩
theorem ok178 : FnOk Try.prog c F (178, 12, r178) := ⟨Try.f12, [], [[8, 0, 2, 1, 3, 4, 5, 6, 7, 9, 10], [0, 1, 2, 3, 4, 5, 6, 8, 9, 7, 10], [], [7, 0, 1, 2, 3, 4, 5, 6, 8, 9], [0, 1, 2, 3, 4, 5, 7, 8, 6, 9], [], [0, 1, 2, 3, 4], [0, 1, 2, 3, 4], [], [8, 0, 2, 1, 3, 4, 5, 6, 7, 9, 10], [0, 1, 2, 3, 4, 5, 6, 8, 9, 7, 10], []], Try.func12, by kernel_rfl, by kernel_rfl, by kernel_rfl⟩
theorem ok67 : FnOk Try.prog c F (67, 56, r67) := ⟨Try.f56, [], [], Try.func56, by kernel_rfl, by kernel_rfl, by kernel_rfl⟩
theorem ok180 : FnOk Try.prog c F (180, 57, r180) := ⟨Try.f57, [], [[6, 0, 1, 2, 3, 4, 5, 7, 8, 9, 10, 11, 12, 13, 14, 15, 16], [0, 1, 2, 3, 4, 5, 6, 7, 8, 9, 10, 11, 12, 14, 15, 13, 16], [], [2, 0, 1, 3, 4, 5, 6, 7, 8, 9, 10, 11, 12], [0, 1, 2, 3, 4, 5, 6, 7, 8, 9, 10, 11, 12], [], [0, 1, 2, 3, 4, 9, 5, 6, 7, 8, 10, 11, 12, 13, 14], [0, 1, 2, 3, 4, 5, 6, 7, 8, 9, 10, 11, 12, 13, 14], []], Try.func57, by kernel_rfl, by kernel_rfl, by kernel_rfl⟩
theorem ok68 : FnOk Try.prog c F (68, 58, r68) := ⟨Try.f58, [], [], Try.func58, by kernel_rfl, by kernel_rfl, by kernel_rfl⟩
theorem ok179 : FnOk Try.prog c F (179, 59, r179) := ⟨Try.f59, [], [], Try.func59, by kernel_rfl, by kernel_rfl, by kernel_rfl⟩
theorem ok181 : FnOk Try.prog c F (181, 60, r181) := ⟨Try.f60, [], [], Try.func60, by kernel_rfl, by kernel_rfl, by kernel_rfl⟩
theorem ok71 : FnOk Try.prog c F (71, 61, r71) := ⟨Try.f61, [], [], Try.func61, by kernel_rfl, by kernel_rfl, by kernel_rfl⟩
theorem ok94 : FnOk Try.prog c F (94, 62, r94) := ⟨Try.f62, [], [], Try.func62, by kernel_rfl, by kernel_rfl, by kernel_rfl⟩
theorem ok118 : FnOk Try.prog c F (118, 63, r118) := ⟨Try.f63, [], [], Try.func63, by kernel_rfl, by kernel_rfl, by kernel_rfl⟩
theorem ok102 : FnOk Try.prog c F (102, 118, r102) := ⟨Try.f118, [], [], Try.func118, by kernel_rfl, by kernel_rfl, by kernel_rfl⟩
theorem ok5 : FnOk Try.prog c F (5, 94, r5) := ⟨Try.f94, [], [], Try.func94, by kernel_rfl, by kernel_rfl, by kernel_rfl⟩
theorem ok115 : FnOk Try.prog c F (115, 119, r115) := ⟨Try.f119, [], [[1, 2, 3, 4], [4, 0, 1, 2, 3, 5, 6, 7, 8, 9, 10], [0, 1, 2, 3, 4, 5, 6, 7, 8, 9, 10], []], Try.func119, by kernel_rfl, by kernel_rfl, by kernel_rfl⟩
theorem ok103 : FnOk Try.prog c F (103, 120, r103) := ⟨Try.f120, [], [[0, 1, 2, 3, 4, 5, 6, 7, 10, 8, 9, 11, 12, 13, 14, 15, 16, 17, 18], [0, 1, 2, 3, 4, 5, 6, 7, 8, 9, 10, 11, 12, 13, 14, 15, 16, 17, 18], []], Try.func120, by kernel_rfl, by kernel_rfl, by kernel_rfl⟩
theorem ok104 : FnOk Try.prog c F (104, 121, r104) := ⟨Try.f121, [], [[0, 1, 5]], Try.func121, by kernel_rfl, by kernel_rfl, by kernel_rfl⟩
theorem ok121 : FnOk Try.prog c F (121, 122, r121) := ⟨Try.f122, [], [[0, 1, 5]], Try.func122, by kernel_rfl, by kernel_rfl, by kernel_rfl⟩
theorem ok221 : FnOk Try.prog c F (221, 123, r221) := ⟨Try.f123, [], [[0, 1, 2, 8, 9, 10], [0, 1, 2, 3, 6, 7, 8, 9, 10, 4, 5, 11, 12, 13, 14, 15, 16], [0, 1, 2, 3, 4, 5, 6, 7, 8, 9, 10, 11, 12, 13, 14, 15, 16], []], Try.func123, by kernel_rfl, by kernel_rfl, by kernel_rfl⟩
theorem ok222 : FnOk Try.prog c F (222, 124, r222) := ⟨Try.f124, [], [[0, 1, 2, 3, 4, 5, 6, 7, 8, 9, 10, 11, 12, 13, 14, 17, 18, 19, 20, 15, 16, 21, 22, 23, 24], [0, 1, 2, 3, 4, 5, 6, 7, 8, 9, 10, 11, 12, 13, 14, 15, 16, 17, 18, 19, 20, 21, 22, 23, 24], [], [0, 1, 6, 7]], Try.func124, by kernel_rfl, by kernel_rfl, by kernel_rfl⟩
theorem ok223 : FnOk Try.prog c F (223, 125, r223) := ⟨Try.f125, [], [[0, 1, 2, 8, 9]], Try.func125, by kernel_rfl, by kernel_rfl, by kernel_rfl⟩
theorem ok105 : FnOk Try.prog c F (105, 126, r105) := ⟨Try.f126, [], [[0, 3, 4]], Try.func126, by kernel_rfl, by kernel_rfl, by kernel_rfl⟩
theorem ok224 : FnOk Try.prog c F (224, 127, r224) := ⟨Try.f127, [2], [[0, 1, 2, 3, 4, 5, 7, 8, 6, 9, 10, 11], [0, 1, 2, 3, 4, 5, 6, 7, 8, 9, 10, 11], []], Try.func127, by kernel_rfl, by kernel_rfl, by kernel_rfl⟩
theorem ok108 : FnOk Try.prog c F (108, 128, r108) := ⟨Try.f128, [], [[0, 1, 5], [0, 1, 2, 4, 5, 6, 3, 7, 8, 9], [0, 1, 2, 3, 4, 5, 6, 7, 8, 9], []], Try.func128, by kernel_rfl, by kernel_rfl, by kernel_rfl⟩
theorem ok117 : FnOk Try.prog c F (117, 129, r117) := ⟨Try.f129, [], [[0, 1, 5]], Try.func129, by kernel_rfl, by kernel_rfl, by kernel_rfl⟩
theorem ok135 : FnOk Try.prog c F (135, 130, r135) := ⟨Try.f130, [], [[0, 1, 5]], Try.func130, by kernel_rfl, by kernel_rfl, by kernel_rfl⟩
theorem ok120 : FnOk Try.prog c F (120, 174, r120) := ⟨Try.f174, [], [[0, 3], [0, 1, 2, 3, 4, 5, 6, 7, 8, 9, 10, 11, 12, 13, 14, 15, 16, 17, 18, 19, 20, 21, 22, 25, 26, 27, 28, 23, 24, 29, 30, 31, 32, 33, 34, 35], [0, 1, 2, 3, 4, 5, 6, 7, 8, 9, 10, 11, 12, 13, 14, 15, 16, 17, 18, 19, 20, 21, 22, 23, 24, 25, 26, 27, 28, 29, 30, 31, 32, 33, 34, 35], []], Try.func174, by kernel_rfl, by kernel_rfl, by kernel_rfl⟩
theorem ok122 : FnOk Try.prog c F (122, 175, r122) := ⟨Try.f175, [], [], Try.func175, by kernel_rfl, by kernel_rfl, by kernel_rfl⟩
theorem ok123 : FnOk Try.prog c F (123, 176, r123) := ⟨Try.f176, [], [], Try.func176, by kernel_rfl, by kernel_rfl, by kernel_rfl⟩
theorem ok107 : FnOk Try.prog c F (107, 115, r107) := ⟨Try.f115, [3], [], Try.func115, by kernel_rfl, by kernel_rfl, by kernel_rfl⟩
theorem ok106 : FnOk Try.prog c F (106, 116, r106) := ⟨Try.f116, [], [[9, 0, 1, 2, 3, 4, 5, 6, 7, 8, 10], [0, 1, 2, 3, 4, 5, 6, 7, 8, 9, 10], []], Try.func116, by kernel_rfl, by kernel_rfl, by kernel_rfl⟩
theorem ok116 : FnOk Try.prog c F (116, 117, r116) := ⟨Try.f117, [], [], Try.func117, by kernel_rfl, by kernel_rfl, by kernel_rfl⟩
theorem ok7 : FnOk Try.prog c F (7, 156, r7) := ⟨Try.f156, [], [], Try.func156, by kernel_rfl, by kernel_rfl, by kernel_rfl⟩
theorem ok254 : FnOk Try.prog c F (254, 177, r254) := ⟨Try.f177, [], [], Try.func177, by kernel_rfl, by kernel_rfl, by kernel_rfl⟩
theorem ok255 : FnOk Try.prog c F (255, 178, r255) := ⟨Try.f178, [], [], Try.func178, by kernel_rfl, by kernel_rfl, by kernel_rfl⟩
theorem ok256 : FnOk Try.prog c F (256, 179, r256) := ⟨Try.f179, [], [[0, 1, 2, 3, 4, 5, 6, 7, 8, 9, 10, 11, 12, 13, 14, 15, 16, 17, 20, 21, 22, 23, 18, 19, 24, 25, 26, 27], [0, 1, 2, 3, 4, 5, 6, 7, 8, 9, 10, 11, 12, 13, 14, 15, 16, 17, 18, 19, 20, 21, 22, 23, 24, 25, 26, 27], []], Try.func179, by kernel_rfl, by kernel_rfl, by kernel_rfl⟩
theorem ok127 : FnOk Try.prog c F (127, 180, r127) := ⟨Try.f180, [], [], Try.func180, by kernel_rfl, by kernel_rfl, by kernel_rfl⟩
theorem ok126 : FnOk Try.prog c F (126, 171, r126) := ⟨Try.f171, [], [[0, 1, 7, 8]], Try.func171, by kernel_rfl, by kernel_rfl, by kernel_rfl⟩
theorem ok125 : FnOk Try.prog c F (125, 172, r125) := ⟨Try.f172, [], [], Try.func172, by kernel_rfl, by kernel_rfl, by kernel_rfl⟩
theorem ok124 : FnOk Try.prog c F (124, 173, r124) := ⟨Try.f173, [], [[0, 30, 31, 32], [0, 1, 2, 3, 4, 5, 6, 7, 8, 9, 10, 11, 12, 13, 14, 15, 16, 17, 18, 22, 23, 24, 25, 19, 20, 21, 26, 27, 28, 29, 30, 31], [0, 1, 2, 3, 4, 5, 6, 7, 8, 9, 10, 11, 12, 13, 14, 15, 16, 17, 18, 19, 20, 21, 22, 23, 24, 25, 26, 27, 28, 29, 30, 31], []], Try.func173, by kernel_rfl, by kernel_rfl, by kernel_rfl⟩
theorem okT : (c.T.all fun x => x.2.okB Try.prog (mkCfgZ Try.prog tab ptab tags).ET (mkCfgZ Try.prog tab ptab tags).SZ x.1) = true := by kernel_rfl
theorem okF : (c.F.all fun x => decide ((mkCfgZ Try.prog tab ptab tags).G x.2 = some x.1)) = true := by kernel_rfl
theorem okTab : AllT (FnOk Try.prog c F) tab := ⟨ok178, ok67, ok180, ok68, ok179, ok181, ok71, ok94, ok118, ok102, ok5, ok115, ok103, ok104, ok121, ok221, ok222, ok223, ok105, ok224, ok108, ok117, ok135, ok120, ok122, ok123, ok107, ok106, ok116, ok7, ok254, ok255, ok256, ok127, ok126, ok125, ok124, trivial⟩
theorem okP : AllT (PFn Try.prog F) ptab := ⟨⟨⟨Try.f202, Try.func202, by kernel_rfl, by kernel_rfl⟩, rfl, step_ins _ _⟩, ⟨⟨Try.f203, Try.func203, by kernel_rfl, by kernel_rfl⟩, rfl, step_del _⟩, trivial⟩
theorem prog (O : Nat) : ProgOk ((mkCfgZ Try.prog tab ptab tags).at O) c F (primZ ptab) :=
  mkProgZ okT okF okTab okP ⟨⟩ trivial O ⟨ins_ok (ρ := renI 202 211 212 3 4 175 46) (k := 3) rfl rfl p269, del_ok (ρ := renD 203 3 4 175 46) (k := 3) rfl rfl p270, trivial⟩
theorem pr269 : PrimAt F (primZ ptab) 269 (insF 7 24) := primAt (ptab := ptab) (n := 269) (x := (202, (insF 7 24))) rfl rfl
theorem pr270 : PrimAt F (primZ ptab) 270 (delF 7) := primAt (ptab := ptab) (n := 270) (x := (203, (delF 7))) rfl rfl
theorem inI11 : AllT (fun x => F x.1 = some x.2) tI11 := ⟨rfl, rfl, rfl, rfl, rfl, rfl, trivial⟩
theorem inI12 : AllT (fun x => F x.1 = some x.2) tI12 := ⟨rfl, rfl, rfl, rfl, rfl, rfl, rfl, rfl, rfl, trivial⟩
theorem inLChart : AllT (fun x => F x.1 = some x.2) tLChart := ⟨rfl, rfl, rfl, rfl, rfl, rfl, trivial⟩
theorem inLMapCmd : AllT (fun x => F x.1 = some x.2) tLMapCmd := ⟨rfl, rfl, rfl, rfl, rfl, rfl, trivial⟩
theorem inLRange : AllT (fun x => F x.1 = some x.2) tLRange := ⟨rfl, rfl, rfl, rfl, rfl, rfl, rfl, rfl, trivial⟩
theorem inLibslicesIndexFuncimplRangeimplRange : AllT (fun x => F x.1 = some x.2) tLibslicesIndexFuncimplRangeimplRange := ⟨rfl, trivial⟩
theorem inS01d : AllT (fun x => F x.1 = some x.2) tS01d := ⟨rfl, rfl, rfl, rfl, rfl, rfl, rfl, rfl, rfl, trivial⟩
theorem inS11 : AllT (fun x => F x.1 = some x.2) tS11 := ⟨rfl, rfl, rfl, rfl, rfl, rfl, rfl, trivial⟩
theorem inS12 : AllT (fun x => F x.1 = some x.2) tS12 := ⟨rfl, rfl, rfl, rfl, rfl, rfl, rfl, rfl, rfl, rfl, rfl, rfl, trivial⟩
theorem inWDoMap : AllT (fun x => F x.1 = some x.2) tWDoMap := ⟨rfl, trivial⟩
end Go.Proofs.Ytlbagejkjkfkjaa.A.ExactDoMap
/- DoMap: the law's function, run on any arguments, answers true. -/
namespace Go.Proofs.Ytlbagejkjkfkjaa.A
open Go
set_option linter.unusedSimpArgs false
set_option linter.unusedVariables false
set_option maxHeartbeats 2000000 in
theorem law_ExactDoMap {F : Nat → Option RF} {Z : CallF} (hI11 : Has F tI11) (hI12 : Has F tI12) (hLChart : Has F tLChart) (hLMapCmd : Has F tLMapCmd) (hLRange : Has F tLRange) (hLibslicesIndexFuncimplRangeimplRange : Has F tLibslicesIndexFuncimplRangeimplRange) (hS01d : Has F tS01d) (hS11 : Has F tS11) (hS12 : Has F tS12) (hWDoMap : Has F tWDoMap) (pr269 : PrimAt F Z 269 (insF 7 24)) (pr270 : PrimAt F Z 270 (delF 7)) (h : Heap) (avs : List V) (hfl : h.floor = h.next) (w : ArgsWf h 8 [shChart, shMapCmd] avs) : ∃ h', call F Z 178 avs h = some (.c (.bool true), h') := by
  obtain ⟨cc, _, rfl, cw, w1⟩ := ArgsWf.struct w
  obtain ⟨c, cp, cv, cok⟩ := Wf.isChart cw
  obtain ⟨cl1, cl2, cl3⟩ := Chart.lenL cv
  obtain ⟨qc, _, rfl, qw, w2⟩ := ArgsWf.struct w1
  obtain ⟨q, rfl, qok⟩ := Wf.isMapCmd qw
  obtain rfl := w2.nil
  have f0 : h.floor ≤ h.next := by omega
  rw [call_run F Z (hWDoMap.lk (g := 178) rfl) _ _ rfl]
  obtain ⟨l0, s0, s0l, s0k⟩ := szChart_c hLChart hLRange (Z := Z) cv 1048576 (by omega) (by omega)
  simp only [run0, run1, run2, run3, run4, noSlot, ownS, ownK, memN, RO.dst, lk, drop, forget, number, Nat.reduceBEq, cut?, splice?, builds, List.length_cons, List.length_nil, List.drop_succ_cons, List.drop_zero, List.take_succ_cons, List.take_zero, List.cons_append, List.nil_append, List.append_nil, List.drop_nil, List.take_nil, Nat.reduceAdd, Nat.reduceLeDiff, Nat.zero_add, Nat.add_zero, ↓reduceIte, Bool.not_true, Bool.not_false, decide_true, decide_false, eq_self, bne_self_eq_false, List.getElem?_cons_zero, List.getElem?_cons_succ, decide_eq_true_eq, Bool.false_eq_true, Bool.true_eq_false, reduceCtorEq, Nat.le_refl, s0, MapCmd.len, MapCmd.tak, toMapCmd_run hLMapCmd, cl1, cl2, cl3]
  by_cases hn0 : l0 < 0
  · simp only [run0, run1, run2, run3, run4, noSlot, ownS, ownK, memN, RO.dst, lk, drop, forget, number, Nat.reduceBEq, cut?, splice?, builds, List.length_cons, List.length_nil, List.drop_succ_cons, List.drop_zero, List.take_succ_cons, List.take_zero, List.cons_append, List.nil_append, List.append_nil, List.drop_nil, List.take_nil, Nat.reduceAdd, Nat.reduceLeDiff, Nat.zero_add, Nat.add_zero, ↓reduceIte, Bool.not_true, Bool.not_false, decide_true, decide_false, eq_self, bne_self_eq_false, List.getElem?_cons_zero, List.getElem?_cons_succ, decide_eq_true_eq, Bool.false_eq_true, Bool.true_eq_false, reduceCtorEq, Nat.le_refl, hn0]
    exact ⟨_, rfl⟩
  have sm0 := s0k (by omega)
  have flr : h.floor = h.next := hfl
  have Tcv := Chart.okL.lt cv
  obtain ⟨y1, hq1, p1, e1, oq1, vq1, qq1⟩ := toChart_c hLChart hLRange (Z := Z) (h := ⟨h.next, h.next, h.get⟩) (Nat.le_refl _) (Chart.okL.up cv _) sm0
  obtain ⟨h1, mq1⟩ : ∃ g, Heap.mk hq1.next h.floor hq1.get = g := ⟨_, rfl⟩
  have o1 : On h h1 := by rw [← mq1]; exact ⟨⟨oq1.ext.1, oq1.ext.2⟩, rfl⟩
  have v1 := Chart.okI.up vq1 h.floor
  rw [mq1] at v1
  have q1 : Fre h p1 := ⟨qq1.lo, qq1.nd⟩
  replace cv := Chart.okL.on cv o1
  have n1 := o1.ext.1
  have g1 := o1.fl
  have f1 := o1.le f0
  obtain ⟨vl1, vt1, vd1⟩ := Chart.lenI v1
  obtain ⟨r2_0, hq2, p2_0, e2, oq2, vq2_0, qq2_0⟩ := sDoMap_c hS01d hS11 hS12 (Z := Z) (h := ⟨h1.next, h1.next, h1.get⟩) (Nat.le_refl _) (Chart.okI.up v1 _) q qok cok sm0
  obtain ⟨h2, mq2⟩ : ∃ g, Heap.mk hq2.next h1.floor hq2.get = g := ⟨_, rfl⟩
  have o2 : On h1 h2 := by rw [← mq2]; exact ⟨⟨oq2.ext.1, oq2.ext.2⟩, rfl⟩
  have v2_0 := Chart.okI.up vq2_0 h1.floor
  rw [mq2] at v2_0
  have q2_0 : Fre h1 p2_0 := ⟨qq2_0.lo, qq2_0.nd⟩
  replace cv := Chart.okL.on cv o2
  replace v1 := Chart.okI.on v1 o2
  have n2 := o2.ext.1
  have g2 := o2.fl
  have f2 := o2.le f1
  have Tv2_0 := Chart.okI.lt v2_0
  obtain ⟨vl2_0, vt2_0, vd2_0⟩ := Chart.lenI v2_0
  obtain ⟨y3, h3, p3, e3, o3, v3, q3⟩ := toChart_c hLChart hLRange (Z := Z) f2 cv sm0
  replace cv := Chart.okL.on cv o3
  replace v1 := Chart.okI.on v1 o3
  replace v2_0 := Chart.okI.on v2_0 o3
  have n3 := o3.ext.1
  have g3 := o3.fl
  have f3 := o3.le f2
  have Tv3 := Chart.okI.lt v3
  obtain ⟨vl3, vt3, vd3⟩ := Chart.lenI v3
  obtain ⟨r4_0, hq4, p4_0, e4, oq4, vq4_0, qq4_0⟩ := DoMap_c hI11 hI12 hLibslicesIndexFuncimplRangeimplRange pr269 pr270 (Z := Z) (h := ⟨h3.next, h3.next, h3.get⟩) (Nat.le_refl _) (Chart.okI.up v3 _) q qok cok sm0
  obtain ⟨h4, mq4⟩ : ∃ g, Heap.mk hq4.next h3.floor hq4.get = g := ⟨_, rfl⟩
  have o4 : On h3 h4 := by rw [← mq4]; exact ⟨⟨oq4.ext.1, oq4.ext.2⟩, rfl⟩
  have v4_0 := Chart.okI.up vq4_0 h3.floor
  rw [mq4] at v4_0
  have q4_0 : Fre h3 p4_0 := ⟨qq4_0.lo, qq4_0.nd⟩
  replace cv := Chart.okL.on cv o4
  replace v1 := Chart.okI.on v1 o4
  replace v2_0 := Chart.okI.on v2_0 o4
  replace v3 := Chart.okI.on v3 o4
  have n4 := o4.ext.1
  have g4 := o4.fl
  have f4 := o4.le f3
  obtain ⟨vl4_0, vt4_0, vd4_0⟩ := Chart.lenI v4_0
  have c1 := eqChart_r hLChart hLRange (Z := Z) v4_0 v2_0
  obtain ⟨y5, hq5, p5, e5, oq5, vq5, qq5⟩ := toChart_c hLChart hLRange (Z := Z) (h := ⟨h4.next, h4.next, h4.get⟩) (Nat.le_refl _) (Chart.okL.up cv _) sm0
  obtain ⟨h5, mq5⟩ : ∃ g, Heap.mk hq5.next h4.floor hq5.get = g := ⟨_, rfl⟩
  have o5 : On h4 h5 := by rw [← mq5]; exact ⟨⟨oq5.ext.1, oq5.ext.2⟩, rfl⟩
  have v5 := Chart.okI.up vq5 h4.floor
  rw [mq5] at v5
  have q5 : Fre h4 p5 := ⟨qq5.lo, qq5.nd⟩
  replace cv := Chart.okL.on cv o5
  replace v1 := Chart.okI.on v1 o5
  replace v2_0 := Chart.okI.on v2_0 o5
  replace v3 := Chart.okI.on v3 o5
  replace v4_0 := Chart.okI.on v4_0 o5
  have n5 := o5.ext.1
  have g5 := o5.fl
  have f5 := o5.le f4
  obtain ⟨vl5, vt5, vd5⟩ := Chart.lenI v5
  have c2 := eqChart_r hLChart hLRange (Z := Z) (h := ⟨h5.next, h5.next, h5.get⟩) (Chart.okI.up v3 _) (Chart.okI.up v5 _)
  have hb1 := Chart.wt_le sm0
  have hb2 := c.wt_nn
  have hb3 := Chart.wt_le (doMap_small sm0 q)
  have hb4 := (doMap c q).1.wt_nn
  have lo6 : ∀ id, id ∈ p3 → h5.floor ≤ id := fun id hid => by have := q3.lo id hid; omega
  obtain ⟨h6, m6, k6, u6⟩ := markChart_r hLChart hLRange (Z := Z) v3 q3.nd lo6 (1) (by omega) (by omega)
  replace cv := Chart.okL.mk' cv k6 fun id h1 h2 => by have a1 := q3.lo id h2; have a2 := Tcv id h1; omega
  replace v2_0 := Chart.okI.mk' v2_0 k6 fun id h1 h2 => by have a1 := q3.lo id h2; have a2 := Tv2_0 id h1; omega
  replace v4_0 := Chart.okI.mk' v4_0 k6 fun id h1 h2 => by have a1 := q3.lo id h2; have a2 := Tv3 id h2; have a3 := q4_0.lo id h1; omega
  have n6 := k6.next
  have g6 := k6.fl
  have f6 : h6.floor ≤ h6.next := by omega
  replace v3 := u6
  have hk6 : ¬ (1 + c.wt : Int) < 0 := by omega
  have c3 := eqChart_r hLChart hLRange (Z := Z) v4_0 v2_0
  have lo7 : ∀ id, id ∈ p4_0 → h6.floor ≤ id := fun id hid => by have := q4_0.lo id hid; omega
  obtain ⟨h7, m7, k7, u7⟩ := markChart_r hLChart hLRange (Z := Z) v4_0 q4_0.nd lo7 (1) (by omega) (by omega)
  replace cv := Chart.okL.mk' cv k7 fun id h1 h2 => by have a1 := q4_0.lo id h2; have a2 := Tcv id h1; omega
  replace v2_0 := Chart.okI.mk' v2_0 k7 fun id h1 h2 => by have a1 := q4_0.lo id h2; have a2 := Tv2_0 id h1; omega
  have n7 := k7.next
  have g7 := k7.fl
  have f7 : h7.floor ≤ h7.next := by omega
  replace v4_0 := u7
  have hkk : ¬ (1 + ((doMap c q).1).wt : Int) < 0 := by omega
  have d4 := heldChart_r hLChart hLRange (Z := Z) v4_0 (by omega) (by omega)
  have hh5 : ¬ (1 + ((doMap c q).1).wt : Int) < 0 := by omega
  obtain ⟨y8, hq8, p8, e8, oq8, vq8, qq8⟩ := toChart_c hLChart hLRange (Z := Z) (h := ⟨h7.next, h7.next, h7.get⟩) (Nat.le_refl _) (Chart.okL.up cv _) sm0
  obtain ⟨h8, mq8⟩ : ∃ g, Heap.mk hq8.next h7.floor hq8.get = g := ⟨_, rfl⟩
  have o8 : On h7 h8 := by rw [← mq8]; exact ⟨⟨oq8.ext.1, oq8.ext.2⟩, rfl⟩
  have v8 := Chart.okI.up vq8 h7.floor
  rw [mq8] at v8
  have q8 : Fre h7 p8 := ⟨qq8.lo, qq8.nd⟩
  replace cv := Chart.okL.on cv o8
  replace v2_0 := Chart.okI.on v2_0 o8
  replace v4_0 := Chart.okI.on v4_0 o8
  have n8 := o8.ext.1
  have g8 := o8.fl
  have f8 := o8.le f7
  obtain ⟨vl8, vt8, vd8⟩ := Chart.lenI v8
  obtain ⟨r9_0, hq9, p9_0, e9, oq9, vq9_0, qq9_0⟩ := DoMap_c hI11 hI12 hLibslicesIndexFuncimplRangeimplRange pr269 pr270 (Z := Z) (h := ⟨h8.next, h8.next, h8.get⟩) (Nat.le_refl _) (Chart.okI.up v8 _) q qok cok sm0
  obtain ⟨h9, mq9⟩ : ∃ g, Heap.mk hq9.next h8.floor hq9.get = g := ⟨_, rfl⟩
  have o9 : On h8 h9 := by rw [← mq9]; exact ⟨⟨oq9.ext.1, oq9.ext.2⟩, rfl⟩
  have v9_0 := Chart.okI.up vq9_0 h8.floor
  rw [mq9] at v9_0
  have q9_0 : Fre h8 p9_0 := ⟨qq9_0.lo, qq9_0.nd⟩
  replace cv := Chart.okL.on cv o9
  replace v2_0 := Chart.okI.on v2_0 o9
  replace v4_0 := Chart.okI.on v4_0 o9
  replace v8 := Chart.okI.on v8 o9
  have n9 := o9.ext.1
  have g9 := o9.fl
  have f9 := o9.le f8
  obtain ⟨vl9_0, vt9_0, vd9_0⟩ := Chart.lenI v9_0
  have c6 := eqChart_r hLChart hLRange (Z := Z) v9_0 v2_0
  have d7 := heldChart_r hLChart hLRange (Z := Z) v4_0 (by omega) (by omega)
  have hh8 : ¬ (1 + ((doMap c q).1).wt : Int) < 0 := by omega
  simp only [run0, run1, run2, run3, run4, noSlot, ownS, ownK, memN, RO.dst, lk, drop, forget, number, Nat.reduceBEq, cut?, splice?, builds, List.length_cons, List.length_nil, List.drop_succ_cons, List.drop_zero, List.take_succ_cons, List.take_zero, List.cons_append, List.nil_append, List.append_nil, List.drop_nil, List.take_nil, Nat.reduceAdd, Nat.reduceLeDiff, Nat.zero_add, Nat.add_zero, ↓reduceIte, Bool.not_true, Bool.not_false, decide_true, decide_false, eq_self, bne_self_eq_false, List.getElem?_cons_zero, List.getElem?_cons_succ, decide_eq_true_eq, Bool.false_eq_true, Bool.true_eq_false, reduceCtorEq, Nat.le_refl, hn0, MapCmd.len, MapCmd.tak, toMapCmd_run hLMapCmd, cl1, cl2, cl3, mq1, e1, vl1, vt1, vd1, mq2, e2, vl2_0, vt2_0, vd2_0, e3, vl3, vt3, vd3, mq4, e4, vl4_0, vt4_0, vd4_0, c1, mq5, e5, vl5, vt5, vd5, c2, m6, hk6, c3, m7, hkk, d4, hh5, mq8, e8, vl8, vt8, vd8, mq9, e9, vl9_0, vt9_0, vd9_0, c6, d7, hh8]
  exact ⟨_, rfl⟩
end Go.Proofs.Ytlbagejkjkfkjaa.A
/- FnExactDoMap: the row's statement, from the law of the abstract run. No condition. -/
namespace Go.Proofs.Ytlbagejkjkfkjaa.A.ExactDoMap
open Go Go.ChangeShapes Go.WideShapes Go.ChangeAt Go.RowKit
theorem own : ownKnob Try.prog.godebug = none := by kernel_rfl
set_option maxRecDepth 100000 in
theorem lifted (os : Os) (started : os.Started) (H : Type) (enc : TypeId × Value → H) :
    ReturnsInHanded {} Try.checked os 12 .any (Rows.fnExactDoMapSpec.pre6 enc Try.prog Try.f12 Rows.fnExactDoMapRow.domain false) (Rows.fnExactDoMapSpec.post enc Try.prog Try.f12 false true false false) := by
  refine returnsInHanded_of_change_sized (C := Try.checked) own started (by kernel_rfl) Try.func12
    (ChangeSpec.witness6 (enc := enc) (C := Try.checked) false ⟨#[], #[.agg #[.int .i64 0, .slice none 0 0, .bool false, .int .u64 0, .int .i64 0], .agg #[.int .i64 0, .int .u64 0, .int .i64 0]], []⟩ 8 (by kernel_rfl) (by kernel_rfl) (by kernel_rfl) (by kernel_rfl)) ?_
  intro W base args ds gs before hval hW _ _ _
  have hW' := hW
  obtain ⟨p, q, hA, hV, rfl, hfz, hnd⟩ := hW
  obtain ⟨rfl, rfl⟩ := trodVars_none hV
  have r0 : DataW.TrodAll enc Try.prog W 0 (fun _ => true) true [41, 116] args.toList ds p := hA
  obtain ⟨_, _, d0, _, _, _, _, rfl, _, _, r1⟩ := trodAll_cons r0
  obtain ⟨_, _, d1, _, _, _, _, rfl, _, _, r2⟩ := trodAll_cons r1
  obtain ⟨_, rfl, _⟩ := trodAll_nil r2
  refine (law_calls (ts := [41, 116]) (ss := [shChart, shMapCmd]) prog (show (mkCfgZ Try.prog tab ptab tags).G 178 = some 12 from by kernel_rfl) ⟨show shIs Try.prog (mkCfgZ Try.prog tab ptab tags).ET (mkCfgZ Try.prog tab ptab tags).SZ 8 41 shChart = true from by kernel_rfl, show shIs Try.prog (mkCfgZ Try.prog tab ptab tags).ET (mkCfgZ Try.prog tab ptab tags).SZ 8 116 shMapCmd = true from by kernel_rfl, trivial⟩ (law_ExactDoMap inI11 inI12 inLChart inLMapCmd inLRange inLibslicesIndexFuncimplRangeimplRange inS01d inS11 inS12 inWDoMap pr269 pr270) (fun j t v h1 => hval j t v (by rw [Try.params12]; exact (List.getElem?_toArray ..).trans h1)) hA).mono fun e W' ⟨he, bel⟩ => ?_
  subst he
  exact ⟨_, rfl, _, _, _, [], _, [], hW', trodAll_mk1 (shut_bool Try.underlying4 _), trodAll_below (by kernel_rfl) bel _ _ _ _ (by kernel_rfl) hA hA.lt, rfl, bel.frame _, fun h => by cases h⟩
theorem over : Rows.fnExactDoMapRow.holds Try.pinned (OpenSpec.ofChange Rows.fnExactDoMapSpec) :=
  OpenClaim.holds_of_wide 12 Try.f12 rfl rfl rfl rfl rfl rfl rfl ⟨rfl, rfl, rfl, rfl, rfl⟩ rfl rfl rfl rfl rfl (by kernel_rfl) Try.func12 (by kernel_rfl)
    (of_decide_eq_true (by kernel_rfl)) (by unfold Func.isWrapper; first | (rw [if_pos (by decide +kernel)]; kernel_rfl) | (rw [if_neg (by decide +kernel)]; exact ⟨rfl, rfl⟩))
    (fun os started H enc _ => lifted os started H enc)
end Go.Proofs.Ytlbagejkjkfkjaa.A.ExactDoMap
namespace Go.Proofs.Ytlbagejkjkfkjaa
/-- The row. -/
theorem fnExactDoMap_holds : Rows.FnExactDoMapSaid := A.ExactDoMap.over
#print axioms fnExactDoMap_holds
end Go.Proofs.Ytlbagejkjkfkjaa
