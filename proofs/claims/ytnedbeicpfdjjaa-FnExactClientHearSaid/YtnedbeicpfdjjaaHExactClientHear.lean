/- FnExactClientHear: the statement, from the law of the abstract run. No condition. -/
import Derived.Test.YtnedbeicpfdjjaaHCExactClientHear2
import Derived.Test.YtnedbeicpfdjjaaB6
import Derived.Test.YtnedbeicpfdjjaaProg
import Derived.Test.YtnedbeicpfdjjaaRows
import Derived.ProofKit
import Derived.OpenShut
import Derived.ShutString
import Derived.ChangeOld
import Derived.Below
import Derived.SizedLaws
/- The functions that FnExactClientHear reaches: the program's code against the compact code, entry by entry. -/
namespace Go.Proofs.Ytnedbeicpfdjjaa.A.ExactClientHear
open Go
def c : CC where
  T := [(3, ⟨1, 8, false, some [.int .i64 0], (.int .i64)⟩),
    (4, ⟨1, 1, false, some [.bool false], .bool⟩),
    (22, ⟨1, 24, false, some [.nil], (.slice 173 8)⟩),
    (23, ⟨1, 8, false, some [.int .u64 0], (.int .u64)⟩),
    (25, ⟨5, 56, true, some [.int .i64 0, .nil, .bool false, .int .u64 0, .int .i64 0], (.struct [(0, 1, false), (1, 1, false), (2, 1, false), (3, 1, false), (4, 1, false)])⟩),
    (27, ⟨5, 40, true, some [.int .i64 0, .int .i64 0, .int .u64 0, .int .u64 0, .int .i64 0], (.struct [(0, 1, false), (1, 1, false), (2, 1, false), (3, 1, false), (4, 1, false)])⟩),
    (29, ⟨14, 128, true, some [.int .i64 0, .int .i64 0, .int .i64 0, .nil, .bool false, .int .u64 0, .int .i64 0, .bool false, .int .i64 0, .int .i64 0, .int .i64 0, .int .u64 0, .int .u64 0, .int .i64 0], (.struct [(0, 1, false), (1, 1, false), (2, 5, true), (7, 1, false), (8, 1, false), (9, 5, true)])⟩),
    (31, ⟨9, 88, true, some [.int .i64 0, .int .i64 0, .int .i64 0, .int .u64 0, .int .i64 0, .nil, .bool false, .int .u64 0, .int .i64 0], (.struct [(0, 1, false), (1, 1, false), (2, 1, false), (3, 1, false), (4, 5, true)])⟩),
    (34, ⟨1, 24, false, some [.nil], (.slice 165 7)⟩),
    (36, ⟨5, 56, true, some [.int .i64 0, .nil, .bool false, .int .u64 0, .int .i64 0], (.struct [(0, 1, false), (1, 1, false), (2, 1, false), (3, 1, false), (4, 1, false)])⟩),
    (37, ⟨5, 40, true, some [.int .i64 0, .int .i64 0, .int .u64 0, .int .u64 0, .int .i64 0], (.struct [(0, 1, false), (1, 1, false), (2, 1, false), (3, 1, false), (4, 1, false)])⟩),
    (39, ⟨14, 128, true, some [.int .i64 0, .int .i64 0, .int .i64 0, .nil, .bool false, .int .u64 0, .int .i64 0, .bool false, .int .i64 0, .int .i64 0, .int .i64 0, .int .u64 0, .int .u64 0, .int .i64 0], (.struct [(0, 1, false), (1, 1, false), (2, 5, true), (7, 1, false), (8, 1, false), (9, 5, true)])⟩),
    (44, ⟨9, 88, true, some [.int .i64 0, .int .i64 0, .int .i64 0, .int .u64 0, .int .i64 0, .nil, .bool false, .int .u64 0, .int .i64 0], (.struct [(0, 1, false), (1, 1, false), (2, 1, false), (3, 1, false), (4, 5, true)])⟩),
    (165, ⟨3, 24, true, some [.int .u64 0, .int .u64 0, .int .i64 0], (.struct [(0, 1, false), (1, 1, false), (2, 1, false)])⟩),
    (173, ⟨3, 24, true, some [.int .u64 0, .int .u64 0, .int .i64 0], (.struct [(0, 1, false), (1, 1, false), (2, 1, false)])⟩)]
  F := [(3, 349), (8, 76), (9, 350), (10, 253), (11, 77), (12, 351), (13, 176), (14, 80), (15, 352), (16, 95), (17, 353), (18, 96), (19, 67), (22, 68), (25, 71), (28, 94), (31, 118), (50, 197), (51, 78), (52, 103), (53, 115), (54, 5), (55, 198), (56, 109), (57, 199), (58, 110), (59, 106), (60, 116), (61, 200), (62, 99), (63, 102), (65, 105), (68, 108), (70, 117), (71, 135), (109, 120), (110, 121), (111, 124), (112, 107), (113, 7), (118, 123), (122, 127), (160, 126), (161, 125)]
  eqT := [(37, [.i .i64, .i .i64, .i .u64, .i .u64, .i .i64])]
  adds := []
def F : Nat → Option RF := lk (tI11 ++ tI12 ++ tI16 ++ tLChart ++ tLClient ++ tLRange ++ tLReply ++ tLRequest ++ tLibslicesIndexFuncimplRangeimplRange ++ tS01d ++ tS11 ++ tS12 ++ tS16 ++ tWClientHear)
def tab : List (Nat × FuncId × RF) := [(349, 3, r349), (76, 8, r76), (350, 9, r350), (253, 10, r253), (77, 11, r77), (351, 12, r351), (176, 13, r176), (80, 14, r80), (352, 15, r352), (95, 16, r95), (353, 17, r353), (96, 18, r96), (67, 19, r67), (197, 50, r197), (78, 51, r78), (103, 52, r103), (115, 53, r115), (5, 54, r5), (198, 55, r198), (68, 22, r68), (109, 56, r109), (199, 57, r199), (110, 58, r110), (106, 59, r106), (116, 60, r116), (200, 61, r200), (71, 25, r71), (99, 62, r99), (94, 28, r94), (118, 31, r118), (102, 63, r102), (120, 109, r120), (121, 110, r121), (105, 65, r105), (124, 111, r124), (107, 112, r107), (7, 113, r7), (108, 68, r108), (117, 70, r117), (135, 71, r135), (123, 118, r123), (126, 160, r126), (125, 161, r125), (127, 122, r127)]
def tags : List (Nat × TypeId × Nat) := [(7, 165, 3), (8, 173, 3)]
theorem ok349 : FnOk Try.prog c F (349, 3, r349) := ⟨Try.f3, [], [[8, 0, 2, 1, 3, 4, 5, 6, 7, 9, 10], [0, 1, 2, 3, 4, 5, 6, 8, 9, 7, 10], [0, 1, 2, 3, 4], [0, 1, 2, 3, 4], [0, 1, 2, 3, 4], [0, 1, 2, 3, 4], [8, 0, 2, 1, 3, 4, 5, 6, 7, 9, 10], [0, 1, 2, 3, 4, 5, 6, 8, 9, 7, 10]], Try.func3, by kernel_rfl, by kernel_rfl, by kernel_rfl⟩
theorem ok76 : FnOk Try.prog c F (76, 8, r76) := ⟨Try.f8, [], [], Try.func8, by kernel_rfl, by kernel_rfl, by kernel_rfl⟩
theorem ok350 : FnOk Try.prog c F (350, 9, r350) := ⟨Try.f9, [], [], Try.func9, by kernel_rfl, by kernel_rfl, by kernel_rfl⟩
theorem ok253 : FnOk Try.prog c F (253, 10, r253) := ⟨Try.f10, [], [[0, 2, 3, 1, 4, 5], [0, 1, 4, 2, 3, 5]], Try.func10, by kernel_rfl, by kernel_rfl, by kernel_rfl⟩
theorem ok77 : FnOk Try.prog c F (77, 11, r77) := ⟨Try.f11, [], [], Try.func11, by kernel_rfl, by kernel_rfl, by kernel_rfl⟩
theorem ok351 : FnOk Try.prog c F (351, 12, r351) := ⟨Try.f12, [], [], Try.func12, by kernel_rfl, by kernel_rfl, by kernel_rfl⟩
theorem ok176 : FnOk Try.prog c F (176, 13, r176) := ⟨Try.f13, [6], [[0, 1, 2, 3, 4], [0, 3, 1, 2, 4]], Try.func13, by kernel_rfl, by kernel_rfl, by kernel_rfl⟩
theorem ok80 : FnOk Try.prog c F (80, 14, r80) := ⟨Try.f14, [], [], Try.func14, by kernel_rfl, by kernel_rfl, by kernel_rfl⟩
theorem ok352 : FnOk Try.prog c F (352, 15, r352) := ⟨Try.f15, [], [], Try.func15, by kernel_rfl, by kernel_rfl, by kernel_rfl⟩
theorem ok95 : FnOk Try.prog c F (95, 16, r95) := ⟨Try.f16, [], [], Try.func16, by kernel_rfl, by kernel_rfl, by kernel_rfl⟩
theorem ok353 : FnOk Try.prog c F (353, 17, r353) := ⟨Try.f17, [], [], Try.func17, by kernel_rfl, by kernel_rfl, by kernel_rfl⟩
theorem ok96 : FnOk Try.prog c F (96, 18, r96) := ⟨Try.f18, [], [], Try.func18, by kernel_rfl, by kernel_rfl, by kernel_rfl⟩
theorem ok67 : FnOk Try.prog c F (67, 19, r67) := ⟨Try.f19, [], [], Try.func19, by kernel_rfl, by kernel_rfl, by kernel_rfl⟩
theorem ok197 : FnOk Try.prog c F (197, 50, r197) := ⟨Try.f50, [], [], Try.func50, by kernel_rfl, by kernel_rfl, by kernel_rfl⟩
theorem ok78 : FnOk Try.prog c F (78, 51, r78) := ⟨Try.f51, [], [], Try.func51, by kernel_rfl, by kernel_rfl, by kernel_rfl⟩
theorem ok103 : FnOk Try.prog c F (103, 52, r103) := ⟨Try.f52, [], [[0, 1, 2, 3, 4, 5, 6, 7, 10, 8, 9, 11, 12, 13, 14, 15, 16, 17, 18], [0, 1, 2, 3, 4, 5, 6, 7, 8, 9, 10, 11, 12, 13, 14, 15, 16, 17, 18]], Try.func52, by kernel_rfl, by kernel_rfl, by kernel_rfl⟩
theorem ok115 : FnOk Try.prog c F (115, 53, r115) := ⟨Try.f53, [], [[1, 2, 3, 4], [4, 0, 1, 2, 3, 5, 6, 7, 8, 9, 10], [0, 1, 2, 3, 4, 5, 6, 7, 8, 9, 10]], Try.func53, by kernel_rfl, by kernel_rfl, by kernel_rfl⟩
theorem ok5 : FnOk Try.prog c F (5, 54, r5) := ⟨Try.f54, [], [], Try.func54, by kernel_rfl, by kernel_rfl, by kernel_rfl⟩
theorem ok198 : FnOk Try.prog c F (198, 55, r198) := ⟨Try.f55, [], [], Try.func55, by kernel_rfl, by kernel_rfl, by kernel_rfl⟩
theorem ok68 : FnOk Try.prog c F (68, 22, r68) := ⟨Try.f22, [], [], Try.func22, by kernel_rfl, by kernel_rfl, by kernel_rfl⟩
theorem ok109 : FnOk Try.prog c F (109, 56, r109) := ⟨Try.f56, [], [], Try.func56, by kernel_rfl, by kernel_rfl, by kernel_rfl⟩
theorem ok199 : FnOk Try.prog c F (199, 57, r199) := ⟨Try.f57, [], [], Try.func57, by kernel_rfl, by kernel_rfl, by kernel_rfl⟩
theorem ok110 : FnOk Try.prog c F (110, 58, r110) := ⟨Try.f58, [], [], Try.func58, by kernel_rfl, by kernel_rfl, by kernel_rfl⟩
theorem ok106 : FnOk Try.prog c F (106, 59, r106) := ⟨Try.f59, [], [[9, 0, 1, 2, 3, 4, 5, 6, 7, 8, 10], [0, 1, 2, 3, 4, 5, 6, 7, 8, 9, 10]], Try.func59, by kernel_rfl, by kernel_rfl, by kernel_rfl⟩
theorem ok116 : FnOk Try.prog c F (116, 60, r116) := ⟨Try.f60, [], [], Try.func60, by kernel_rfl, by kernel_rfl, by kernel_rfl⟩
theorem ok200 : FnOk Try.prog c F (200, 61, r200) := ⟨Try.f61, [], [], Try.func61, by kernel_rfl, by kernel_rfl, by kernel_rfl⟩
theorem ok71 : FnOk Try.prog c F (71, 25, r71) := ⟨Try.f25, [], [], Try.func25, by kernel_rfl, by kernel_rfl, by kernel_rfl⟩
theorem ok99 : FnOk Try.prog c F (99, 62, r99) := ⟨Try.f62, [], [], Try.func62, by kernel_rfl, by kernel_rfl, by kernel_rfl⟩
theorem ok94 : FnOk Try.prog c F (94, 28, r94) := ⟨Try.f28, [], [], Try.func28, by kernel_rfl, by kernel_rfl, by kernel_rfl⟩
theorem ok118 : FnOk Try.prog c F (118, 31, r118) := ⟨Try.f31, [], [], Try.func31, by kernel_rfl, by kernel_rfl, by kernel_rfl⟩
theorem ok102 : FnOk Try.prog c F (102, 63, r102) := ⟨Try.f63, [], [], Try.func63, by kernel_rfl, by kernel_rfl, by kernel_rfl⟩
theorem ok120 : FnOk Try.prog c F (120, 109, r120) := ⟨Try.f109, [], [[0, 3], [0, 1, 2, 3, 4, 5, 6, 7, 8, 9, 10, 11, 12, 13, 14, 15, 16, 17, 18, 19, 20, 21, 22, 25, 26, 27, 28, 23, 24, 29, 30, 31, 32, 33, 34, 35], [0, 1, 2, 3, 4, 5, 6, 7, 8, 9, 10, 11, 12, 13, 14, 15, 16, 17, 18, 19, 20, 21, 22, 23, 24, 25, 26, 27, 28, 29, 30, 31, 32, 33, 34, 35]], Try.func109, by kernel_rfl, by kernel_rfl, by kernel_rfl⟩
theorem ok121 : FnOk Try.prog c F (121, 110, r121) := ⟨Try.f110, [], [[0, 1, 5]], Try.func110, by kernel_rfl, by kernel_rfl, by kernel_rfl⟩
theorem ok105 : FnOk Try.prog c F (105, 65, r105) := ⟨Try.f65, [], [[0, 3, 4]], Try.func65, by kernel_rfl, by kernel_rfl, by kernel_rfl⟩
theorem ok124 : FnOk Try.prog c F (124, 111, r124) := ⟨Try.f111, [], [[0, 30, 31, 32], [0, 1, 2, 3, 4, 5, 6, 7, 8, 9, 10, 11, 12, 13, 14, 15, 16, 17, 18, 22, 23, 24, 25, 19, 20, 21, 26, 27, 28, 29, 30, 31], [0, 1, 2, 3, 4, 5, 6, 7, 8, 9, 10, 11, 12, 13, 14, 15, 16, 17, 18, 19, 20, 21, 22, 23, 24, 25, 26, 27, 28, 29, 30, 31]], Try.func111, by kernel_rfl, by kernel_rfl, by kernel_rfl⟩
theorem ok107 : FnOk Try.prog c F (107, 112, r107) := ⟨Try.f112, [3], [], Try.func112, by kernel_rfl, by kernel_rfl, by kernel_rfl⟩
theorem ok7 : FnOk Try.prog c F (7, 113, r7) := ⟨Try.f113, [], [], Try.func113, by kernel_rfl, by kernel_rfl, by kernel_rfl⟩
theorem ok108 : FnOk Try.prog c F (108, 68, r108) := ⟨Try.f68, [], [[0, 1, 5], [0, 1, 2, 4, 5, 6, 3, 7, 8, 9], [0, 1, 2, 3, 4, 5, 6, 7, 8, 9]], Try.func68, by kernel_rfl, by kernel_rfl, by kernel_rfl⟩
theorem ok117 : FnOk Try.prog c F (117, 70, r117) := ⟨Try.f70, [], [[0, 1, 5]], Try.func70, by kernel_rfl, by kernel_rfl, by kernel_rfl⟩
theorem ok135 : FnOk Try.prog c F (135, 71, r135) := ⟨Try.f71, [], [[0, 1, 5]], Try.func71, by kernel_rfl, by kernel_rfl, by kernel_rfl⟩
theorem ok123 : FnOk Try.prog c F (123, 118, r123) := ⟨Try.f118, [], [], Try.func118, by kernel_rfl, by kernel_rfl, by kernel_rfl⟩
theorem ok126 : FnOk Try.prog c F (126, 160, r126) := ⟨Try.f160, [], [[0, 1, 7, 8]], Try.func160, by kernel_rfl, by kernel_rfl, by kernel_rfl⟩
theorem ok125 : FnOk Try.prog c F (125, 161, r125) := ⟨Try.f161, [], [], Try.func161, by kernel_rfl, by kernel_rfl, by kernel_rfl⟩
theorem ok127 : FnOk Try.prog c F (127, 122, r127) := ⟨Try.f122, [], [], Try.func122, by kernel_rfl, by kernel_rfl, by kernel_rfl⟩
theorem okT : (c.T.all fun x => x.2.okB Try.prog (mkCfg Try.prog tab tags).ET (mkCfg Try.prog tab tags).SZ x.1) = true := by kernel_rfl
theorem okF : (c.F.all fun x => decide ((lk tab x.2).map (·.1) = some x.1)) = true := by kernel_rfl
theorem okTab : AllT (FnOk Try.prog c F) tab := ⟨ok349, ok76, ok350, ok253, ok77, ok351, ok176, ok80, ok352, ok95, ok353, ok96, ok67, ok197, ok78, ok103, ok115, ok5, ok198, ok68, ok109, ok199, ok110, ok106, ok116, ok200, ok71, ok99, ok94, ok118, ok102, ok120, ok121, ok105, ok124, ok107, ok7, ok108, ok117, ok135, ok123, ok126, ok125, ok127, trivial⟩
theorem prog (O : Nat) : ProgOk ((mkCfg Try.prog tab tags).at O) c F (fun _ _ _ => none) :=
  mkProg okT okF okTab ⟨⟩ ⟨⟨by kernel_rfl, by kernel_rfl, by kernel_rfl⟩, trivial⟩ O
theorem inI11 : AllT (fun x => F x.1 = some x.2) tI11 := ⟨rfl, rfl, rfl, rfl, rfl, rfl, trivial⟩
theorem inI12 : AllT (fun x => F x.1 = some x.2) tI12 := ⟨rfl, rfl, rfl, rfl, rfl, rfl, rfl, rfl, rfl, trivial⟩
theorem inI16 : AllT (fun x => F x.1 = some x.2) tI16 := ⟨rfl, rfl, rfl, rfl, rfl, rfl, rfl, rfl, rfl, rfl, rfl, trivial⟩
theorem inLChart : AllT (fun x => F x.1 = some x.2) tLChart := ⟨rfl, rfl, rfl, rfl, rfl, rfl, trivial⟩
theorem inLClient : AllT (fun x => F x.1 = some x.2) tLClient := ⟨rfl, rfl, rfl, rfl, rfl, trivial⟩
theorem inLRange : AllT (fun x => F x.1 = some x.2) tLRange := ⟨rfl, rfl, rfl, rfl, rfl, rfl, rfl, rfl, trivial⟩
theorem inLReply : AllT (fun x => F x.1 = some x.2) tLReply := ⟨rfl, rfl, rfl, rfl, trivial⟩
theorem inLRequest : AllT (fun x => F x.1 = some x.2) tLRequest := ⟨rfl, rfl, rfl, rfl, rfl, trivial⟩
theorem inLibslicesIndexFuncimplRangeimplRange : AllT (fun x => F x.1 = some x.2) tLibslicesIndexFuncimplRangeimplRange := ⟨rfl, trivial⟩
theorem inS01d : AllT (fun x => F x.1 = some x.2) tS01d := ⟨rfl, rfl, rfl, rfl, rfl, rfl, rfl, rfl, rfl, trivial⟩
theorem inS11 : AllT (fun x => F x.1 = some x.2) tS11 := ⟨rfl, rfl, rfl, rfl, rfl, rfl, rfl, trivial⟩
theorem inS12 : AllT (fun x => F x.1 = some x.2) tS12 := ⟨rfl, rfl, rfl, rfl, rfl, rfl, rfl, rfl, rfl, rfl, rfl, rfl, trivial⟩
theorem inS16 : AllT (fun x => F x.1 = some x.2) tS16 := ⟨rfl, rfl, rfl, rfl, rfl, rfl, rfl, rfl, rfl, rfl, rfl, rfl, rfl, rfl, trivial⟩
theorem inWClientHear : AllT (fun x => F x.1 = some x.2) tWClientHear := ⟨rfl, trivial⟩
end Go.Proofs.Ytnedbeicpfdjjaa.A.ExactClientHear
/- ClientHear: the law's function, run on any arguments, answers true. -/
namespace Go.Proofs.Ytnedbeicpfdjjaa.A
open Go
set_option linter.unusedSimpArgs false
set_option linter.unusedVariables false
set_option maxHeartbeats 2000000 in
theorem law_ExactClientHear {F : Nat → Option RF} {Z : CallF} (hI11 : Has F tI11) (hI12 : Has F tI12) (hI16 : Has F tI16) (hLChart : Has F tLChart) (hLClient : Has F tLClient) (hLRange : Has F tLRange) (hLReply : Has F tLReply) (hLRequest : Has F tLRequest) (hLibslicesIndexFuncimplRangeimplRange : Has F tLibslicesIndexFuncimplRangeimplRange) (hS01d : Has F tS01d) (hS11 : Has F tS11) (hS12 : Has F tS12) (hS16 : Has F tS16) (hWClientHear : Has F tWClientHear) (h : Heap) (avs : List V) (hfl : h.floor = h.next) (w : ArgsWf h 8 [shClient, shReply] avs) : ∃ h', call F Z 349 avs h = some (.c (.bool true), h') := by
  obtain ⟨cc, _, rfl, cw, w1⟩ := ArgsWf.struct w
  obtain ⟨c, cp, cv, cok⟩ := Wf.isClient cw
  obtain ⟨cl1, cl2, cl3⟩ := Client.lenL cv
  obtain ⟨rc, _, rfl, rw, w2⟩ := ArgsWf.struct w1
  obtain ⟨r, rp, rv, rok⟩ := Wf.isReply rw
  obtain ⟨rl1, rl2, rl3⟩ := Reply.lenL rv
  obtain rfl := w2.nil
  have f0 : h.floor ≤ h.next := by omega
  rw [call_run F Z (hWClientHear.lk (g := 349) rfl) _ _ rfl]
  obtain ⟨l0, s0, s0l, s0k⟩ := szClient_c hLClient hLChart hLRange hLRequest (Z := Z) cv 1048576 (by omega) (by omega)
  simp only [run0, run1, run2, run3, run4, noSlot, ownS, ownK, memN, RO.dst, lk, drop, forget, number, Nat.reduceBEq, cut?, splice?, builds, List.length_cons, List.length_nil, List.drop_succ_cons, List.drop_zero, List.take_succ_cons, List.take_zero, List.cons_append, List.nil_append, List.append_nil, List.drop_nil, List.take_nil, Nat.reduceAdd, Nat.reduceLeDiff, Nat.zero_add, Nat.add_zero, ↓reduceIte, Bool.not_true, Bool.not_false, decide_true, decide_false, eq_self, bne_self_eq_false, List.getElem?_cons_zero, List.getElem?_cons_succ, decide_eq_true_eq, Bool.false_eq_true, Bool.true_eq_false, reduceCtorEq, Nat.le_refl, s0, cl1, cl2, cl3, rl1, rl2, rl3]
  by_cases hn0 : l0 < 0
  · simp only [run0, run1, run2, run3, run4, noSlot, ownS, ownK, memN, RO.dst, lk, drop, forget, number, Nat.reduceBEq, cut?, splice?, builds, List.length_cons, List.length_nil, List.drop_succ_cons, List.drop_zero, List.take_succ_cons, List.take_zero, List.cons_append, List.nil_append, List.append_nil, List.drop_nil, List.take_nil, Nat.reduceAdd, Nat.reduceLeDiff, Nat.zero_add, Nat.add_zero, ↓reduceIte, Bool.not_true, Bool.not_false, decide_true, decide_false, eq_self, bne_self_eq_false, List.getElem?_cons_zero, List.getElem?_cons_succ, decide_eq_true_eq, Bool.false_eq_true, Bool.true_eq_false, reduceCtorEq, Nat.le_refl, hn0]
    exact ⟨_, rfl⟩
  have sm0 := s0k (by omega)
  obtain ⟨l1, s1, s1l, s1k⟩ := szReply_c hLReply hLChart hLRange (Z := Z) rv l0 (by omega) (by omega)
  simp only [run0, run1, run2, run3, run4, noSlot, ownS, ownK, memN, RO.dst, lk, drop, forget, number, Nat.reduceBEq, cut?, splice?, builds, List.length_cons, List.length_nil, List.drop_succ_cons, List.drop_zero, List.take_succ_cons, List.take_zero, List.cons_append, List.nil_append, List.append_nil, List.drop_nil, List.take_nil, Nat.reduceAdd, Nat.reduceLeDiff, Nat.zero_add, Nat.add_zero, ↓reduceIte, Bool.not_true, Bool.not_false, decide_true, decide_false, eq_self, bne_self_eq_false, List.getElem?_cons_zero, List.getElem?_cons_succ, decide_eq_true_eq, Bool.false_eq_true, Bool.true_eq_false, reduceCtorEq, Nat.le_refl, s1, hn0, cl1, cl2, cl3, rl1, rl2, rl3]
  by_cases hn1 : l1 < 0
  · simp only [run0, run1, run2, run3, run4, noSlot, ownS, ownK, memN, RO.dst, lk, drop, forget, number, Nat.reduceBEq, cut?, splice?, builds, List.length_cons, List.length_nil, List.drop_succ_cons, List.drop_zero, List.take_succ_cons, List.take_zero, List.cons_append, List.nil_append, List.append_nil, List.drop_nil, List.take_nil, Nat.reduceAdd, Nat.reduceLeDiff, Nat.zero_add, Nat.add_zero, ↓reduceIte, Bool.not_true, Bool.not_false, decide_true, decide_false, eq_self, bne_self_eq_false, List.getElem?_cons_zero, List.getElem?_cons_succ, decide_eq_true_eq, Bool.false_eq_true, Bool.true_eq_false, reduceCtorEq, Nat.le_refl, hn1]
    exact ⟨_, rfl⟩
  have sm1 := s1k (by omega)
  have flr : h.floor = h.next := hfl
  have Tcv := Client.okL.lt cv
  have Trv := Reply.okL.lt rv
  obtain ⟨y1, hq1, p1, e1, oq1, vq1, qq1⟩ := toClient_c hLClient hLChart hLRange hLRequest (Z := Z) (h := ⟨h.next, h.next, h.get⟩) (Nat.le_refl _) (Client.okL.up cv _) sm0
  obtain ⟨h1, mq1⟩ : ∃ g, Heap.mk hq1.next h.floor hq1.get = g := ⟨_, rfl⟩
  have o1 : On h h1 := by rw [← mq1]; exact ⟨⟨oq1.ext.1, oq1.ext.2⟩, rfl⟩
  have v1 := Client.okI.up vq1 h.floor
  rw [mq1] at v1
  have q1 : Fre h p1 := ⟨qq1.lo, qq1.nd⟩
  replace cv := Client.okL.on cv o1
  replace rv := Reply.okL.on rv o1
  have n1 := o1.ext.1
  have g1 := o1.fl
  have f1 := o1.le f0
  obtain ⟨vl1, vt1, vd1⟩ := Client.lenI v1
  obtain ⟨y2, hq2, p2, e2, oq2, vq2, qq2⟩ := toReply_c hLReply hLChart hLRange (Z := Z) (h := ⟨h1.next, h1.next, h1.get⟩) (Nat.le_refl _) (Reply.okL.up rv _) sm1
  obtain ⟨h2, mq2⟩ : ∃ g, Heap.mk hq2.next h1.floor hq2.get = g := ⟨_, rfl⟩
  have o2 : On h1 h2 := by rw [← mq2]; exact ⟨⟨oq2.ext.1, oq2.ext.2⟩, rfl⟩
  have v2 := Reply.okI.up vq2 h1.floor
  rw [mq2] at v2
  have q2 : Fre h1 p2 := ⟨qq2.lo, qq2.nd⟩
  replace cv := Client.okL.on cv o2
  replace rv := Reply.okL.on rv o2
  replace v1 := Client.okI.on v1 o2
  have n2 := o2.ext.1
  have g2 := o2.fl
  have f2 := o2.le f1
  obtain ⟨vl2, vt2, vd2⟩ := Reply.lenI v2
  obtain ⟨r3_0, hq3, p3_0, e3, oq3, vq3_0, qq3_0⟩ := sClientHear_c hS01d hS11 hS12 hS16 (Z := Z) (h := ⟨h2.next, h2.next, h2.get⟩) (Nat.le_refl _) (Client.okI.up v1 _) (Reply.okI.up v2 _) cok sm0 rok sm1
  obtain ⟨h3, mq3⟩ : ∃ g, Heap.mk hq3.next h2.floor hq3.get = g := ⟨_, rfl⟩
  have o3 : On h2 h3 := by rw [← mq3]; exact ⟨⟨oq3.ext.1, oq3.ext.2⟩, rfl⟩
  have v3_0 := Client.okI.up vq3_0 h2.floor
  rw [mq3] at v3_0
  have q3_0 : Fre h2 p3_0 := ⟨qq3_0.lo, qq3_0.nd⟩
  replace cv := Client.okL.on cv o3
  replace rv := Reply.okL.on rv o3
  replace v1 := Client.okI.on v1 o3
  replace v2 := Reply.okI.on v2 o3
  have n3 := o3.ext.1
  have g3 := o3.fl
  have f3 := o3.le f2
  have Tv3_0 := Client.okI.lt v3_0
  obtain ⟨vl3_0, vt3_0, vd3_0⟩ := Client.lenI v3_0
  obtain ⟨y4, h4, p4, e4, o4, v4, q4⟩ := toClient_c hLClient hLChart hLRange hLRequest (Z := Z) f3 cv sm0
  replace cv := Client.okL.on cv o4
  replace rv := Reply.okL.on rv o4
  replace v1 := Client.okI.on v1 o4
  replace v2 := Reply.okI.on v2 o4
  replace v3_0 := Client.okI.on v3_0 o4
  have n4 := o4.ext.1
  have g4 := o4.fl
  have f4 := o4.le f3
  have Tv4 := Client.okI.lt v4
  obtain ⟨vl4, vt4, vd4⟩ := Client.lenI v4
  obtain ⟨y5, h5, p5, e5, o5, v5, q5⟩ := toReply_c hLReply hLChart hLRange (Z := Z) f4 rv sm1
  replace cv := Client.okL.on cv o5
  replace rv := Reply.okL.on rv o5
  replace v1 := Client.okI.on v1 o5
  replace v2 := Reply.okI.on v2 o5
  replace v3_0 := Client.okI.on v3_0 o5
  replace v4 := Client.okI.on v4 o5
  have n5 := o5.ext.1
  have g5 := o5.fl
  have f5 := o5.le f4
  have Tv5 := Reply.okI.lt v5
  obtain ⟨vl5, vt5, vd5⟩ := Reply.lenI v5
  obtain ⟨r6_0, h6, p6_0, e6, o6, v6_0, q6_0⟩ := ClientHear_c hI11 hI12 hI16 hLibslicesIndexFuncimplRangeimplRange (Z := Z) f5 v4 v5 cok sm0 rok sm1
  replace cv := Client.okL.on cv o6
  replace rv := Reply.okL.on rv o6
  replace v1 := Client.okI.on v1 o6
  replace v2 := Reply.okI.on v2 o6
  replace v3_0 := Client.okI.on v3_0 o6
  replace v4 := Client.okI.on v4 o6
  replace v5 := Reply.okI.on v5 o6
  have n6 := o6.ext.1
  have g6 := o6.fl
  have f6 := o6.le f5
  obtain ⟨vl6_0, vt6_0, vd6_0⟩ := Client.lenI v6_0
  have c1 := eqClient_r hLClient hLChart hLRange hLRequest (Z := Z) v6_0 v3_0
  obtain ⟨y7, hq7, p7, e7, oq7, vq7, qq7⟩ := toClient_c hLClient hLChart hLRange hLRequest (Z := Z) (h := ⟨h6.next, h6.next, h6.get⟩) (Nat.le_refl _) (Client.okL.up cv _) sm0
  obtain ⟨h7, mq7⟩ : ∃ g, Heap.mk hq7.next h6.floor hq7.get = g := ⟨_, rfl⟩
  have o7 : On h6 h7 := by rw [← mq7]; exact ⟨⟨oq7.ext.1, oq7.ext.2⟩, rfl⟩
  have v7 := Client.okI.up vq7 h6.floor
  rw [mq7] at v7
  have q7 : Fre h6 p7 := ⟨qq7.lo, qq7.nd⟩
  replace cv := Client.okL.on cv o7
  replace rv := Reply.okL.on rv o7
  replace v1 := Client.okI.on v1 o7
  replace v2 := Reply.okI.on v2 o7
  replace v3_0 := Client.okI.on v3_0 o7
  replace v4 := Client.okI.on v4 o7
  replace v5 := Reply.okI.on v5 o7
  replace v6_0 := Client.okI.on v6_0 o7
  have n7 := o7.ext.1
  have g7 := o7.fl
  have f7 := o7.le f6
  obtain ⟨vl7, vt7, vd7⟩ := Client.lenI v7
  have c2 := eqClient_r hLClient hLChart hLRange hLRequest (Z := Z) (h := ⟨h7.next, h7.next, h7.get⟩) (Client.okI.up v4 _) (Client.okI.up v7 _)
  obtain ⟨y8, hq8, p8, e8, oq8, vq8, qq8⟩ := toReply_c hLReply hLChart hLRange (Z := Z) (h := ⟨h7.next, h7.next, h7.get⟩) (Nat.le_refl _) (Reply.okL.up rv _) sm1
  obtain ⟨h8, mq8⟩ : ∃ g, Heap.mk hq8.next h7.floor hq8.get = g := ⟨_, rfl⟩
  have o8 : On h7 h8 := by rw [← mq8]; exact ⟨⟨oq8.ext.1, oq8.ext.2⟩, rfl⟩
  have v8 := Reply.okI.up vq8 h7.floor
  rw [mq8] at v8
  have q8 : Fre h7 p8 := ⟨qq8.lo, qq8.nd⟩
  replace cv := Client.okL.on cv o8
  replace rv := Reply.okL.on rv o8
  replace v1 := Client.okI.on v1 o8
  replace v2 := Reply.okI.on v2 o8
  replace v3_0 := Client.okI.on v3_0 o8
  replace v4 := Client.okI.on v4 o8
  replace v5 := Reply.okI.on v5 o8
  replace v6_0 := Client.okI.on v6_0 o8
  have n8 := o8.ext.1
  have g8 := o8.fl
  have f8 := o8.le f7
  obtain ⟨vl8, vt8, vd8⟩ := Reply.lenI v8
  have c3 := eqReply_r hLReply hLChart hLRange (Z := Z) (h := ⟨h8.next, h8.next, h8.get⟩) (Reply.okI.up v5 _) (Reply.okI.up v8 _)
  have hb1 := Client.wt_le sm0
  have hb2 := c.wt_nn
  have hb5 := Reply.wt_le sm1
  have hb6 := r.wt_nn
  have hb3 := Client.wt_le (clientHear_small sm0 sm1)
  have hb4 := (clientHear c r).1.wt_nn
  have lo9 : ∀ id, id ∈ p4 → h8.floor ≤ id := fun id hid => by have := q4.lo id hid; omega
  obtain ⟨h9, m9, k9, u9⟩ := markClient_r hLClient hLChart hLRange hLRequest (Z := Z) v4 q4.nd lo9 (1) (by omega) (by omega)
  replace cv := Client.okL.mk' cv k9 fun id h1 h2 => by have a1 := q4.lo id h2; have a2 := Tcv id h1; omega
  replace rv := Reply.okL.mk' rv k9 fun id h1 h2 => by have a1 := q4.lo id h2; have a2 := Trv id h1; omega
  replace v3_0 := Client.okI.mk' v3_0 k9 fun id h1 h2 => by have a1 := q4.lo id h2; have a2 := Tv3_0 id h1; omega
  replace v5 := Reply.okI.mk' v5 k9 fun id h1 h2 => by have a1 := q4.lo id h2; have a2 := Tv4 id h2; have a3 := q5.lo id h1; omega
  replace v6_0 := Client.okI.mk' v6_0 k9 fun id h1 h2 => by have a1 := q4.lo id h2; have a2 := Tv4 id h2; have a3 := q6_0.lo id h1; omega
  have n9 := k9.next
  have g9 := k9.fl
  have f9 : h9.floor ≤ h9.next := by omega
  replace v4 := u9
  have hk9 : ¬ (1 + c.wt : Int) < 0 := by omega
  have lo10 : ∀ id, id ∈ p5 → h9.floor ≤ id := fun id hid => by have := q5.lo id hid; omega
  obtain ⟨h10, m10, k10, u10⟩ := markReply_r hLReply hLChart hLRange (Z := Z) v5 q5.nd lo10 (1 + c.wt) (by omega) (by omega)
  replace cv := Client.okL.mk' cv k10 fun id h1 h2 => by have a1 := q5.lo id h2; have a2 := Tcv id h1; omega
  replace rv := Reply.okL.mk' rv k10 fun id h1 h2 => by have a1 := q5.lo id h2; have a2 := Trv id h1; omega
  replace v3_0 := Client.okI.mk' v3_0 k10 fun id h1 h2 => by have a1 := q5.lo id h2; have a2 := Tv3_0 id h1; omega
  replace v6_0 := Client.okI.mk' v6_0 k10 fun id h1 h2 => by have a1 := q5.lo id h2; have a2 := Tv5 id h2; have a3 := q6_0.lo id h1; omega
  have n10 := k10.next
  have g10 := k10.fl
  have f10 : h10.floor ≤ h10.next := by omega
  replace v5 := u10
  have hk10 : ¬ (1 + c.wt + r.wt : Int) < 0 := by omega
  have c4 := eqClient_r hLClient hLChart hLRange hLRequest (Z := Z) v6_0 v3_0
  have lo11 : ∀ id, id ∈ p6_0 → h10.floor ≤ id := fun id hid => by have := q6_0.lo id hid; omega
  obtain ⟨h11, m11, k11, u11⟩ := markClient_r hLClient hLChart hLRange hLRequest (Z := Z) v6_0 q6_0.nd lo11 (1) (by omega) (by omega)
  replace cv := Client.okL.mk' cv k11 fun id h1 h2 => by have a1 := q6_0.lo id h2; have a2 := Tcv id h1; omega
  replace rv := Reply.okL.mk' rv k11 fun id h1 h2 => by have a1 := q6_0.lo id h2; have a2 := Trv id h1; omega
  replace v3_0 := Client.okI.mk' v3_0 k11 fun id h1 h2 => by have a1 := q6_0.lo id h2; have a2 := Tv3_0 id h1; omega
  have n11 := k11.next
  have g11 := k11.fl
  have f11 : h11.floor ≤ h11.next := by omega
  replace v6_0 := u11
  have hkk : ¬ (1 + ((clientHear c r).1).wt : Int) < 0 := by omega
  have d5 := heldClient_r hLClient hLChart hLRange hLRequest (Z := Z) v6_0 (by omega) (by omega)
  have hh6 : ¬ (1 + ((clientHear c r).1).wt : Int) < 0 := by omega
  obtain ⟨y12, hq12, p12, e12, oq12, vq12, qq12⟩ := toClient_c hLClient hLChart hLRange hLRequest (Z := Z) (h := ⟨h11.next, h11.next, h11.get⟩) (Nat.le_refl _) (Client.okL.up cv _) sm0
  obtain ⟨h12, mq12⟩ : ∃ g, Heap.mk hq12.next h11.floor hq12.get = g := ⟨_, rfl⟩
  have o12 : On h11 h12 := by rw [← mq12]; exact ⟨⟨oq12.ext.1, oq12.ext.2⟩, rfl⟩
  have v12 := Client.okI.up vq12 h11.floor
  rw [mq12] at v12
  have q12 : Fre h11 p12 := ⟨qq12.lo, qq12.nd⟩
  replace cv := Client.okL.on cv o12
  replace rv := Reply.okL.on rv o12
  replace v3_0 := Client.okI.on v3_0 o12
  replace v6_0 := Client.okI.on v6_0 o12
  have n12 := o12.ext.1
  have g12 := o12.fl
  have f12 := o12.le f11
  obtain ⟨vl12, vt12, vd12⟩ := Client.lenI v12
  obtain ⟨y13, hq13, p13, e13, oq13, vq13, qq13⟩ := toReply_c hLReply hLChart hLRange (Z := Z) (h := ⟨h12.next, h12.next, h12.get⟩) (Nat.le_refl _) (Reply.okL.up rv _) sm1
  obtain ⟨h13, mq13⟩ : ∃ g, Heap.mk hq13.next h12.floor hq13.get = g := ⟨_, rfl⟩
  have o13 : On h12 h13 := by rw [← mq13]; exact ⟨⟨oq13.ext.1, oq13.ext.2⟩, rfl⟩
  have v13 := Reply.okI.up vq13 h12.floor
  rw [mq13] at v13
  have q13 : Fre h12 p13 := ⟨qq13.lo, qq13.nd⟩
  replace cv := Client.okL.on cv o13
  replace rv := Reply.okL.on rv o13
  replace v3_0 := Client.okI.on v3_0 o13
  replace v6_0 := Client.okI.on v6_0 o13
  replace v12 := Client.okI.on v12 o13
  have n13 := o13.ext.1
  have g13 := o13.fl
  have f13 := o13.le f12
  obtain ⟨vl13, vt13, vd13⟩ := Reply.lenI v13
  obtain ⟨r14_0, hq14, p14_0, e14, oq14, vq14_0, qq14_0⟩ := ClientHear_c hI11 hI12 hI16 hLibslicesIndexFuncimplRangeimplRange (Z := Z) (h := ⟨h13.next, h13.next, h13.get⟩) (Nat.le_refl _) (Client.okI.up v12 _) (Reply.okI.up v13 _) cok sm0 rok sm1
  obtain ⟨h14, mq14⟩ : ∃ g, Heap.mk hq14.next h13.floor hq14.get = g := ⟨_, rfl⟩
  have o14 : On h13 h14 := by rw [← mq14]; exact ⟨⟨oq14.ext.1, oq14.ext.2⟩, rfl⟩
  have v14_0 := Client.okI.up vq14_0 h13.floor
  rw [mq14] at v14_0
  have q14_0 : Fre h13 p14_0 := ⟨qq14_0.lo, qq14_0.nd⟩
  replace cv := Client.okL.on cv o14
  replace rv := Reply.okL.on rv o14
  replace v3_0 := Client.okI.on v3_0 o14
  replace v6_0 := Client.okI.on v6_0 o14
  replace v12 := Client.okI.on v12 o14
  replace v13 := Reply.okI.on v13 o14
  have n14 := o14.ext.1
  have g14 := o14.fl
  have f14 := o14.le f13
  obtain ⟨vl14_0, vt14_0, vd14_0⟩ := Client.lenI v14_0
  have c7 := eqClient_r hLClient hLChart hLRange hLRequest (Z := Z) v14_0 v3_0
  have d8 := heldClient_r hLClient hLChart hLRange hLRequest (Z := Z) v6_0 (by omega) (by omega)
  have hh9 : ¬ (1 + ((clientHear c r).1).wt : Int) < 0 := by omega
  simp only [run0, run1, run2, run3, run4, noSlot, ownS, ownK, memN, RO.dst, lk, drop, forget, number, Nat.reduceBEq, cut?, splice?, builds, List.length_cons, List.length_nil, List.drop_succ_cons, List.drop_zero, List.take_succ_cons, List.take_zero, List.cons_append, List.nil_append, List.append_nil, List.drop_nil, List.take_nil, Nat.reduceAdd, Nat.reduceLeDiff, Nat.zero_add, Nat.add_zero, ↓reduceIte, Bool.not_true, Bool.not_false, decide_true, decide_false, eq_self, bne_self_eq_false, List.getElem?_cons_zero, List.getElem?_cons_succ, decide_eq_true_eq, Bool.false_eq_true, Bool.true_eq_false, reduceCtorEq, Nat.le_refl, hn0, hn1, cl1, cl2, cl3, rl1, rl2, rl3, mq1, e1, vl1, vt1, vd1, mq2, e2, vl2, vt2, vd2, mq3, e3, vl3_0, vt3_0, vd3_0, e4, vl4, vt4, vd4, e5, vl5, vt5, vd5, e6, vl6_0, vt6_0, vd6_0, c1, mq7, e7, vl7, vt7, vd7, c2, mq8, e8, vl8, vt8, vd8, c3, m9, hk9, m10, hk10, c4, m11, hkk, d5, hh6, mq12, e12, vl12, vt12, vd12, mq13, e13, vl13, vt13, vd13, mq14, e14, vl14_0, vt14_0, vd14_0, c7, d8, hh9]
  exact ⟨_, rfl⟩
end Go.Proofs.Ytnedbeicpfdjjaa.A
/- FnExactClientHear: the row's statement, from the law of the abstract run. No condition. -/
namespace Go.Proofs.Ytnedbeicpfdjjaa.A.ExactClientHear
open Go Go.ChangeShapes Go.WideShapes Go.ChangeAt Go.RowKit
theorem own : ownKnob Try.prog.godebug = none := by kernel_rfl
set_option maxRecDepth 100000 in
theorem lifted (os : Os) (started : os.Started) (H : Type) (enc : TypeId × Value → H) :
    ReturnsInHanded {} Try.checked os 3 .any (Rows.fnExactClientHearSpec.pre6 enc Try.prog Try.f3 Rows.fnExactClientHearRow.domain false) (Rows.fnExactClientHearSpec.post enc Try.prog Try.f3 false true false false) := by
  refine returnsInHanded_of_change_sized (C := Try.checked) own started (by kernel_rfl) Try.func3
    (ChangeSpec.witness6 (enc := enc) (C := Try.checked) false ⟨#[], #[.agg #[.int .i64 0, .int .i64 0, .int .i64 0, .slice none 0 0, .bool false, .int .u64 0, .int .i64 0, .bool false, .int .i64 0, .int .i64 0, .int .i64 0, .int .u64 0, .int .u64 0, .int .i64 0], .agg #[.int .i64 0, .int .i64 0, .int .i64 0, .int .u64 0, .int .i64 0, .slice none 0 0, .bool false, .int .u64 0, .int .i64 0]], []⟩ 8 (by kernel_rfl) (by kernel_rfl) (by kernel_rfl) (by kernel_rfl)) ?_
  intro W base args ds gs before hval hW _ _ _
  have hW' := hW
  obtain ⟨p, q, hA, hV, rfl, hfz, hnd⟩ := hW
  obtain ⟨rfl, rfl⟩ := trodVars_none hV
  have r0 : DataW.TrodAll enc Try.prog W 0 (fun _ => true) true [29, 31] args.toList ds p := hA
  obtain ⟨_, _, d0, _, _, _, _, rfl, _, _, r1⟩ := trodAll_cons r0
  obtain ⟨_, _, d1, _, _, _, _, rfl, _, _, r2⟩ := trodAll_cons r1
  obtain ⟨_, rfl, _⟩ := trodAll_nil r2
  refine (law_calls (ts := [29, 31]) (ss := [shClient, shReply]) prog (show (mkCfg Try.prog tab tags).G 349 = some 3 from by kernel_rfl) ⟨show shIs Try.prog (mkCfg Try.prog tab tags).ET (mkCfg Try.prog tab tags).SZ 8 29 shClient = true from by kernel_rfl, show shIs Try.prog (mkCfg Try.prog tab tags).ET (mkCfg Try.prog tab tags).SZ 8 31 shReply = true from by kernel_rfl, trivial⟩ (law_ExactClientHear inI11 inI12 inI16 inLChart inLClient inLRange inLReply inLRequest inLibslicesIndexFuncimplRangeimplRange inS01d inS11 inS12 inS16 inWClientHear) (fun j t v h1 => hval j t v (by rw [Try.params3]; exact (List.getElem?_toArray ..).trans h1)) hA).mono fun e W' ⟨he, bel⟩ => ?_
  subst he
  exact ⟨_, rfl, _, _, _, [], _, [], hW', trodAll_mk1 (shut_bool Try.underlying4 _), trodAll_below (by kernel_rfl) bel _ _ _ _ (by kernel_rfl) hA hA.lt, rfl, bel.frame _, fun h => by cases h⟩
theorem over : Rows.fnExactClientHearRow.holds Try.pinned (OpenSpec.ofChange Rows.fnExactClientHearSpec) :=
  OpenClaim.holds_of_wide 3 Try.f3 rfl rfl rfl rfl rfl rfl rfl ⟨rfl, rfl, rfl, rfl, rfl⟩ rfl rfl rfl rfl rfl (by kernel_rfl) Try.func3 (by kernel_rfl)
    (of_decide_eq_true (by kernel_rfl)) (by unfold Func.isWrapper; first | (rw [if_pos (by decide +kernel)]; kernel_rfl) | (rw [if_neg (by decide +kernel)]; exact ⟨rfl, rfl⟩))
    (fun os started H enc _ => lifted os started H enc)
end Go.Proofs.Ytnedbeicpfdjjaa.A.ExactClientHear
namespace Go.Proofs.Ytnedbeicpfdjjaa
/-- The row. -/
theorem fnExactClientHear_holds : Rows.FnExactClientHearSaid := A.ExactClientHear.over
#print axioms fnExactClientHear_holds
end Go.Proofs.Ytnedbeicpfdjjaa
