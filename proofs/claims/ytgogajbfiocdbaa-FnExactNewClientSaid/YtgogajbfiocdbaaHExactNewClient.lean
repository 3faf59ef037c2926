/- FnExactNewClient: the statement, from the law of the abstract run. No condition. -/
import Derived.Test.YtgogajbfiocdbaaHCExactNewClient2
import Derived.Test.YtgogajbfiocdbaaB6
import Derived.Test.YtgogajbfiocdbaaProg
import Derived.Test.YtgogajbfiocdbaaRows
import Derived.ProofKit
import Derived.OpenShut
import Derived.ShutString
import Derived.ChangeOld
import Derived.Below
import Derived.SizedLaws
/- The functions that FnExactNewClient reaches: the program's code against the compact code, entry by entry. -/
namespace Go.Proofs.Ytgogajbfiocdbaa.A.ExactNewClient
open Go
def c : CC where
  T := [(3, ⟨1, 8, false, some [.int .i64 0], (.int .i64)⟩),
    (4, ⟨1, 1, false, some [.bool false], .bool⟩),
    (29, ⟨1, 8, false, some [.int .u64 0], (.int .u64)⟩),
    (40, ⟨1, 24, false, some [.nil], (.slice 155 8)⟩),
    (42, ⟨5, 56, true, some [.int .i64 0, .nil, .bool false, .int .u64 0, .int .i64 0], (.struct [(0, 1, false), (1, 1, false), (2, 1, false), (3, 1, false), (4, 1, false)])⟩),
    (46, ⟨1, 24, false, some [.nil], (.slice 133 7)⟩),
    (48, ⟨5, 56, true, some [.int .i64 0, .nil, .bool false, .int .u64 0, .int .i64 0], (.struct [(0, 1, false), (1, 1, false), (2, 1, false), (3, 1, false), (4, 1, false)])⟩),
    (68, ⟨5, 40, true, some [.int .i64 0, .int .i64 0, .int .u64 0, .int .u64 0, .int .i64 0], (.struct [(0, 1, false), (1, 1, false), (2, 1, false), (3, 1, false), (4, 1, false)])⟩),
    (70, ⟨14, 128, true, some [.int .i64 0, .int .i64 0, .int .i64 0, .nil, .bool false, .int .u64 0, .int .i64 0, .bool false, .int .i64 0, .int .i64 0, .int .i64 0, .int .u64 0, .int .u64 0, .int .i64 0], (.struct [(0, 1, false), (1, 1, false), (2, 5, true), (7, 1, false), (8, 1, false), (9, 5, true)])⟩),
    (133, ⟨3, 24, true, some [.int .u64 0, .int .u64 0, .int .i64 0], (.struct [(0, 1, false), (1, 1, false), (2, 1, false)])⟩),
    (155, ⟨3, 24, true, some [.int .u64 0, .int .u64 0, .int .i64 0], (.struct [(0, 1, false), (1, 1, false), (2, 1, false)])⟩)]
  F := [(13, 91), (26, 67), (28, 68), (30, 71), (43, 78), (46, 80), (56, 92), (57, 93), (58, 94), (59, 95), (60, 96), (70, 5), (77, 102), (78, 103), (80, 105), (81, 106), (82, 107), (83, 108), (85, 99), (87, 110), (93, 115), (94, 116), (95, 117), (96, 118), (103, 120), (104, 121), (106, 123), (107, 124), (108, 7), (109, 126), (110, 125), (111, 127), (121, 135)]
  eqT := [(68, [.i .i64, .i .i64, .i .u64, .i .u64, .i .i64])]
  adds := []
def F : Nat → Option RF := lk (tI11 ++ tI12 ++ tI16 ++ tLChart ++ tLClient ++ tLRange ++ tLRequest ++ tLibslicesIndexFuncimplRangeimplRange ++ tS01d ++ tS11 ++ tS12 ++ tS16 ++ tWNewClient)
def tab : List (Nat × FuncId × RF) := [(91, 13, r91), (67, 26, r67), (68, 28, r68), (71, 30, r71), (80, 46, r80), (92, 56, r92), (93, 57, r93), (94, 58, r94), (95, 59, r95), (96, 60, r96), (102, 77, r102), (105, 80, r105), (108, 83, r108), (99, 85, r99), (78, 43, r78), (115, 93, r115), (110, 87, r110), (116, 94, r116), (117, 95, r117), (118, 96, r118), (123, 106, r123), (127, 111, r127), (5, 70, r5), (103, 78, r103), (106, 81, r106), (135, 121, r135), (120, 103, r120), (121, 104, r121), (107, 82, r107), (124, 107, r124), (7, 108, r7), (126, 109, r126), (125, 110, r125)]
def tags : List (Nat × TypeId × Nat) := [(7, 133, 3), (8, 155, 3)]
theorem ok91 : FnOk Try.prog c F (91, 13, r91) := ⟨Try.f13, [], [[0, 1, 2, 3, 4], [0, 1, 2, 3, 4]], Try.func13, by kernel_rfl, by kernel_rfl, by kernel_rfl⟩
theorem ok67 : FnOk Try.prog c F (67, 26, r67) := ⟨Try.f26, [], [], Try.func26, by kernel_rfl, by kernel_rfl, by kernel_rfl⟩
theorem ok68 : FnOk Try.prog c F (68, 28, r68) := ⟨Try.f28, [], [], Try.func28, by kernel_rfl, by kernel_rfl, by kernel_rfl⟩
theorem ok71 : FnOk Try.prog c F (71, 30, r71) := ⟨Try.f30, [], [], Try.func30, by kernel_rfl, by kernel_rfl, by kernel_rfl⟩
theorem ok80 : FnOk Try.prog c F (80, 46, r80) := ⟨Try.f46, [], [], Try.func46, by kernel_rfl, by kernel_rfl, by kernel_rfl⟩
theorem ok92 : FnOk Try.prog c F (92, 56, r92) := ⟨Try.f56, [], [], Try.func56, by kernel_rfl, by kernel_rfl, by kernel_rfl⟩
theorem ok93 : FnOk Try.prog c F (93, 57, r93) := ⟨Try.f57, [], [], Try.func57, by kernel_rfl, by kernel_rfl, by kernel_rfl⟩
theorem ok94 : FnOk Try.prog c F (94, 58, r94) := ⟨Try.f58, [], [], Try.func58, by kernel_rfl, by kernel_rfl, by kernel_rfl⟩
theorem ok95 : FnOk Try.prog c F (95, 59, r95) := ⟨Try.f59, [], [], Try.func59, by kernel_rfl, by kernel_rfl, by kernel_rfl⟩
theorem ok96 : FnOk Try.prog c F (96, 60, r96) := ⟨Try.f60, [], [], Try.func60, by kernel_rfl, by kernel_rfl, by kernel_rfl⟩
theorem ok102 : FnOk Try.prog c F (102, 77, r102) := ⟨Try.f77, [], [], Try.func77, by kernel_rfl, by kernel_rfl, by kernel_rfl⟩
theorem ok105 : FnOk Try.prog c F (105, 80, r105) := ⟨Try.f80, [], [[0, 3, 4]], Try.func80, by kernel_rfl, by kernel_rfl, by kernel_rfl⟩
theorem ok108 : FnOk Try.prog c F (108, 83, r108) := ⟨Try.f83, [], [[0, 1, 5], [0, 1, 2, 4, 5, 6, 3, 7, 8, 9], [0, 1, 2, 3, 4, 5, 6, 7, 8, 9]], Try.func83, by kernel_rfl, by kernel_rfl, by kernel_rfl⟩
theorem ok99 : FnOk Try.prog c F (99, 85, r99) := ⟨Try.f85, [], [], Try.func85, by kernel_rfl, by kernel_rfl, by kernel_rfl⟩
theorem ok78 : FnOk Try.prog c F (78, 43, r78) := ⟨Try.f43, [], [], Try.func43, by kernel_rfl, by kernel_rfl, by kernel_rfl⟩
theorem ok115 : FnOk Try.prog c F (115, 93, r115) := ⟨Try.f93, [], [[1, 2, 3, 4], [4, 0, 1, 2, 3, 5, 6, 7, 8, 9, 10], [0, 1, 2, 3, 4, 5, 6, 7, 8, 9, 10]], Try.func93, by kernel_rfl, by kernel_rfl, by kernel_rfl⟩
theorem ok110 : FnOk Try.prog c F (110, 87, r110) := ⟨Try.f87, [], [], Try.func87, by kernel_rfl, by kernel_rfl, by kernel_rfl⟩
theorem ok116 : FnOk Try.prog c F (116, 94, r116) := ⟨Try.f94, [], [], Try.func94, by kernel_rfl, by kernel_rfl, by kernel_rfl⟩
theorem ok117 : FnOk Try.prog c F (117, 95, r117) := ⟨Try.f95, [], [[0, 1, 5]], Try.func95, by kernel_rfl, by kernel_rfl, by kernel_rfl⟩
theorem ok118 : FnOk Try.prog c F (118, 96, r118) := ⟨Try.f96, [], [], Try.func96, by kernel_rfl, by kernel_rfl, by kernel_rfl⟩
theorem ok123 : FnOk Try.prog c F (123, 106, r123) := ⟨Try.f106, [], [], Try.func106, by kernel_rfl, by kernel_rfl, by kernel_rfl⟩
theorem ok127 : FnOk Try.prog c F (127, 111, r127) := ⟨Try.f111, [], [], Try.func111, by kernel_rfl, by kernel_rfl, by kernel_rfl⟩
theorem ok5 : FnOk Try.prog c F (5, 70, r5) := ⟨Try.f70, [], [], Try.func70, by kernel_rfl, by kernel_rfl, by kernel_rfl⟩
theorem ok103 : FnOk Try.prog c F (103, 78, r103) := ⟨Try.f78, [], [[0, 1, 2, 3, 4, 5, 6, 7, 10, 8, 9, 11, 12, 13, 14, 15, 16, 17, 18], [0, 1, 2, 3, 4, 5, 6, 7, 8, 9, 10, 11, 12, 13, 14, 15, 16, 17, 18]], Try.func78, by kernel_rfl, by kernel_rfl, by kernel_rfl⟩
theorem ok106 : FnOk Try.prog c F (106, 81, r106) := ⟨Try.f81, [], [[9, 0, 1, 2, 3, 4, 5, 6, 7, 8, 10], [0, 1, 2, 3, 4, 5, 6, 7, 8, 9, 10]], Try.func81, by kernel_rfl, by kernel_rfl, by kernel_rfl⟩
theorem ok135 : FnOk Try.prog c F (135, 121, r135) := ⟨Try.f121, [], [[0, 1, 5]], Try.func121, by kernel_rfl, by kernel_rfl, by kernel_rfl⟩
theorem ok120 : FnOk Try.prog c F (120, 103, r120) := ⟨Try.f103, [], [[0, 3], [0, 1, 2, 3, 4, 5, 6, 7, 8, 9, 10, 11, 12, 13, 14, 15, 16, 17, 18, 19, 20, 21, 22, 25, 26, 27, 28, 23, 24, 29, 30, 31, 32, 33, 34, 35], [0, 1, 2, 3, 4, 5, 6, 7, 8, 9, 10, 11, 12, 13, 14, 15, 16, 17, 18, 19, 20, 21, 22, 23, 24, 25, 26, 27, 28, 29, 30, 31, 32, 33, 34, 35]], Try.func103, by kernel_rfl, by kernel_rfl, by kernel_rfl⟩
theorem ok121 : FnOk Try.prog c F (121, 104, r121) := ⟨Try.f104, [], [[0, 1, 5]], Try.func104, by kernel_rfl, by kernel_rfl, by kernel_rfl⟩
theorem ok107 : FnOk Try.prog c F (107, 82, r107) := ⟨Try.f82, [3], [], Try.func82, by kernel_rfl, by kernel_rfl, by kernel_rfl⟩
theorem ok124 : FnOk Try.prog c F (124, 107, r124) := ⟨Try.f107, [], [[0, 30, 31, 32], [0, 1, 2, 3, 4, 5, 6, 7, 8, 9, 10, 11, 12, 13, 14, 15, 16, 17, 18, 22, 23, 24, 25, 19, 20, 21, 26, 27, 28, 29, 30, 31], [0, 1, 2, 3, 4, 5, 6, 7, 8, 9, 10, 11, 12, 13, 14, 15, 16, 17, 18, 19, 20, 21, 22, 23, 24, 25, 26, 27, 28, 29, 30, 31]], Try.func107, by kernel_rfl, by kernel_rfl, by kernel_rfl⟩
theorem ok7 : FnOk Try.prog c F (7, 108, r7) := ⟨Try.f108, [], [], Try.func108, by kernel_rfl, by kernel_rfl, by kernel_rfl⟩
theorem ok126 : FnOk Try.prog c F (126, 109, r126) := ⟨Try.f109, [], [[0, 1, 7, 8]], Try.func109, by kernel_rfl, by kernel_rfl, by kernel_rfl⟩
theorem ok125 : FnOk Try.prog c F (125, 110, r125) := ⟨Try.f110, [], [], Try.func110, by kernel_rfl, by kernel_rfl, by kernel_rfl⟩
theorem okT : (c.T.all fun x => x.2.okB Try.prog (mkCfg Try.prog tab tags).ET (mkCfg Try.prog tab tags).SZ x.1) = true := by kernel_rfl
theorem okF : (c.F.all fun x => decide ((lk tab x.2).map (·.1) = some x.1)) = true := by kernel_rfl
theorem okTab : AllT (FnOk Try.prog c F) tab := ⟨ok91, ok67, ok68, ok71, ok80, ok92, ok93, ok94, ok95, ok96, ok102, ok105, ok108, ok99, ok78, ok115, ok110, ok116, ok117, ok118, ok123, ok127, ok5, ok103, ok106, ok135, ok120, ok121, ok107, ok124, ok7, ok126, ok125, trivial⟩
theorem prog (O : Nat) : ProgOk ((mkCfg Try.prog tab tags).at O) c F (fun _ _ _ => none) :=
  mkProg okT okF okTab ⟨⟩ ⟨⟨by kernel_rfl, by kernel_rfl, by kernel_rfl⟩, trivial⟩ O
theorem inI11 : AllT (fun x => F x.1 = some x.2) tI11 := ⟨rfl, rfl, rfl, rfl, rfl, rfl, trivial⟩
theorem inI12 : AllT (fun x => F x.1 = some x.2) tI12 := ⟨rfl, rfl, rfl, rfl, rfl, rfl, rfl, rfl, rfl, trivial⟩
theorem inI16 : AllT (fun x => F x.1 = some x.2) tI16 := ⟨rfl, rfl, rfl, rfl, rfl, rfl, rfl, rfl, rfl, rfl, rfl, trivial⟩
theorem inLChart : AllT (fun x => F x.1 = some x.2) tLChart := ⟨rfl, rfl, rfl, rfl, rfl, rfl, trivial⟩
theorem inLClient : AllT (fun x => F x.1 = some x.2) tLClient := ⟨rfl, rfl, rfl, rfl, rfl, trivial⟩
theorem inLRange : AllT (fun x => F x.1 = some x.2) tLRange := ⟨rfl, rfl, rfl, rfl, rfl, rfl, rfl, rfl, trivial⟩
theorem inLRequest : AllT (fun x => F x.1 = some x.2) tLRequest := ⟨rfl, rfl, rfl, rfl, rfl, trivial⟩
theorem inLibslicesIndexFuncimplRangeimplRange : AllT (fun x => F x.1 = some x.2) tLibslicesIndexFuncimplRangeimplRange := ⟨rfl, trivial⟩
theorem inS01d : AllT (fun x => F x.1 = some x.2) tS01d := ⟨rfl, rfl, rfl, rfl, rfl, rfl, rfl, rfl, trivial⟩
theorem inS11 : AllT (fun x => F x.1 = some x.2) tS11 := ⟨rfl, rfl, rfl, rfl, rfl, rfl, rfl, trivial⟩
theorem inS12 : AllT (fun x => F x.1 = some x.2) tS12 := ⟨rfl, rfl, rfl, rfl, rfl, rfl, rfl, rfl, rfl, rfl, rfl, rfl, trivial⟩
theorem inS16 : AllT (fun x => F x.1 = some x.2) tS16 := ⟨rfl, rfl, rfl, rfl, rfl, rfl, rfl, rfl, rfl, rfl, rfl, rfl, rfl, rfl, trivial⟩
theorem inWNewClient : AllT (fun x => F x.1 = some x.2) tWNewClient := ⟨rfl, trivial⟩
end Go.Proofs.Ytgogajbfiocdbaa.A.ExactNewClient
/- NewClient: the law's function, run on any arguments, answers true. -/
namespace Go.Proofs.Ytgogajbfiocdbaa.A
open Go
set_option linter.unusedSimpArgs false
set_option linter.unusedVariables false
set_option maxHeartbeats 2000000 in
theorem law_ExactNewClient {F : Nat → Option RF} {Z : CallF} (hI11 : Has F tI11) (hI12 : Has F tI12) (hI16 : Has F tI16) (hLChart : Has F tLChart) (hLClient : Has F tLClient) (hLRange : Has F tLRange) (hLRequest : Has F tLRequest) (hLibslicesIndexFuncimplRangeimplRange : Has F tLibslicesIndexFuncimplRangeimplRange) (hS01d : Has F tS01d) (hS11 : Has F tS11) (hS12 : Has F tS12) (hS16 : Has F tS16) (hWNewClient : Has F tWNewClient) (h : Heap) (avs : List V) (hfl : h.floor = h.next) (w : ArgsWf h 8 [.int .i64, shChart] avs) : ∃ h', call F Z 91 avs h = some (.c (.bool true), h') := by
  obtain ⟨id, _, rfl, idw, w1⟩ := ArgsWf.int w
  obtain ⟨cc, _, rfl, cw, w2⟩ := ArgsWf.struct w1
  obtain ⟨c, cp, cv, cok⟩ := Wf.isChart cw
  obtain ⟨cl1, cl2, cl3⟩ := Chart.lenL cv
  obtain rfl := w2.nil
  have f0 : h.floor ≤ h.next := by omega
  rw [call_run F Z (hWNewClient.lk (g := 91) rfl) _ _ rfl]
  obtain ⟨l0, s0, s0l, s0k⟩ := szChart_c hLChart hLRange (Z := Z) cv 1048576 (by omega) (by omega)
  simp only [run0, run1, run2, run3, run4, noSlot, memN, RO.dst, lk, drop, forget, number, Nat.reduceBEq, cut?, splice?, builds, List.length_cons, List.length_nil, List.drop_succ_cons, List.drop_zero, List.take_succ_cons, List.take_zero, List.cons_append, List.nil_append, List.append_nil, List.drop_nil, List.take_nil, Nat.reduceAdd, Nat.reduceLeDiff, Nat.zero_add, Nat.add_zero, ↓reduceIte, Bool.not_true, Bool.not_false, decide_true, decide_false, eq_self, bne_self_eq_false, List.getElem?_cons_zero, List.getElem?_cons_succ, decide_eq_true_eq, Bool.false_eq_true, Bool.true_eq_false, reduceCtorEq, Nat.le_refl, s0, cl1, cl2, cl3]
  by_cases hn0 : l0 < 0
  · simp only [run0, run1, run2, run3, run4, noSlot, memN, RO.dst, lk, drop, forget, number, Nat.reduceBEq, cut?, splice?, builds, List.length_cons, List.length_nil, List.drop_succ_cons, List.drop_zero, List.take_succ_cons, List.take_zero, List.cons_append, List.nil_append, List.append_nil, List.drop_nil, List.take_nil, Nat.reduceAdd, Nat.reduceLeDiff, Nat.zero_add, Nat.add_zero, ↓reduceIte, Bool.not_true, Bool.not_false, decide_true, decide_false, eq_self, bne_self_eq_false, List.getElem?_cons_zero, List.getElem?_cons_succ, decide_eq_true_eq, Bool.false_eq_true, Bool.true_eq_false, reduceCtorEq, Nat.le_refl, hn0]
    exact ⟨_, rfl⟩
  have sm0 := s0k (by omega)
  have flr : h.floor = h.next := hfl
  have Tcv := Chart.okL.lt cv
  obtain ⟨y1, h1, p1, e1, o1, v1, q1⟩ := toChart_c hLChart hLRange (Z := Z) f0 cv sm0
  replace cv := Chart.okL.on cv o1
  have n1 := o1.ext.1
  have g1 := o1.fl
  have f1 := o1.le f0
  obtain ⟨vl1, vt1, vd1⟩ := Chart.lenI v1
  obtain ⟨r2_0, h2, p2_0, e2, o2, v2_0, q2_0⟩ := sNewClient_c hS01d hS11 hS12 hS16 (Z := Z) f1 id v1 cok sm0
  replace cv := Chart.okL.on cv o2
  replace v1 := Chart.okI.on v1 o2
  have n2 := o2.ext.1
  have g2 := o2.fl
  have f2 := o2.le f1
  have Tv2_0 := Client.okI.lt v2_0
  obtain ⟨vl2_0, vt2_0, vd2_0⟩ := Client.lenI v2_0
  obtain ⟨y3, h3, p3, e3, o3, v3, q3⟩ := toChart_c hLChart hLRange (Z := Z) f2 cv sm0
  replace cv := Chart.okL.on cv o3
  replace v1 := Chart.okI.on v1 o3
  replace v2_0 := Client.okI.on v2_0 o3
  have n3 := o3.ext.1
  have g3 := o3.fl
  have f3 := o3.le f2
  have Tv3 := Chart.okI.lt v3
  obtain ⟨vl3, vt3, vd3⟩ := Chart.lenI v3
  obtain ⟨r4_0, h4, p4_0, e4, o4, v4_0, q4_0⟩ := NewClient_c hI11 hI12 hI16 hLibslicesIndexFuncimplRangeimplRange (Z := Z) f3 id v3 cok sm0
  replace cv := Chart.okL.on cv o4
  replace v1 := Chart.okI.on v1 o4
  replace v2_0 := Client.okI.on v2_0 o4
  replace v3 := Chart.okI.on v3 o4
  have n4 := o4.ext.1
  have g4 := o4.fl
  have f4 := o4.le f3
  obtain ⟨vl4_0, vt4_0, vd4_0⟩ := Client.lenI v4_0
  have c1 := eqClient_r hLClient hLChart hLRange hLRequest (Z := Z) v4_0 v2_0
  obtain ⟨y5, hq5, p5, e5, oq5, vq5, qq5⟩ := toChart_c hLChart hLRange (Z := Z) (h := ⟨h4.next, h4.next, h4.get⟩) (Nat.le_refl _) (Chart.okL.up cv _) sm0
  obtain ⟨h5, mq5⟩ : ∃ g, Heap.mk hq5.next h4.floor hq5.get = g := ⟨_, rfl⟩
  have o5 : On h4 h5 := by rw [← mq5]; exact ⟨⟨oq5.ext.1, oq5.ext.2⟩, rfl⟩
  have v5 := Chart.okI.up vq5 h4.floor
  rw [mq5] at v5
  have q5 : Fre h4 p5 := ⟨qq5.lo, qq5.nd⟩
  replace cv := Chart.okL.on cv o5
  replace v1 := Chart.okI.on v1 o5
  replace v2_0 := Client.okI.on v2_0 o5
  replace v3 := Chart.okI.on v3 o5
  replace v4_0 := Client.okI.on v4_0 o5
  have n5 := o5.ext.1
  have g5 := o5.fl
  have f5 := o5.le f4
  obtain ⟨vl5, vt5, vd5⟩ := Chart.lenI v5
  have c2 := eqChart_r hLChart hLRange (Z := Z) (h := ⟨h5.next, h5.next, h5.get⟩) (Chart.okI.up v3 _) (Chart.okI.up v5 _)
  have hb1 := Chart.wt_le sm0
  have hb2 := c.wt_nn
  have hb3 := Client.wt_le (newClient_small (id := id) sm0)
  have hb4 := (newClient id c).wt_nn
  have lo6 : ∀ id, id ∈ p3 → h5.floor ≤ id := fun id hid => by have := q3.lo id hid; omega
  obtain ⟨h6, m6, k6, u6⟩ := markChart_r hLChart hLRange (Z := Z) v3 q3.nd lo6 (1) (by omega) (by omega)
  replace cv := Chart.okL.mk' cv k6 fun id h1 h2 => by have a1 := q3.lo id h2; have a2 := Tcv id h1; omega
  replace v2_0 := Client.okI.mk' v2_0 k6 fun id h1 h2 => by have a1 := q3.lo id h2; have a2 := Tv2_0 id h1; omega
  replace v4_0 := Client.okI.mk' v4_0 k6 fun id h1 h2 => by have a1 := q3.lo id h2; have a2 := Tv3 id h2; have a3 := q4_0.lo id h1; omega
  have n6 := k6.next
  have g6 := k6.fl
  have f6 : h6.floor ≤ h6.next := by omega
  replace v3 := u6
  have hk6 : ¬ (1 + c.wt : Int) < 0 := by omega
  have c3 := eqClient_r hLClient hLChart hLRange hLRequest (Z := Z) v4_0 v2_0
  have lo7 : ∀ id, id ∈ p4_0 → h6.floor ≤ id := fun id hid => by have := q4_0.lo id hid; omega
  obtain ⟨h7, m7, k7, u7⟩ := markClient_r hLClient hLChart hLRange hLRequest (Z := Z) v4_0 q4_0.nd lo7 (1) (by omega) (by omega)
  replace cv := Chart.okL.mk' cv k7 fun id h1 h2 => by have a1 := q4_0.lo id h2; have a2 := Tcv id h1; omega
  replace v2_0 := Client.okI.mk' v2_0 k7 fun id h1 h2 => by have a1 := q4_0.lo id h2; have a2 := Tv2_0 id h1; omega
  have n7 := k7.next
  have g7 := k7.fl
  have f7 : h7.floor ≤ h7.next := by omega
  replace v4_0 := u7
  have hkk : ¬ (1 + (newClient id c).wt : Int) < 0 := by omega
  have d4 := heldClient_r hLClient hLChart hLRange hLRequest (Z := Z) v4_0 (by omega) (by omega)
  have hh5 : ¬ (1 + (newClient id c).wt : Int) < 0 := by omega
  obtain ⟨y8, h8, p8, e8, o8, v8, q8⟩ := toChart_c hLChart hLRange (Z := Z) f7 cv sm0
  replace cv := Chart.okL.on cv o8
  replace v2_0 := Client.okI.on v2_0 o8
  replace v4_0 := Client.okI.on v4_0 o8
  have n8 := o8.ext.1
  have g8 := o8.fl
  have f8 := o8.le f7
  obtain ⟨vl8, vt8, vd8⟩ := Chart.lenI v8
  obtain ⟨r9_0, h9, p9_0, e9, o9, v9_0, q9_0⟩ := NewClient_c hI11 hI12 hI16 hLibslicesIndexFuncimplRangeimplRange (Z := Z) f8 id v8 cok sm0
  replace cv := Chart.okL.on cv o9
  replace v2_0 := Client.okI.on v2_0 o9
  replace v4_0 := Client.okI.on v4_0 o9
  replace v8 := Chart.okI.on v8 o9
  have n9 := o9.ext.1
  have g9 := o9.fl
  have f9 := o9.le f8
  obtain ⟨vl9_0, vt9_0, vd9_0⟩ := Client.lenI v9_0
  have c6 := eqClient_r hLClient hLChart hLRange hLRequest (Z := Z) v9_0 v2_0
  have d7 := heldClient_r hLClient hLChart hLRange hLRequest (Z := Z) v4_0 (by omega) (by omega)
  have hh8 : ¬ (1 + (newClient id c).wt : Int) < 0 := by omega
  simp only [run0, run1, run2, run3, run4, noSlot, memN, RO.dst, lk, drop, forget, number, Nat.reduceBEq, cut?, splice?, builds, List.length_cons, List.length_nil, List.drop_succ_cons, List.drop_zero, List.take_succ_cons, List.take_zero, List.cons_append, List.nil_append, List.append_nil, List.drop_nil, List.take_nil, Nat.reduceAdd, Nat.reduceLeDiff, Nat.zero_add, Nat.add_zero, ↓reduceIte, Bool.not_true, Bool.not_false, decide_true, decide_false, eq_self, bne_self_eq_false, List.getElem?_cons_zero, List.getElem?_cons_succ, decide_eq_true_eq, Bool.false_eq_true, Bool.true_eq_false, reduceCtorEq, Nat.le_refl, hn0, cl1, cl2, cl3, e1, vl1, vt1, vd1, e2, vl2_0, vt2_0, vd2_0, e3, vl3, vt3, vd3, e4, vl4_0, vt4_0, vd4_0, c1, mq5, e5, vl5, vt5, vd5, c2, m6, hk6, c3, m7, hkk, d4, hh5, e8, vl8, vt8, vd8, e9, vl9_0, vt9_0, vd9_0, c6, d7, hh8]
  exact ⟨_, rfl⟩
end Go.Proofs.Ytgogajbfiocdbaa.A
/- FnExactNewClient: the row's statement, from the law of the abstract run. No condition. -/
namespace Go.Proofs.Ytgogajbfiocdbaa.A.ExactNewClient
open Go Go.ChangeShapes Go.WideShapes Go.ChangeAt Go.RowKit
theorem own : ownKnob Try.prog.godebug = none := by kernel_rfl
set_option maxRecDepth 100000 in
theorem lifted (os : Os) (started : os.Started) (H : Type) (enc : TypeId × Value → H) :
    ReturnsInHanded {} Try.checked os 13 .any (Rows.fnExactNewClientSpec.pre6 enc Try.prog Try.f13 Rows.fnExactNewClientRow.domain false) (Rows.fnExactNewClientSpec.post enc Try.prog Try.f13 false true false false) := by
  refine returnsInHanded_of_change_sized (C := Try.checked) own started (by kernel_rfl) Try.func13
    (ChangeSpec.witness6 (enc := enc) (C := Try.checked) false ⟨#[], #[.int .i64 0, .agg #[.int .i64 0, .slice none 0 0, .bool false, .int .u64 0, .int .i64 0]], []⟩ 8 (by kernel_rfl) (by kernel_rfl) (by kernel_rfl) (by kernel_rfl)) ?_
  intro W base args ds gs before hval hW _ _ _
  have hW' := hW
  obtain ⟨p, q, hA, hV, rfl, hfz, hnd⟩ := hW
  obtain ⟨rfl, rfl⟩ := trodVars_none hV
  have r0 : DataW.TrodAll enc Try.prog W 0 (fun _ => true) true [3, 42] args.toList ds p := hA
  obtain ⟨_, _, d0, _, _, _, _, rfl, _, _, r1⟩ := trodAll_cons r0
  obtain ⟨_, _, d1, _, _, _, _, rfl, _, _, r2⟩ := trodAll_cons r1
  obtain ⟨_, rfl, _⟩ := trodAll_nil r2
  refine (law_calls (ts := [3, 42]) (ss := [(.int .i64), shChart]) prog (show (mkCfg Try.prog tab tags).G 91 = some 13 from by kernel_rfl) ⟨show shIs Try.prog (mkCfg Try.prog tab tags).ET (mkCfg Try.prog tab tags).SZ 8 3 (.int .i64) = true from by kernel_rfl, show shIs Try.prog (mkCfg Try.prog tab tags).ET (mkCfg Try.prog tab tags).SZ 8 42 shChart = true from by kernel_rfl, trivial⟩ (law_ExactNewClient inI11 inI12 inI16 inLChart inLClient inLRange inLRequest inLibslicesIndexFuncimplRangeimplRange inS01d inS11 inS12 inS16 inWNewClient) (fun j t v h1 => hval j t v (by rw [Try.params13]; exact (List.getElem?_toArray ..).trans h1)) hA).mono fun e W' ⟨he, bel⟩ => ?_
  subst he
  exact ⟨_, rfl, _, _, _, [], _, [], hW', trodAll_mk1 (shut_bool Try.underlying4 _), trodAll_below (by kernel_rfl) bel _ _ _ _ (by kernel_rfl) hA hA.lt, rfl, bel.frame _, fun h => by cases h⟩
theorem over : Rows.fnExactNewClientRow.holds Try.pinned (OpenSpec.ofChange Rows.fnExactNewClientSpec) :=
  OpenClaim.holds_of_wide 13 Try.f13 rfl rfl rfl rfl rfl rfl rfl ⟨rfl, rfl, rfl, rfl, rfl⟩ rfl rfl rfl rfl rfl (by kernel_rfl) Try.func13 (by kernel_rfl)
    (of_decide_eq_true (by kernel_rfl)) (by unfold Func.isWrapper; first | (rw [if_pos (by decide +kernel)]; kernel_rfl) | (rw [if_neg (by decide +kernel)]; exact ⟨rfl, rfl⟩))
    (fun os started H enc _ => lifted os started H enc)
end Go.Proofs.Ytgogajbfiocdbaa.A.ExactNewClient
namespace Go.Proofs.Ytgogajbfiocdbaa
/-- The row. -/
theorem fnExactNewClient_holds : Rows.FnExactNewClientSaid := A.ExactNewClient.over
#print axioms fnExactNewClient_holds
end Go.Proofs.Ytgogajbfiocdbaa
