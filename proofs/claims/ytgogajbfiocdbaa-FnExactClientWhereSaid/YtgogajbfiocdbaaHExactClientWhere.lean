/- FnExactClientWhere: the statement, from the law of the abstract run. No condition. -/
import Derived.Test.YtgogajbfiocdbaaHCExactClientWhere2
import Derived.Test.YtgogajbfiocdbaaB6
import Derived.Test.YtgogajbfiocdbaaProg
import Derived.Test.YtgogajbfiocdbaaRows
import Derived.ProofKit
import Derived.OpenShut
import Derived.ShutString
import Derived.ChangeOld
import Derived.Below
import Derived.SizedLaws
/- The functions that FnExactClientWhere reaches: the program's code against the compact code, entry by entry. -/
namespace Go.Proofs.Ytgogajbfiocdbaa.A.ExactClientWhere
open Go
def c : CC where
  T := [(3, ⟨1, 8, false, some [.int .i64 0], (.int .i64)⟩),
    (4, ⟨1, 1, false, some [.bool false], .bool⟩),
    (29, ⟨1, 8, false, some [.int .u64 0], (.int .u64)⟩),
    (40, ⟨1, 24, false, some [.nil], (.slice 155 8)⟩),
    (42, ⟨5, 56, true, some [.int .i64 0, .nil, .bool false, .int .u64 0, .int .i64 0], (.struct [(0, 1, false), (1, 1, false), (2, 1, false), (3, 1, false), (4, 1, false)])⟩),
    (46, ⟨1, 24, false, some [.nil], (.slice 133 7)⟩),
    (48, ⟨5, 56, true, some [.int .i64 0, .nil, .bool false, .int .u64 0, .int .i64 0], (.struct [(0, 1, false), (1, 1, false), (2, 1, false), (3, 1, false), (4, 1, false)])⟩),
    (63, ⟨5, 40, true, some [.int .i64 0, .int .i64 0, .int .u64 0, .int .u64 0, .int .i64 0], (.struct [(0, 1, false), (1, 1, false), (2, 1, false), (3, 1, false), (4, 1, false)])⟩),
    (65, ⟨14, 128, true, some [.int .i64 0, .int .i64 0, .int .i64 0, .nil, .bool false, .int .u64 0, .int .i64 0, .bool false, .int .i64 0, .int .i64 0, .int .i64 0, .int .u64 0, .int .u64 0, .int .i64 0], (.struct [(0, 1, false), (1, 1, false), (2, 5, true), (7, 1, false), (8, 1, false), (9, 5, true)])⟩),
    (68, ⟨5, 40, true, some [.int .i64 0, .int .i64 0, .int .u64 0, .int .u64 0, .int .i64 0], (.struct [(0, 1, false), (1, 1, false), (2, 1, false), (3, 1, false), (4, 1, false)])⟩),
    (70, ⟨14, 128, true, some [.int .i64 0, .int .i64 0, .int .i64 0, .nil, .bool false, .int .u64 0, .int .i64 0, .bool false, .int .i64 0, .int .i64 0, .int .i64 0, .int .u64 0, .int .u64 0, .int .i64 0], (.struct [(0, 1, false), (1, 1, false), (2, 5, true), (7, 1, false), (8, 1, false), (9, 5, true)])⟩),
    (133, ⟨3, 24, true, some [.int .u64 0, .int .u64 0, .int .i64 0], (.struct [(0, 1, false), (1, 1, false), (2, 1, false)])⟩),
    (155, ⟨3, 24, true, some [.int .u64 0, .int .u64 0, .int .i64 0], (.struct [(0, 1, false), (1, 1, false), (2, 1, false)])⟩)]
  F := [(12, 88), (26, 67), (27, 69), (28, 68), (30, 71), (42, 76), (43, 78), (44, 77), (46, 80), (54, 89), (55, 90), (70, 5), (77, 102), (78, 103), (79, 104), (80, 105), (81, 106), (82, 107), (83, 108), (85, 99), (86, 109), (87, 110), (103, 120), (104, 121), (105, 122), (106, 123), (107, 124), (108, 7), (109, 126), (110, 125), (111, 127)]
  eqT := [(68, [.i .i64, .i .i64, .i .u64, .i .u64, .i .i64])]
  adds := []
def F : Nat → Option RF := lk (tI11 ++ tI12 ++ tI16 ++ tLChart ++ tLClient ++ tLRange ++ tLRequest ++ tLibslicesIndexFuncimplRangeimplRange ++ tS01d ++ tS11 ++ tS12 ++ tS16 ++ tWClientWhere)
def tab : List (Nat × FuncId × RF) := [(88, 12, r88), (76, 42, r76), (77, 44, r77), (80, 46, r80), (89, 54, r89), (90, 55, r90), (67, 26, r67), (68, 28, r68), (109, 86, r109), (71, 30, r71), (99, 85, r99), (69, 27, r69), (78, 43, r78), (107, 82, r107), (110, 87, r110), (102, 77, r102), (105, 80, r105), (108, 83, r108), (103, 78, r103), (104, 79, r104), (5, 70, r5), (126, 109, r126), (125, 110, r125), (106, 81, r106), (123, 106, r123), (127, 111, r127), (120, 103, r120), (121, 104, r121), (122, 105, r122), (124, 107, r124), (7, 108, r7)]
def tags : List (Nat × TypeId × Nat) := [(7, 133, 3), (8, 155, 3)]
theorem ok88 : FnOk Try.prog c F (88, 12, r88) := ⟨Try.f12, [], [[0, 1, 2, 3, 4], [0, 1, 2, 3, 4]], Try.func12, by kernel_rfl, by kernel_rfl, by kernel_rfl⟩
theorem ok76 : FnOk Try.prog c F (76, 42, r76) := ⟨Try.f42, [], [], Try.func42, by kernel_rfl, by kernel_rfl, by kernel_rfl⟩
theorem ok77 : FnOk Try.prog c F (77, 44, r77) := ⟨Try.f44, [], [], Try.func44, by kernel_rfl, by kernel_rfl, by kernel_rfl⟩
theorem ok80 : FnOk Try.prog c F (80, 46, r80) := ⟨Try.f46, [], [], Try.func46, by kernel_rfl, by kernel_rfl, by kernel_rfl⟩
theorem ok89 : FnOk Try.prog c F (89, 54, r89) := ⟨Try.f54, [], [], Try.func54, by kernel_rfl, by kernel_rfl, by kernel_rfl⟩
theorem ok90 : FnOk Try.prog c F (90, 55, r90) := ⟨Try.f55, [], [[6, 0, 1, 2, 3, 4, 5, 7, 8, 9, 10, 11], [0, 1, 2, 3, 4, 5, 6, 7, 8, 9, 10, 11]], Try.func55, by kernel_rfl, by kernel_rfl, by kernel_rfl⟩
theorem ok67 : FnOk Try.prog c F (67, 26, r67) := ⟨Try.f26, [], [], Try.func26, by kernel_rfl, by kernel_rfl, by kernel_rfl⟩
theorem ok68 : FnOk Try.prog c F (68, 28, r68) := ⟨Try.f28, [], [], Try.func28, by kernel_rfl, by kernel_rfl, by kernel_rfl⟩
theorem ok109 : FnOk Try.prog c F (109, 86, r109) := ⟨Try.f86, [], [], Try.func86, by kernel_rfl, by kernel_rfl, by kernel_rfl⟩
theorem ok71 : FnOk Try.prog c F (71, 30, r71) := ⟨Try.f30, [], [], Try.func30, by kernel_rfl, by kernel_rfl, by kernel_rfl⟩
theorem ok99 : FnOk Try.prog c F (99, 85, r99) := ⟨Try.f85, [], [], Try.func85, by kernel_rfl, by kernel_rfl, by kernel_rfl⟩
theorem ok69 : FnOk Try.prog c F (69, 27, r69) := ⟨Try.f27, [], [[4, 0, 1, 2, 3, 9, 10, 5, 6, 7, 8, 11, 12], [0, 1, 2, 3, 4, 5, 6, 7, 8, 11, 9, 10, 12]], Try.func27, by kernel_rfl, by kernel_rfl, by kernel_rfl⟩
theorem ok78 : FnOk Try.prog c F (78, 43, r78) := ⟨Try.f43, [], [], Try.func43, by kernel_rfl, by kernel_rfl, by kernel_rfl⟩
theorem ok107 : FnOk Try.prog c F (107, 82, r107) := ⟨Try.f82, [3], [], Try.func82, by kernel_rfl, by kernel_rfl, by kernel_rfl⟩
theorem ok110 : FnOk Try.prog c F (110, 87, r110) := ⟨Try.f87, [], [], Try.func87, by kernel_rfl, by kernel_rfl, by kernel_rfl⟩
theorem ok102 : FnOk Try.prog c F (102, 77, r102) := ⟨Try.f77, [], [], Try.func77, by kernel_rfl, by kernel_rfl, by kernel_rfl⟩
theorem ok105 : FnOk Try.prog c F (105, 80, r105) := ⟨Try.f80, [], [[0, 3, 4]], Try.func80, by kernel_rfl, by kernel_rfl, by kernel_rfl⟩
theorem ok108 : FnOk Try.prog c F (108, 83, r108) := ⟨Try.f83, [], [[0, 1, 5], [0, 1, 2, 4, 5, 6, 3, 7, 8, 9], [0, 1, 2, 3, 4, 5, 6, 7, 8, 9]], Try.func83, by kernel_rfl, by kernel_rfl, by kernel_rfl⟩
theorem ok103 : FnOk Try.prog c F (103, 78, r103) := ⟨Try.f78, [], [[0, 1, 2, 3, 4, 5, 6, 7, 10, 8, 9, 11, 12, 13, 14, 15, 16, 17, 18], [0, 1, 2, 3, 4, 5, 6, 7, 8, 9, 10, 11, 12, 13, 14, 15, 16, 17, 18]], Try.func78, by kernel_rfl, by kernel_rfl, by kernel_rfl⟩
theorem ok104 : FnOk Try.prog c F (104, 79, r104) := ⟨Try.f79, [], [[0, 1, 5]], Try.func79, by kernel_rfl, by kernel_rfl, by kernel_rfl⟩
theorem ok5 : FnOk Try.prog c F (5, 70, r5) := ⟨Try.f70, [], [], Try.func70, by kernel_rfl, by kernel_rfl, by kernel_rfl⟩
theorem ok126 : FnOk Try.prog c F (126, 109, r126) := ⟨Try.f109, [], [[0, 1, 7, 8]], Try.func109, by kernel_rfl, by kernel_rfl, by kernel_rfl⟩
theorem ok125 : FnOk Try.prog c F (125, 110, r125) := ⟨Try.f110, [], [], Try.func110, by kernel_rfl, by kernel_rfl, by kernel_rfl⟩
theorem ok106 : FnOk Try.prog c F (106, 81, r106) := ⟨Try.f81, [], [[9, 0, 1, 2, 3, 4, 5, 6, 7, 8, 10], [0, 1, 2, 3, 4, 5, 6, 7, 8, 9, 10]], Try.func81, by kernel_rfl, by kernel_rfl, by kernel_rfl⟩
theorem ok123 : FnOk Try.prog c F (123, 106, r123) := ⟨Try.f106, [], [], Try.func106, by kernel_rfl, by kernel_rfl, by kernel_rfl⟩
theorem ok127 : FnOk Try.prog c F (127, 111, r127) := ⟨Try.f111, [], [], Try.func111, by kernel_rfl, by kernel_rfl, by kernel_rfl⟩
theorem ok120 : FnOk Try.prog c F (120, 103, r120) := ⟨Try.f103, [], [[0, 3], [0, 1, 2, 3, 4, 5, 6, 7, 8, 9, 10, 11, 12, 13, 14, 15, 16, 17, 18, 19, 20, 21, 22, 25, 26, 27, 28, 23, 24, 29, 30, 31, 32, 33, 34, 35], [0, 1, 2, 3, 4, 5, 6, 7, 8, 9, 10, 11, 12, 13, 14, 15, 16, 17, 18, 19, 20, 21, 22, 23, 24, 25, 26, 27, 28, 29, 30, 31, 32, 33, 34, 35]], Try.func103, by kernel_rfl, by kernel_rfl, by kernel_rfl⟩
theorem ok121 : FnOk Try.prog c F (121, 104, r121) := ⟨Try.f104, [], [[0, 1, 5]], Try.func104, by kernel_rfl, by kernel_rfl, by kernel_rfl⟩
theorem ok122 : FnOk Try.prog c F (122, 105, r122) := ⟨Try.f105, [], [], Try.func105, by kernel_rfl, by kernel_rfl, by kernel_rfl⟩
theorem ok124 : FnOk Try.prog c F (124, 107, r124) := ⟨Try.f107, [], [[0, 30, 31, 32], [0, 1, 2, 3, 4, 5, 6, 7, 8, 9, 10, 11, 12, 13, 14, 15, 16, 17, 18, 22, 23, 24, 25, 19, 20, 21, 26, 27, 28, 29, 30, 31], [0, 1, 2, 3, 4, 5, 6, 7, 8, 9, 10, 11, 12, 13, 14, 15, 16, 17, 18, 19, 20, 21, 22, 23, 24, 25, 26, 27, 28, 29, 30, 31]], Try.func107, by kernel_rfl, by kernel_rfl, by kernel_rfl⟩
theorem ok7 : FnOk Try.prog c F (7, 108, r7) := ⟨Try.f108, [], [], Try.func108, by kernel_rfl, by kernel_rfl, by kernel_rfl⟩
theorem okT : (c.T.all fun x => x.2.okB Try.prog (mkCfg Try.prog tab tags).ET (mkCfg Try.prog tab tags).SZ x.1) = true := by kernel_rfl
theorem okF : (c.F.all fun x => decide ((lk tab x.2).map (·.1) = some x.1)) = true := by kernel_rfl
theorem okTab : AllT (FnOk Try.prog c F) tab := ⟨ok88, ok76, ok77, ok80, ok89, ok90, ok67, ok68, ok109, ok71, ok99, ok69, ok78, ok107, ok110, ok102, ok105, ok108, ok103, ok104, ok5, ok126, ok125, ok106, ok123, ok127, ok120, ok121, ok122, ok124, ok7, trivial⟩
theorem prog (O : Nat) : ProgOk ((mkCfg Try.prog tab tags).at O) c F (fun _ _ _ => none) :=
  mkProg okT okF okTab ⟨⟩ ⟨⟨by kernel_rfl, by kernel_rfl, by kernel_rfl⟩, trivial⟩ O
theorem inI11 : AllT (fun x => F x.1 = some x.2) tI11 := ⟨rfl, rfl, rfl, rfl, rfl, rfl, trivial⟩
theorem inI12 : AllT (fun x => F x.1 = some x.2) tI12 := ⟨rfl, rfl, rfl, rfl, rfl, rfl, rfl, rfl, rfl, trivial⟩
theorem inI16 : AllT (fun x => F x.1 = some x.2) tI16 := ⟨rfl, rfl, rfl, rfl, rfl, rfl, rfl, rfl, rfl, rfl, rfl, trivial⟩
theorem inLChart : AllT (fun x => F x.1 = some x.2) tLChart := ⟨rfl, rfl, rfl, rfl, rfl, rfl, trivial⟩
theorem inLClient : AllT (fun x => F x.1 = some x.2) tLClient := ⟨rfl, rfl, rfl, rfl, rfl, trivial⟩
theorem inLRange : AllT (fun x => F x.1 = some x.2) tLRange := ⟨rfl, rfl, rfl, rfl, rfl, rfl, rfl, rfl, trivial⟩
theorem inLRequest : AllT (fun x => F x.1 = some x.2) tLRequest := ⟨rfl, rfl, rfl, rfl, rfl, trivial⟩
theorem inLibslicesIndexFuncimplRangeimplRange : AllT (fun x => F x.1 = some x.2) tLibslicesIndexFuncimplRangeimplRange := ⟨rfl, trivial⟩
theorem inS01d : AllT (fun x => F x.1 = some x.2) tS01d := ⟨rfl, rfl, rfl, rfl, rfl, rfl, rfl, rfl, trivial⟩
theorem inS11 : AllT (fun x => F x.1 = some x.2) tS11 := ⟨rfl, rfl, rfl, rfl, rfl, rfl, rfl, trivial⟩
theorem inS12 : AllT (fun x => F x.1 = some x.2) tS12 := ⟨rfl, rfl, rfl, rfl, rfl, rfl, rfl, rfl, rfl, rfl, rfl, rfl, trivial⟩
theorem inS16 : AllT (fun x => F x.1 = some x.2) tS16 := ⟨rfl, rfl, rfl, rfl, rfl, rfl, rfl, rfl, rfl, rfl, rfl, rfl, rfl, rfl, trivial⟩
theorem inWClientWhere : AllT (fun x => F x.1 = some x.2) tWClientWhere := ⟨rfl, trivial⟩
end Go.Proofs.Ytgogajbfiocdbaa.A.ExactClientWhere
/- ClientWhere: the law's function, run on any arguments, answers true. -/
namespace Go.Proofs.Ytgogajbfiocdbaa.A
open Go
set_option linter.unusedSimpArgs false
set_option linter.unusedVariables false
set_option maxHeartbeats 2000000 in
theorem law_ExactClientWhere {F : Nat → Option RF} {Z : CallF} (hI11 : Has F tI11) (hI12 : Has F tI12) (hI16 : Has F tI16) (hLChart : Has F tLChart) (hLClient : Has F tLClient) (hLRange : Has F tLRange) (hLRequest : Has F tLRequest) (hLibslicesIndexFuncimplRangeimplRange : Has F tLibslicesIndexFuncimplRangeimplRange) (hS01d : Has F tS01d) (hS11 : Has F tS11) (hS12 : Has F tS12) (hS16 : Has F tS16) (hWClientWhere : Has F tWClientWhere) (h : Heap) (avs : List V) (hfl : h.floor = h.next) (w : ArgsWf h 8 [shClient, .int .u64] avs) : ∃ h', call F Z 88 avs h = some (.c (.bool true), h') := by
  obtain ⟨cc, _, rfl, cw, w1⟩ := ArgsWf.struct w
  obtain ⟨c, cp, cv, cok⟩ := Wf.isClient cw
  obtain ⟨cl1, cl2, cl3⟩ := Client.lenL cv
  obtain ⟨id, _, rfl, idw, w2⟩ := ArgsWf.int w1
  obtain rfl := w2.nil
  have f0 : h.floor ≤ h.next := by omega
  rw [call_run F Z (hWClientWhere.lk (g := 88) rfl) _ _ rfl]
  obtain ⟨l0, s0, s0l, s0k⟩ := szClient_c hLClient hLChart hLRange hLRequest (Z := Z) cv 1048576 (by omega) (by omega)
  simp only [run0, run1, run2, run3, run4, noSlot, memN, RO.dst, lk, drop, forget, number, Nat.reduceBEq, cut?, splice?, builds, List.length_cons, List.length_nil, List.drop_succ_cons, List.drop_zero, List.take_succ_cons, List.take_zero, List.cons_append, List.nil_append, List.append_nil, List.drop_nil, List.take_nil, Nat.reduceAdd, Nat.reduceLeDiff, Nat.zero_add, Nat.add_zero, ↓reduceIte, Bool.not_true, Bool.not_false, decide_true, decide_false, eq_self, bne_self_eq_false, List.getElem?_cons_zero, List.getElem?_cons_succ, decide_eq_true_eq, Bool.false_eq_true, Bool.true_eq_false, reduceCtorEq, Nat.le_refl, s0, cl1, cl2, cl3]
  by_cases hn0 : l0 < 0
  · simp only [run0, run1, run2, run3, run4, noSlot, memN, RO.dst, lk, drop, forget, number, Nat.reduceBEq, cut?, splice?, builds, List.length_cons, List.length_nil, List.drop_succ_cons, List.drop_zero, List.take_succ_cons, List.take_zero, List.cons_append, List.nil_append, List.append_nil, List.drop_nil, List.take_nil, Nat.reduceAdd, Nat.reduceLeDiff, Nat.zero_add, Nat.add_zero, ↓reduceIte, Bool.not_true, Bool.not_false, decide_true, decide_false, eq_self, bne_self_eq_false, List.getElem?_cons_zero, List.getElem?_cons_succ, decide_eq_true_eq, Bool.false_eq_true, Bool.true_eq_false, reduceCtorEq, Nat.le_refl, hn0]
    exact ⟨_, rfl⟩
  have sm0 := s0k (by omega)
  have flr : h.floor = h.next := hfl
  obtain ⟨y1, h1, p1, e1, o1, v1, q1⟩ := toClient_c hLClient hLChart hLRange hLRequest (Z := Z) f0 cv sm0
  replace cv := Client.okL.on cv o1
  have n1 := o1.ext.1
  have g1 := o1.fl
  have f1 := o1.le f0
  obtain ⟨vl1, vt1, vd1⟩ := Client.lenI v1
  obtain ⟨h2, e2, o2⟩ := sClientWhere_c hS01d hS11 hS12 hS16 (Z := Z) f1 v1 id cok (wfU idw)
  replace cv := Client.okL.on cv o2
  replace v1 := Client.okI.on v1 o2
  have n2 := o2.ext.1
  have g2 := o2.fl
  have f2 := o2.le f1
  obtain ⟨y3, h3, p3, e3, o3, v3, q3⟩ := toClient_c hLClient hLChart hLRange hLRequest (Z := Z) f2 cv sm0
  replace cv := Client.okL.on cv o3
  replace v1 := Client.okI.on v1 o3
  have n3 := o3.ext.1
  have g3 := o3.fl
  have f3 := o3.le f2
  obtain ⟨vl3, vt3, vd3⟩ := Client.lenI v3
  obtain ⟨h4, e4, o4⟩ := ClientWhere_c hI11 hI12 hI16 hLibslicesIndexFuncimplRangeimplRange (Z := Z) f3 v3 id cok (wfU idw)
  replace cv := Client.okL.on cv o4
  replace v1 := Client.okI.on v1 o4
  replace v3 := Client.okI.on v3 o4
  have n4 := o4.ext.1
  have g4 := o4.fl
  have f4 := o4.le f3
  obtain ⟨y5, hq5, p5, e5, oq5, vq5, qq5⟩ := toClient_c hLClient hLChart hLRange hLRequest (Z := Z) (h := ⟨h4.next, h4.next, h4.get⟩) (Nat.le_refl _) (Client.okL.up cv _) sm0
  obtain ⟨h5, mq5⟩ : ∃ g, Heap.mk hq5.next h4.floor hq5.get = g := ⟨_, rfl⟩
  have o5 : On h4 h5 := by rw [← mq5]; exact ⟨⟨oq5.ext.1, oq5.ext.2⟩, rfl⟩
  have v5 := Client.okI.up vq5 h4.floor
  rw [mq5] at v5
  have q5 : Fre h4 p5 := ⟨qq5.lo, qq5.nd⟩
  replace cv := Client.okL.on cv o5
  replace v1 := Client.okI.on v1 o5
  replace v3 := Client.okI.on v3 o5
  have n5 := o5.ext.1
  have g5 := o5.fl
  have f5 := o5.le f4
  obtain ⟨vl5, vt5, vd5⟩ := Client.lenI v5
  have c1 := eqClient_r hLClient hLChart hLRange hLRequest (Z := Z) (h := ⟨h5.next, h5.next, h5.get⟩) (Client.okI.up v3 _) (Client.okI.up v5 _)
  simp only [run0, run1, run2, run3, run4, noSlot, memN, RO.dst, lk, drop, forget, number, Nat.reduceBEq, cut?, splice?, builds, List.length_cons, List.length_nil, List.drop_succ_cons, List.drop_zero, List.take_succ_cons, List.take_zero, List.cons_append, List.nil_append, List.append_nil, List.drop_nil, List.take_nil, Nat.reduceAdd, Nat.reduceLeDiff, Nat.zero_add, Nat.add_zero, ↓reduceIte, Bool.not_true, Bool.not_false, decide_true, decide_false, eq_self, bne_self_eq_false, List.getElem?_cons_zero, List.getElem?_cons_succ, decide_eq_true_eq, Bool.false_eq_true, Bool.true_eq_false, reduceCtorEq, Nat.le_refl, hn0, cl1, cl2, cl3, e1, vl1, vt1, vd1, e2, e3, vl3, vt3, vd3, e4, mq5, e5, vl5, vt5, vd5, c1]
  exact ⟨_, rfl⟩
end Go.Proofs.Ytgogajbfiocdbaa.A
/- FnExactClientWhere: the row's statement, from the law of the abstract run. No condition. -/
namespace Go.Proofs.Ytgogajbfiocdbaa.A.ExactClientWhere
open Go Go.ChangeShapes Go.WideShapes Go.ChangeAt Go.RowKit
theorem own : ownKnob Try.prog.godebug = none := by kernel_rfl
set_option maxRecDepth 100000 in
theorem lifted (os : Os) (started : os.Started) (H : Type) (enc : TypeId × Value → H) :
    ReturnsInHanded {} Try.checked os 12 .any (Rows.fnExactClientWhereSpec.pre6 enc Try.prog Try.f12 Rows.fnExactClientWhereRow.domain false) (Rows.fnExactClientWhereSpec.post enc Try.prog Try.f12 false true false false) := by
  refine returnsInHanded_of_change_sized (C := Try.checked) own started (by kernel_rfl) Try.func12
    (ChangeSpec.witness6 (enc := enc) (C := Try.checked) false ⟨#[], #[.agg #[.int .i64 0, .int .i64 0, .int .i64 0, .slice none 0 0, .bool false, .int .u64 0, .int .i64 0, .bool false, .int .i64 0, .int .i64 0, .int .i64 0, .int .u64 0, .int .u64 0, .int .i64 0], .int .u64 0], []⟩ 8 (by kernel_rfl) (by kernel_rfl) (by kernel_rfl) (by kernel_rfl)) ?_
  intro W base args ds gs before hval hW _ _ _
  have hW' := hW
  obtain ⟨p, q, hA, hV, rfl, hfz, hnd⟩ := hW
  obtain ⟨rfl, rfl⟩ := trodVars_none hV
  have r0 : DataW.TrodAll enc Try.prog W 0 (fun _ => true) true [65, 29] args.toList ds p := hA
  obtain ⟨_, _, d0, _, _, _, _, rfl, _, _, r1⟩ := trodAll_cons r0
  obtain ⟨_, _, d1, _, _, _, _, rfl, _, _, r2⟩ := trodAll_cons r1
  obtain ⟨_, rfl, _⟩ := trodAll_nil r2
  refine (law_calls (ts := [65, 29]) (ss := [shClient, (.int .u64)]) prog (show (mkCfg Try.prog tab tags).G 88 = some 12 from by kernel_rfl) ⟨show shIs Try.prog (mkCfg Try.prog tab tags).ET (mkCfg Try.prog tab tags).SZ 8 65 shClient = true from by kernel_rfl, show shIs Try.prog (mkCfg Try.prog tab tags).ET (mkCfg Try.prog tab tags).SZ 8 29 (.int .u64) = true from by kernel_rfl, trivial⟩ (law_ExactClientWhere inI11 inI12 inI16 inLChart inLClient inLRange inLRequest inLibslicesIndexFuncimplRangeimplRange inS01d inS11 inS12 inS16 inWClientWhere) (fun j t v h1 => hval j t v (by rw [Try.params12]; exact (List.getElem?_toArray ..).trans h1)) hA).mono fun e W' ⟨he, bel⟩ => ?_
  subst he
  exact ⟨_, rfl, _, _, _, [], _, [], hW', trodAll_mk1 (shut_bool Try.underlying4 _), trodAll_below (by kernel_rfl) bel _ _ _ _ (by kernel_rfl) hA hA.lt, rfl, bel.frame _, fun h => by cases h⟩
theorem over : Rows.fnExactClientWhereRow.holds Try.pinned (OpenSpec.ofChange Rows.fnExactClientWhereSpec) :=
  OpenClaim.holds_of_wide 12 Try.f12 rfl rfl rfl rfl rfl rfl rfl ⟨rfl, rfl, rfl, rfl, rfl⟩ rfl rfl rfl rfl rfl (by kernel_rfl) Try.func12 (by kernel_rfl)
    (of_decide_eq_true (by kernel_rfl)) (by unfold Func.isWrapper; first | (rw [if_pos (by decide +kernel)]; kernel_rfl) | (rw [if_neg (by decide +kernel)]; exact ⟨rfl, rfl⟩))
    (fun os started H enc _ => lifted os started H enc)
end Go.Proofs.Ytgogajbfiocdbaa.A.ExactClientWhere
namespace Go.Proofs.Ytgogajbfiocdbaa
/-- The row. -/
theorem fnExactClientWhere_holds : Rows.FnExactClientWhereSaid := A.ExactClientWhere.over
#print axioms fnExactClientWhere_holds
end Go.Proofs.Ytgogajbfiocdbaa
