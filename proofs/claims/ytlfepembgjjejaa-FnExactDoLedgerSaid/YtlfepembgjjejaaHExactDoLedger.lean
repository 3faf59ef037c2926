/- FnExactDoLedger: the statement, from the law of the abstract run. No condition. -/
import Derived.Test.YtlfepembgjjejaaHCExactDoLedger2
import Derived.Test.YtlfepembgjjejaaB6
import Derived.Test.YtlfepembgjjejaaZ7
import Derived.Test.YtlfepembgjjejaaProg
import Derived.Test.YtlfepembgjjejaaRows
import Derived.ProofKit
import Derived.OpenShut
import Derived.ShutString
import Derived.ChangeOld
import Derived.Below
import Derived.SizedLaws
/- The functions that FnExactDoLedger reaches: the program's code against the compact code, entry by entry. -/
namespace Go.Proofs.Ytlfepembgjjejaa.A.ExactDoLedger
open Go
def c : CC where
  T := [(3, ⟨1, 8, false, some [.int .i64 0], (.int .i64)⟩),
    (23, ⟨1, 8, false, some [.int .u64 0], (.int .u64)⟩),
    (47, ⟨1, 24, false, some [.nil], (.slice 141 12)⟩),
    (49, ⟨1, 24, true, some [.nil], (.struct [(0, 1, false)])⟩),
    (51, ⟨4, 32, true, some [.int .i64 0, .int .u64 0, .int .u64 0, .int .u64 0], (.struct [(0, 1, false), (1, 1, false), (2, 1, false), (3, 1, false)])⟩),
    (53, ⟨1, 24, false, some [.nil], (.slice 113 11)⟩),
    (55, ⟨1, 24, true, some [.nil], (.struct [(0, 1, false)])⟩),
    (59, ⟨4, 32, true, some [.int .i64 0, .int .u64 0, .int .u64 0, .int .u64 0], (.struct [(0, 1, false), (1, 1, false), (2, 1, false), (3, 1, false)])⟩),
    (113, ⟨5, 40, true, some [.int .u64 0, .int .u64 0, .int .u64 0, .int .u64 0, .int .i64 0], (.struct [(0, 1, false), (1, 1, false), (2, 1, false), (3, 1, false), (4, 1, false)])⟩),
    (141, ⟨5, 40, true, some [.int .u64 0, .int .u64 0, .int .u64 0, .int .u64 0, .int .i64 0], (.struct [(0, 1, false), (1, 1, false), (2, 1, false), (3, 1, false), (4, 1, false)])⟩)]
  F := [(5, 293), (28, 128), (29, 294), (30, 130), (31, 26), (32, 295), (33, 133), (34, 231), (35, 233), (73, 136), (74, 259), (75, 241), (76, 323), (77, 324), (78, 325), (79, 326), (80, 327), (81, 328), (82, 137), (83, 329), (84, 139), (85, 261), (86, 262), (113, 335), (114, 336), (115, 141), (116, 260), (117, 265), (118, 337), (119, 338), (120, 339), (121, 340), (122, 341), (123, 342), (124, 142), (140, 343), (141, 345), (142, 344), (143, 346), (144, 347), (152, 348)]
  eqT := []
  adds := [139]
def F : Nat → Option RF := lk (tI10 ++ tI17 ++ tLAccount ++ tLBook ++ tLLedgerCall ++ tS10 ++ tS17 ++ tWDoLedger)
def tab : List (Nat × FuncId × RF) := [(293, 5, r293), (128, 28, r128), (294, 29, r294), (130, 30, r130), (26, 31, r26), (295, 32, r295), (133, 33, r133), (231, 34, r231), (233, 35, r233), (136, 73, r136), (259, 74, r259), (241, 75, r241), (323, 76, r323), (324, 77, r324), (325, 78, r325), (326, 79, r326), (327, 80, r327), (328, 81, r328), (137, 82, r137), (329, 83, r329), (139, 84, r139), (261, 85, r261), (262, 86, r262), (335, 113, r335), (336, 114, r336), (141, 115, r141), (260, 116, r260), (265, 117, r265), (337, 118, r337), (338, 119, r338), (339, 120, r339), (340, 121, r340), (341, 122, r341), (342, 123, r342), (142, 124, r142), (345, 141, r345), (344, 142, r344), (346, 143, r346), (347, 144, r347)]
def tags : List (Nat × TypeId × Nat) := [(11, 113, 5), (12, 141, 5)]
open Go.Shelf
def ptab : List (Nat × FuncId × PrimF) := [(343, 140, (insF 11 40)), (348, 152, (delF 11))]
theorem i113 : (Try.prog.info? 113).isSome = true := by kernel_rfl
noncomputable def inf113 : TypeInfo := (Try.prog.info? 113).get i113
theorem z113 : inf113.zero.isSome = true := by kernel_rfl
noncomputable def zv113 : Value := inf113.zero.get z113
theorem p343 : Z.InsT Try.prog (renI 140 150 151 3 4 113 53) 5 40 zv113 where
  mixed := by kernel_rfl
  f22 := ⟨(Try.prog.funcs[140]?.map (·.name)).getD "", by kernel_rfl, by kernel_rfl⟩
  f29 := ⟨Try.f150, Try.func150, by kernel_rfl, by kernel_rfl, by kernel_rfl, by kernel_rfl⟩
  t3 := by kernel_rfl
  t4 := by kernel_rfl
  t24 := by kernel_rfl
  i9 := ⟨inf113, (Option.some_get i113).symm, by kernel_rfl, by kernel_rfl, (Option.some_get z113).symm, by kernel_rfl, by decide⟩
theorem p348 : Z.DelT Try.prog (renD 152 3 4 113 53) 5 zv113 where
  mixed := by kernel_rfl
  f45 := ⟨(Try.prog.funcs[152]?.map (·.name)).getD "", by kernel_rfl, by kernel_rfl⟩
  t3 := by kernel_rfl
  t4 := by kernel_rfl
  t22 := by kernel_rfl
  i23 := ⟨inf113, (Option.some_get i113).symm, by kernel_rfl, by kernel_rfl, by decide, (Option.some_get z113).symm, List.all_eq_true.1 (show (zv113.cells.toList.all (·.oneCell')) = true from by kernel_rfl)⟩
theorem ok293 : FnOk Try.prog c F (293, 5, r293) := ⟨Try.f5, [], [[9, 0, 2, 1, 3, 4, 5, 6, 7, 8, 10, 11, 12], [0, 1, 2, 3, 4, 5, 6, 9, 10, 7, 11, 8, 12], [8, 0, 1, 2, 3, 4, 5, 6, 7, 9, 10, 11], [0, 1, 2, 3, 4, 5, 8, 9, 6, 10, 7, 11], [0, 1, 2, 3, 4], [0, 1, 2, 3, 4], [9, 0, 2, 1, 3, 4, 5, 6, 7, 8, 10, 11, 12], [0, 1, 2, 3, 4, 5, 6, 9, 10, 7, 11, 8, 12]], Try.func5, by kernel_rfl, by kernel_rfl, by kernel_rfl⟩
theorem ok128 : FnOk Try.prog c F (128, 28, r128) := ⟨Try.f28, [], [], Try.func28, by kernel_rfl, by kernel_rfl, by kernel_rfl⟩
theorem ok294 : FnOk Try.prog c F (294, 29, r294) := ⟨Try.f29, [], [[1, 4, 0, 2, 3, 5, 6, 7, 8, 9, 10], [0, 8, 1, 9, 2, 3, 4, 5, 6, 7, 10]], Try.func29, by kernel_rfl, by kernel_rfl, by kernel_rfl⟩
theorem ok130 : FnOk Try.prog c F (130, 30, r130) := ⟨Try.f30, [], [], Try.func30, by kernel_rfl, by kernel_rfl, by kernel_rfl⟩
theorem ok26 : FnOk Try.prog c F (26, 31, r26) := ⟨Try.f31, [], [], Try.func31, by kernel_rfl, by kernel_rfl, by kernel_rfl⟩
theorem ok295 : FnOk Try.prog c F (295, 32, r295) := ⟨Try.f32, [], [], Try.func32, by kernel_rfl, by kernel_rfl, by kernel_rfl⟩
theorem ok133 : FnOk Try.prog c F (133, 33, r133) := ⟨Try.f33, [], [], Try.func33, by kernel_rfl, by kernel_rfl, by kernel_rfl⟩
theorem ok231 : FnOk Try.prog c F (231, 34, r231) := ⟨Try.f34, [], [], Try.func34, by kernel_rfl, by kernel_rfl, by kernel_rfl⟩
theorem ok233 : FnOk Try.prog c F (233, 35, r233) := ⟨Try.f35, [], [], Try.func35, by kernel_rfl, by kernel_rfl, by kernel_rfl⟩
theorem ok136 : FnOk Try.prog c F (136, 73, r136) := ⟨Try.f73, [], [], Try.func73, by kernel_rfl, by kernel_rfl, by kernel_rfl⟩
theorem ok259 : FnOk Try.prog c F (259, 74, r259) := ⟨Try.f74, [], [[1, 2, 3, 4], [4, 0, 1, 2, 3, 5, 6, 7, 8, 9, 10], [0, 1, 2, 3, 4, 5, 6, 7, 8, 9, 10]], Try.func74, by kernel_rfl, by kernel_rfl, by kernel_rfl⟩
theorem ok241 : FnOk Try.prog c F (241, 75, r241) := ⟨Try.f75, [], [[1, 3], [0, 1, 2, 5, 6, 3, 4, 7, 8, 9, 10, 11, 12, 13, 14, 15, 16, 17, 18, 19, 20, 21, 22, 23, 24, 25, 26, 27, 28, 29, 30, 31, 32, 33], [0, 1, 2, 3, 4, 5, 6, 7, 8, 9, 10, 11, 12, 13, 14, 15, 16, 17, 18, 19, 20, 21, 22, 23, 24, 25, 26, 27, 28, 29, 30, 31, 32, 33]], Try.func75, by kernel_rfl, by kernel_rfl, by kernel_rfl⟩
theorem ok323 : FnOk Try.prog c F (323, 76, r323) := ⟨Try.f76, [], [[1, 2, 4, 6, 7, 8], [4, 0, 1, 2, 3, 5, 6, 7, 8, 9, 10], [0, 1, 2, 3, 4, 5, 6, 7, 8, 9, 10]], Try.func76, by kernel_rfl, by kernel_rfl, by kernel_rfl⟩
theorem ok324 : FnOk Try.prog c F (324, 77, r324) := ⟨Try.f77, [], [[1, 2, 4, 8, 9], [4, 0, 1, 2, 3, 5, 6, 7, 8, 9, 10], [0, 1, 2, 3, 4, 5, 6, 7, 8, 9, 10]], Try.func77, by kernel_rfl, by kernel_rfl, by kernel_rfl⟩
theorem ok325 : FnOk Try.prog c F (325, 78, r325) := ⟨Try.f78, [], [], Try.func78, by kernel_rfl, by kernel_rfl, by kernel_rfl⟩
theorem ok326 : FnOk Try.prog c F (326, 79, r326) := ⟨Try.f79, [], [], Try.func79, by kernel_rfl, by kernel_rfl, by kernel_rfl⟩
theorem ok327 : FnOk Try.prog c F (327, 80, r327) := ⟨Try.f80, [], [[0, 1, 3, 2, 4, 5, 6], [0, 1, 2, 3, 4, 5, 6]], Try.func80, by kernel_rfl, by kernel_rfl, by kernel_rfl⟩
theorem ok328 : FnOk Try.prog c F (328, 81, r328) := ⟨Try.f81, [], [[1, 2, 5]], Try.func81, by kernel_rfl, by kernel_rfl, by kernel_rfl⟩
theorem ok137 : FnOk Try.prog c F (137, 82, r137) := ⟨Try.f82, [], [[0, 3, 4]], Try.func82, by kernel_rfl, by kernel_rfl, by kernel_rfl⟩
theorem ok329 : FnOk Try.prog c F (329, 83, r329) := ⟨Try.f83, [], [[1, 4, 0, 2, 3, 5, 6, 7, 8, 9, 10], [0, 8, 1, 9, 2, 3, 4, 5, 6, 7, 10]], Try.func83, by kernel_rfl, by kernel_rfl, by kernel_rfl⟩
theorem ok139 : FnOk Try.prog c F (139, 84, r139) := ⟨Try.f84, [], [[0, 1, 5], [0, 1, 2, 4, 5, 6, 3, 7, 8, 9], [0, 1, 2, 3, 4, 5, 6, 7, 8, 9]], Try.func84, by kernel_rfl, by kernel_rfl, by kernel_rfl⟩
theorem ok261 : FnOk Try.prog c F (261, 85, r261) := ⟨Try.f85, [], [[0, 1, 5]], Try.func85, by kernel_rfl, by kernel_rfl, by kernel_rfl⟩
theorem ok262 : FnOk Try.prog c F (262, 86, r262) := ⟨Try.f86, [], [[0, 1, 5]], Try.func86, by kernel_rfl, by kernel_rfl, by kernel_rfl⟩
theorem ok335 : FnOk Try.prog c F (335, 113, r335) := ⟨Try.f113, [], [], Try.func113, by kernel_rfl, by kernel_rfl, by kernel_rfl⟩
theorem ok336 : FnOk Try.prog c F (336, 114, r336) := ⟨Try.f114, [], [[3, 4, 5, 6], [2, 0, 1, 3, 4, 5, 6, 7, 8], [0, 1, 2, 3, 4, 5, 6, 7, 8]], Try.func114, by kernel_rfl, by kernel_rfl, by kernel_rfl⟩
theorem ok141 : FnOk Try.prog c F (141, 115, r141) := ⟨Try.f115, [], [], Try.func115, by kernel_rfl, by kernel_rfl, by kernel_rfl⟩
theorem ok260 : FnOk Try.prog c F (260, 116, r260) := ⟨Try.f116, [], [], Try.func116, by kernel_rfl, by kernel_rfl, by kernel_rfl⟩
theorem ok265 : FnOk Try.prog c F (265, 117, r265) := ⟨Try.f117, [], [[1, 10, 11, 12], [0, 1, 2, 3, 4, 5, 6, 7, 8, 9, 10, 11, 12, 13, 14, 15, 16, 17, 18, 19, 20, 21, 22, 23, 24, 25, 26, 27, 30, 31, 28, 29, 32, 33, 34, 35, 36, 37, 38, 39], [0, 1, 2, 3, 4, 5, 6, 7, 8, 9, 10, 11, 12, 13, 14, 15, 16, 17, 18, 19, 20, 21, 22, 23, 24, 25, 26, 27, 28, 29, 30, 31, 32, 33, 34, 35, 36, 37, 38, 39]], Try.func117, by kernel_rfl, by kernel_rfl, by kernel_rfl⟩
theorem ok337 : FnOk Try.prog c F (337, 118, r337) := ⟨Try.f118, [], [], Try.func118, by kernel_rfl, by kernel_rfl, by kernel_rfl⟩
theorem ok338 : FnOk Try.prog c F (338, 119, r338) := ⟨Try.f119, [], [], Try.func119, by kernel_rfl, by kernel_rfl, by kernel_rfl⟩
theorem ok339 : FnOk Try.prog c F (339, 120, r339) := ⟨Try.f120, [5], [], Try.func120, by kernel_rfl, by kernel_rfl, by kernel_rfl⟩
theorem ok340 : FnOk Try.prog c F (340, 121, r340) := ⟨Try.f121, [5], [], Try.func121, by kernel_rfl, by kernel_rfl, by kernel_rfl⟩
theorem ok341 : FnOk Try.prog c F (341, 122, r341) := ⟨Try.f122, [], [], Try.func122, by kernel_rfl, by kernel_rfl, by kernel_rfl⟩
theorem ok342 : FnOk Try.prog c F (342, 123, r342) := ⟨Try.f123, [], [[1, 2, 6], [0, 1, 2, 3, 4, 5, 6, 9, 13, 16, 7, 8, 10, 11, 12, 14, 15, 17], [0, 1, 2, 3, 4, 5, 6, 16, 7, 8, 9, 10, 11, 12, 13, 14, 15, 17]], Try.func123, by kernel_rfl, by kernel_rfl, by kernel_rfl⟩
theorem ok142 : FnOk Try.prog c F (142, 124, r142) := ⟨Try.f124, [], [], Try.func124, by kernel_rfl, by kernel_rfl, by kernel_rfl⟩
theorem ok345 : FnOk Try.prog c F (345, 141, r345) := ⟨Try.f141, [], [], Try.func141, by kernel_rfl, by kernel_rfl, by kernel_rfl⟩
theorem ok344 : FnOk Try.prog c F (344, 142, r344) := ⟨Try.f142, [], [], Try.func142, by kernel_rfl, by kernel_rfl, by kernel_rfl⟩
theorem ok346 : FnOk Try.prog c F (346, 143, r346) := ⟨Try.f143, [], [[0, 1, 6, 7, 2, 3, 4, 5, 8, 9, 10], [0, 1, 2, 3, 4, 5, 6, 7, 8, 9, 10], [0, 1, 2, 3, 4, 5, 6, 7, 8], [0, 1, 2, 3, 4, 5, 6, 7, 8]], Try.func143, by kernel_rfl, by kernel_rfl, by kernel_rfl⟩
theorem ok347 : FnOk Try.prog c F (347, 144, r347) := ⟨Try.f144, [], [[0, 1, 2, 3, 4, 5], [0, 1, 2, 3, 4, 5], [0, 1, 2, 3, 4, 5, 6, 7, 8], [0, 1, 2, 3, 4, 5, 6, 7, 8]], Try.func144, by kernel_rfl, by kernel_rfl, by kernel_rfl⟩
theorem okT : (c.T.all fun x => x.2.okB Try.prog (mkCfgZ Try.prog tab ptab tags).ET (mkCfgZ Try.prog tab ptab tags).SZ x.1) = true := by kernel_rfl
theorem okF : (c.F.all fun x => decide ((mkCfgZ Try.prog tab ptab tags).G x.2 = some x.1)) = true := by kernel_rfl
theorem okTab : AllT (FnOk Try.prog c F) tab := ⟨ok293, ok128, ok294, ok130, ok26, ok295, ok133, ok231, ok233, ok136, ok259, ok241, ok323, ok324, ok325, ok326, ok327, ok328, ok137, ok329, ok139, ok261, ok262, ok335, ok336, ok141, ok260, ok265, ok337, ok338, ok339, ok340, ok341, ok342, ok142, ok345, ok344, ok346, ok347, trivial⟩
theorem okP : AllT (PFn Try.prog F) ptab := ⟨⟨⟨Try.f140, Try.func140, by kernel_rfl, by kernel_rfl⟩, rfl, step_ins _ _⟩, ⟨⟨Try.f152, Try.func152, by kernel_rfl, by kernel_rfl⟩, rfl, step_del _⟩, trivial⟩
theorem prog (O : Nat) : ProgOk ((mkCfgZ Try.prog tab ptab tags).at O) c F (primZ ptab) :=
  mkProgZ okT okF okTab okP ⟨⟨Try.f139, Try.func139, by kernel_rfl, by kernel_rfl, by kernel_rfl, by kernel_rfl⟩, trivial⟩ trivial O ⟨ins_ok (ρ := renI 140 150 151 3 4 113 53) (k := 5) rfl rfl p343, del_ok (ρ := renD 152 3 4 113 53) (k := 5) rfl rfl p348, trivial⟩
theorem pr343 : PrimAt F (primZ ptab) 343 (insF 11 40) := primAt (ptab := ptab) (n := 343) (x := (140, (insF 11 40))) rfl rfl
theorem pr348 : PrimAt F (primZ ptab) 348 (delF 11) := primAt (ptab := ptab) (n := 348) (x := (152, (delF 11))) rfl rfl
theorem inI10 : AllT (fun x => F x.1 = some x.2) tI10 := ⟨rfl, rfl, rfl, rfl, rfl, rfl, rfl, rfl, rfl, rfl, rfl, rfl, rfl, trivial⟩
theorem inI17 : AllT (fun x => F x.1 = some x.2) tI17 := ⟨rfl, rfl, rfl, rfl, rfl, rfl, rfl, trivial⟩
theorem inLAccount : AllT (fun x => F x.1 = some x.2) tLAccount := ⟨rfl, rfl, rfl, rfl, rfl, rfl, rfl, trivial⟩
theorem inLBook : AllT (fun x => F x.1 = some x.2) tLBook := ⟨rfl, rfl, rfl, rfl, rfl, trivial⟩
theorem inLLedgerCall : AllT (fun x => F x.1 = some x.2) tLLedgerCall := ⟨rfl, rfl, trivial⟩
theorem inS10 : AllT (fun x => F x.1 = some x.2) tS10 := ⟨rfl, rfl, rfl, rfl, rfl, rfl, rfl, rfl, rfl, rfl, rfl, rfl, rfl, trivial⟩
theorem inS17 : AllT (fun x => F x.1 = some x.2) tS17 := ⟨rfl, rfl, rfl, rfl, trivial⟩
theorem inWDoLedger : AllT (fun x => F x.1 = some x.2) tWDoLedger := ⟨rfl, trivial⟩
end Go.Proofs.Ytlfepembgjjejaa.A.ExactDoLedger
/- DoLedger: the law's function, run on any arguments, answers true. -/
namespace Go.Proofs.Ytlfepembgjjejaa.A
open Go
set_option linter.unusedSimpArgs false
set_option linter.unusedVariables false
set_option maxHeartbeats 2000000 in
theorem law_ExactDoLedger {F : Nat → Option RF} {Z : CallF} (hI10 : Has F tI10) (hI17 : Has F tI17) (hLAccount : Has F tLAccount) (hLBook : Has F tLBook) (hLLedgerCall : Has F tLLedgerCall) (hS10 : Has F tS10) (hS17 : Has F tS17) (hWDoLedger : Has F tWDoLedger) (pr343 : PrimAt F Z 343 (insF 11 40)) (pr348 : PrimAt F Z 348 (delF 11)) (h : Heap) (avs : List V) (hfl : h.floor = h.next) (w : ArgsWf h 8 [shBook, shLedgerCall] avs) : ∃ h', call F Z 293 avs h = some (.c (.bool true), h') := by
  obtain ⟨bkc, _, rfl, bkw, w1⟩ := ArgsWf.struct w
  obtain ⟨bk, bkp, bkv, bkok⟩ := Wf.isBook bkw
  obtain ⟨bkl1, bkl2, bkl3⟩ := Book.lenL bkv
  obtain ⟨lcc, _, rfl, lcw, w2⟩ := ArgsWf.struct w1
  obtain ⟨lc, rfl, lcok⟩ := Wf.isLedgerCall lcw
  obtain rfl := w2.nil
  have f0 : h.floor ≤ h.next := by omega
  rw [call_run F Z (hWDoLedger.lk (g := 293) rfl) _ _ rfl]
  obtain ⟨l0, s0, s0l, s0k⟩ := szBook_c hLBook hLAccount (Z := Z) bkv 1048576 (by omega) (by omega)
  simp only [run0, run1, run2, run3, run4, noSlot, ownS, ownK, memN, RO.dst, lk, drop, forget, number, Nat.reduceBEq, cut?, splice?, builds, List.length_cons, List.length_nil, List.drop_succ_cons, List.drop_zero, List.take_succ_cons, List.take_zero, List.cons_append, List.nil_append, List.append_nil, List.drop_nil, List.take_nil, Nat.reduceAdd, Nat.reduceLeDiff, Nat.zero_add, Nat.add_zero, ↓reduceIte, Bool.not_true, Bool.not_false, decide_true, decide_false, eq_self, bne_self_eq_false, List.getElem?_cons_zero, List.getElem?_cons_succ, decide_eq_true_eq, Bool.false_eq_true, Bool.true_eq_false, reduceCtorEq, Nat.le_refl, s0, toLedgerCall_run hLLedgerCall, LedgerCall.len, LedgerCall.tak, bkl1, bkl2, bkl3]
  by_cases hn0 : l0 < 0
  · simp only [run0, run1, run2, run3, run4, noSlot, ownS, ownK, memN, RO.dst, lk, drop, forget, number, Nat.reduceBEq, cut?, splice?, builds, List.length_cons, List.length_nil, List.drop_succ_cons, List.drop_zero, List.take_succ_cons, List.take_zero, List.cons_append, List.nil_append, List.append_nil, List.drop_nil, List.take_nil, Nat.reduceAdd, Nat.reduceLeDiff, Nat.zero_add, Nat.add_zero, ↓reduceIte, Bool.not_true, Bool.not_false, decide_true, decide_false, eq_self, bne_self_eq_false, List.getElem?_cons_zero, List.getElem?_cons_succ, decide_eq_true_eq, Bool.false_eq_true, Bool.true_eq_false, reduceCtorEq, Nat.le_refl, hn0]
    exact ⟨_, rfl⟩
  have sm0 := s0k (by omega)
  have flr : h.floor = h.next := hfl
  have Tbkv := Book.okL.lt bkv
  obtain ⟨y1, hq1, p1, e1, oq1, vq1, qq1⟩ := toBook_c hLBook hLAccount (Z := Z) (h := ⟨h.next, h.next, h.get⟩) (Nat.le_refl _) (Book.okL.up bkv _) sm0
  obtain ⟨h1, mq1⟩ : ∃ g, Heap.mk hq1.next h.floor hq1.get = g := ⟨_, rfl⟩
  have o1 : On h h1 := by rw [← mq1]; exact ⟨⟨oq1.ext.1, oq1.ext.2⟩, rfl⟩
  have v1 := Book.okI.up vq1 h.floor
  rw [mq1] at v1
  have q1 : Fre h p1 := ⟨qq1.lo, qq1.nd⟩
  replace bkv := Book.okL.on bkv o1
  have n1 := o1.ext.1
  have g1 := o1.fl
  have f1 := o1.le f0
  obtain ⟨vl1, vt1, vd1⟩ := Book.lenI v1
  obtain ⟨r2_0, hq2, p2_0, e2, oq2, vq2_0, qq2_0⟩ := sDoLedger_c hS10 hS17 (Z := Z) (h := ⟨h1.next, h1.next, h1.get⟩) (Nat.le_refl _) (Book.okI.up v1 _) lc lcok bkok sm0
  obtain ⟨h2, mq2⟩ : ∃ g, Heap.mk hq2.next h1.floor hq2.get = g := ⟨_, rfl⟩
  have o2 : On h1 h2 := by rw [← mq2]; exact ⟨⟨oq2.ext.1, oq2.ext.2⟩, rfl⟩
  have v2_0 := Book.okI.up vq2_0 h1.floor
  rw [mq2] at v2_0
  have q2_0 : Fre h1 p2_0 := ⟨qq2_0.lo, qq2_0.nd⟩
  replace bkv := Book.okL.on bkv o2
  replace v1 := Book.okI.on v1 o2
  have n2 := o2.ext.1
  have g2 := o2.fl
  have f2 := o2.le f1
  have Tv2_0 := Book.okI.lt v2_0
  obtain ⟨vl2_0, vt2_0, vd2_0⟩ := Book.lenI v2_0
  obtain ⟨y3, h3, p3, e3, o3, v3, q3⟩ := toBook_c hLBook hLAccount (Z := Z) f2 bkv sm0
  replace bkv := Book.okL.on bkv o3
  replace v1 := Book.okI.on v1 o3
  replace v2_0 := Book.okI.on v2_0 o3
  have n3 := o3.ext.1
  have g3 := o3.fl
  have f3 := o3.le f2
  have Tv3 := Book.okI.lt v3
  obtain ⟨vl3, vt3, vd3⟩ := Book.lenI v3
  obtain ⟨r4_0, hq4, p4_0, e4, oq4, vq4_0, qq4_0⟩ := DoLedger_c hI10 hI17 pr343 pr348 (Z := Z) (h := ⟨h3.next, h3.next, h3.get⟩) (Nat.le_refl _) (Book.okI.up v3 _) lc lcok bkok sm0
  obtain ⟨h4, mq4⟩ : ∃ g, Heap.mk hq4.next h3.floor hq4.get = g := ⟨_, rfl⟩
  have o4 : On h3 h4 := by rw [← mq4]; exact ⟨⟨oq4.ext.1, oq4.ext.2⟩, rfl⟩
  have v4_0 := Book.okI.up vq4_0 h3.floor
  rw [mq4] at v4_0
  have q4_0 : Fre h3 p4_0 := ⟨qq4_0.lo, qq4_0.nd⟩
  replace bkv := Book.okL.on bkv o4
  replace v1 := Book.okI.on v1 o4
  replace v2_0 := Book.okI.on v2_0 o4
  replace v3 := Book.okI.on v3 o4
  have n4 := o4.ext.1
  have g4 := o4.fl
  have f4 := o4.le f3
  obtain ⟨vl4_0, vt4_0, vd4_0⟩ := Book.lenI v4_0
  have c1 := eqBook_r hLBook hLAccount (Z := Z) v4_0 v2_0
  obtain ⟨y5, hq5, p5, e5, oq5, vq5, qq5⟩ := toBook_c hLBook hLAccount (Z := Z) (h := ⟨h4.next, h4.next, h4.get⟩) (Nat.le_refl _) (Book.okL.up bkv _) sm0
  obtain ⟨h5, mq5⟩ : ∃ g, Heap.mk hq5.next h4.floor hq5.get = g := ⟨_, rfl⟩
  have o5 : On h4 h5 := by rw [← mq5]; exact ⟨⟨oq5.ext.1, oq5.ext.2⟩, rfl⟩
  have v5 := Book.okI.up vq5 h4.floor
  rw [mq5] at v5
  have q5 : Fre h4 p5 := ⟨qq5.lo, qq5.nd⟩
  replace bkv := Book.okL.on bkv o5
  replace v1 := Book.okI.on v1 o5
  replace v2_0 := Book.okI.on v2_0 o5
  replace v3 := Book.okI.on v3 o5
  replace v4_0 := Book.okI.on v4_0 o5
  have n5 := o5.ext.1
  have g5 := o5.fl
  have f5 := o5.le f4
  obtain ⟨vl5, vt5, vd5⟩ := Book.lenI v5
  have c2 := eqBook_r hLBook hLAccount (Z := Z) (h := ⟨h5.next, h5.next, h5.get⟩) (Book.okI.up v3 _) (Book.okI.up v5 _)
  have hb1 := Book.wt_le sm0
  have hb2 := bk.wt_nn
  have hb3 : (doLedger bk lc).1.wt ≤ 5242885 := by have h1 := doLedger_len bk lc; have h2 : bk.list.length ≤ 1048576 := sm0; simp only [Book.wt]; omega
  have hb4 := (doLedger bk lc).1.wt_nn
  have lo6 : ∀ id, id ∈ p3 → h5.floor ≤ id := fun id hid => by have := q3.lo id hid; omega
  obtain ⟨h6, m6, k6, u6⟩ := markBook_r hLBook hLAccount (Z := Z) v3 q3.nd lo6 (1) (by omega) (by omega)
  replace bkv := Book.okL.mk' bkv k6 fun id h1 h2 => by have a1 := q3.lo id h2; have a2 := Tbkv id h1; omega
  replace v2_0 := Book.okI.mk' v2_0 k6 fun id h1 h2 => by have a1 := q3.lo id h2; have a2 := Tv2_0 id h1; omega
  replace v4_0 := Book.okI.mk' v4_0 k6 fun id h1 h2 => by have a1 := q3.lo id h2; have a2 := Tv3 id h2; have a3 := q4_0.lo id h1; omega
  have n6 := k6.next
  have g6 := k6.fl
  have f6 : h6.floor ≤ h6.next := by omega
  replace v3 := u6
  have hk6 : ¬ (1 + bk.wt : Int) < 0 := by omega
  have c3 := eqBook_r hLBook hLAccount (Z := Z) v4_0 v2_0
  have lo7 : ∀ id, id ∈ p4_0 → h6.floor ≤ id := fun id hid => by have := q4_0.lo id hid; omega
  obtain ⟨h7, m7, k7, u7⟩ := markBook_r hLBook hLAccount (Z := Z) v4_0 q4_0.nd lo7 (1) (by omega) (by omega)
  replace bkv := Book.okL.mk' bkv k7 fun id h1 h2 => by have a1 := q4_0.lo id h2; have a2 := Tbkv id h1; omega
  replace v2_0 := Book.okI.mk' v2_0 k7 fun id h1 h2 => by have a1 := q4_0.lo id h2; have a2 := Tv2_0 id h1; omega
  have n7 := k7.next
  have g7 := k7.fl
  have f7 : h7.floor ≤ h7.next := by omega
  replace v4_0 := u7
  have hkk : ¬ (1 + ((doLedger bk lc).1).wt : Int) < 0 := by omega
  have d4 := heldBook_r hLBook hLAccount (Z := Z) v4_0 (by omega) (by omega)
  have hh5 : ¬ (1 + ((doLedger bk lc).1).wt : Int) < 0 := by omega
  obtain ⟨y8, hq8, p8, e8, oq8, vq8, qq8⟩ := toBook_c hLBook hLAccount (Z := Z) (h := ⟨h7.next, h7.next, h7.get⟩) (Nat.le_refl _) (Book.okL.up bkv _) sm0
  obtain ⟨h8, mq8⟩ : ∃ g, Heap.mk hq8.next h7.floor hq8.get = g := ⟨_, rfl⟩
  have o8 : On h7 h8 := by rw [← mq8]; exact ⟨⟨oq8.ext.1, oq8.ext.2⟩, rfl⟩
  have v8 := Book.okI.up vq8 h7.floor
  rw [mq8] at v8
  have q8 : Fre h7 p8 := ⟨qq8.lo, qq8.nd⟩
  replace bkv := Book.okL.on bkv o8
  replace v2_0 := Book.okI.on v2_0 o8
  replace v4_0 := Book.okI.on v4_0 o8
  have n8 := o8.ext.1
  have g8 := o8.fl
  have f8 := o8.le f7
  obtain ⟨vl8, vt8, vd8⟩ := Book.lenI v8
  obtain ⟨r9_0, hq9, p9_0, e9, oq9, vq9_0, qq9_0⟩ := DoLedger_c hI10 hI17 pr343 pr348 (Z := Z) (h := ⟨h8.next, h8.next, h8.get⟩) (Nat.le_refl _) (Book.okI.up v8 _) lc lcok bkok sm0
  obtain ⟨h9, mq9⟩ : ∃ g, Heap.mk hq9.next h8.floor hq9.get = g := ⟨_, rfl⟩
  have o9 : On h8 h9 := by rw [← mq9]; exact ⟨⟨oq9.ext.1, oq9.ext.2⟩, rfl⟩
  have v9_0 := Book.okI.up vq9_0 h8.floor
  rw [mq9] at v9_0
  have q9_0 : Fre h8 p9_0 := ⟨qq9_0.lo, qq9_0.nd⟩
  replace bkv := Book.okL.on bkv o9
  replace v2_0 := Book.okI.on v2_0 o9
  replace v4_0 := Book.okI.on v4_0 o9
  replace v8 := Book.okI.on v8 o9
  have n9 := o9.ext.1
  have g9 := o9.fl
  have f9 := o9.le f8
  obtain ⟨vl9_0, vt9_0, vd9_0⟩ := Book.lenI v9_0
  have c6 := eqBook_r hLBook hLAccount (Z := Z) v9_0 v2_0
  have d7 := heldBook_r hLBook hLAccount (Z := Z) v4_0 (by omega) (by omega)
  have hh8 : ¬ (1 + ((doLedger bk lc).1).wt : Int) < 0 := by omega
  simp only [run0, run1, run2, run3, run4, noSlot, ownS, ownK, memN, RO.dst, lk, drop, forget, number, Nat.reduceBEq, cut?, splice?, builds, List.length_cons, List.length_nil, List.drop_succ_cons, List.drop_zero, List.take_succ_cons, List.take_zero, List.cons_append, List.nil_append, List.append_nil, List.drop_nil, List.take_nil, Nat.reduceAdd, Nat.reduceLeDiff, Nat.zero_add, Nat.add_zero, ↓reduceIte, Bool.not_true, Bool.not_false, decide_true, decide_false, eq_self, bne_self_eq_false, List.getElem?_cons_zero, List.getElem?_cons_succ, decide_eq_true_eq, Bool.false_eq_true, Bool.true_eq_false, reduceCtorEq, Nat.le_refl, hn0, toLedgerCall_run hLLedgerCall, LedgerCall.len, LedgerCall.tak, bkl1, bkl2, bkl3, mq1, e1, vl1, vt1, vd1, mq2, e2, vl2_0, vt2_0, vd2_0, e3, vl3, vt3, vd3, mq4, e4, vl4_0, vt4_0, vd4_0, c1, mq5, e5, vl5, vt5, vd5, c2, m6, hk6, c3, m7, hkk, d4, hh5, mq8, e8, vl8, vt8, vd8, mq9, e9, vl9_0, vt9_0, vd9_0, c6, d7, hh8]
  exact ⟨_, rfl⟩
end Go.Proofs.Ytlfepembgjjejaa.A
/- FnExactDoLedger: the row's statement, from the law of the abstract run. No condition. -/
namespace Go.Proofs.Ytlfepembgjjejaa.A.ExactDoLedger
open Go Go.ChangeShapes Go.WideShapes Go.ChangeAt Go.RowKit
theorem own : ownKnob Try.prog.godebug = none := by kernel_rfl
set_option maxRecDepth 100000 in
theorem lifted (os : Os) (started : os.Started) (H : Type) (enc : TypeId × Value → H) :
    ReturnsInHanded {} Try.checked os 5 .any (Rows.fnExactDoLedgerSpec.pre6 enc Try.prog Try.f5 Rows.fnExactDoLedgerRow.domain false) (Rows.fnExactDoLedgerSpec.post enc Try.prog Try.f5 false true false false) := by
  refine returnsInHanded_of_change_sized (C := Try.checked) own started (by kernel_rfl) Try.func5
    (ChangeSpec.witness6 (enc := enc) (C := Try.checked) false ⟨#[], #[.agg #[.slice none 0 0], .agg #[.int .i64 0, .int .u64 0, .int .u64 0, .int .u64 0]], []⟩ 8 (by kernel_rfl) (by kernel_rfl) (by kernel_rfl) (by kernel_rfl)) ?_
  intro W base args ds gs before hval hW _ _ _
  have hW' := hW
  obtain ⟨p, q, hA, hV, rfl, hfz, hnd⟩ := hW
  obtain ⟨rfl, rfl⟩ := trodVars_none hV
  have r0 : DataW.TrodAll enc Try.prog W 0 (fun _ => true) true [49, 51] args.toList ds p := hA
  obtain ⟨_, _, d0, _, _, _, _, rfl, _, _, r1⟩ := trodAll_cons r0
  obtain ⟨_, _, d1, _, _, _, _, rfl, _, _, r2⟩ := trodAll_cons r1
  obtain ⟨_, rfl, _⟩ := trodAll_nil r2
  refine (law_calls (ts := [49, 51]) (ss := [shBook, shLedgerCall]) prog (show (mkCfgZ Try.prog tab ptab tags).G 293 = some 5 from by kernel_rfl) ⟨show shIs Try.prog (mkCfgZ Try.prog tab ptab tags).ET (mkCfgZ Try.prog tab ptab tags).SZ 8 49 shBook = true from by kernel_rfl, show shIs Try.prog (mkCfgZ Try.prog tab ptab tags).ET (mkCfgZ Try.prog tab ptab tags).SZ 8 51 shLedgerCall = true from by kernel_rfl, trivial⟩ (law_ExactDoLedger inI10 inI17 inLAccount inLBook inLLedgerCall inS10 inS17 inWDoLedger pr343 pr348) (fun j t v h1 => hval j t v (by rw [Try.params5]; exact (List.getElem?_toArray ..).trans h1)) hA).mono fun e W' ⟨he, bel⟩ => ?_
  subst he
  exact ⟨_, rfl, _, _, _, [], _, [], hW', trodAll_mk1 (shut_bool Try.underlying4 _), trodAll_below (by kernel_rfl) bel _ _ _ _ (by kernel_rfl) hA hA.lt, rfl, bel.frame _, fun h => by cases h⟩
theorem over : Rows.fnExactDoLedgerRow.holds Try.pinned (OpenSpec.ofChange Rows.fnExactDoLedgerSpec) :=
  OpenClaim.holds_of_wide 5 Try.f5 rfl rfl rfl rfl rfl rfl rfl ⟨rfl, rfl, rfl, rfl, rfl⟩ rfl rfl rfl rfl rfl (by kernel_rfl) Try.func5 (by kernel_rfl)
    (of_decide_eq_true (by kernel_rfl)) (by unfold Func.isWrapper; first | (rw [if_pos (by decide +kernel)]; kernel_rfl) | (rw [if_neg (by decide +kernel)]; exact ⟨rfl, rfl⟩))
    (fun os started H enc _ => lifted os started H enc)
end Go.Proofs.Ytlfepembgjjejaa.A.ExactDoLedger
namespace Go.Proofs.Ytlfepembgjjejaa
/-- The row. -/
theorem fnExactDoLedger_holds : Rows.FnExactDoLedgerSaid := A.ExactDoLedger.over
#print axioms fnExactDoLedger_holds
end Go.Proofs.Ytlfepembgjjejaa
