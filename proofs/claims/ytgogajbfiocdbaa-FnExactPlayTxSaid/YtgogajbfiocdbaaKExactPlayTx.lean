/- The functions that FnExactPlayTx reaches: the program's code against the compact code, entry by entry. -/
import Derived.Test.YtgogajbfiocdbaaB6
import Derived.Test.YtgogajbfiocdbaaProg
import Derived.Test.YtgogajbfiocdbaaGI14
import Derived.Test.YtgogajbfiocdbaaGLBool
import Derived.Test.YtgogajbfiocdbaaGLTx
import Derived.Test.YtgogajbfiocdbaaGLTxEvent
import Derived.Test.YtgogajbfiocdbaaGS01d
import Derived.Test.YtgogajbfiocdbaaGS14
import Derived.Test.YtgogajbfiocdbaaGWPlayTx
namespace Go.Proofs.Ytgogajbfiocdbaa.A.ExactPlayTx
open Go
def c : CC where
  T := [(3, ⟨1, 8, false, some [.int .i64 0], (.int .i64)⟩),
    (4, ⟨1, 1, false, some [.bool false], .bool⟩),
    (29, ⟨1, 8, false, some [.int .u64 0], (.int .u64)⟩),
    (31, ⟨10, 56, true, some [.int .i64 0, .int .u64 0, .int .u64 0, .int .u64 0, .int .i64 0, .bool false, .bool false, .bool false, .bool false, .int .i64 0], (.struct [(0, 1, false), (1, 1, false), (2, 1, false), (3, 1, false), (4, 1, false), (5, 1, false), (6, 1, false), (7, 1, false), (8, 1, false), (9, 1, false)])⟩),
    (32, ⟨10, 56, true, some [.int .i64 0, .int .u64 0, .int .u64 0, .int .u64 0, .int .i64 0, .bool false, .bool false, .bool false, .bool false, .int .i64 0], (.struct [(0, 1, false), (1, 1, false), (2, 1, false), (3, 1, false), (4, 1, false), (5, 1, false), (6, 1, false), (7, 1, false), (8, 1, false), (9, 1, false)])⟩),
    (107, ⟨1, 24, false, some [.nil], (.slice 148 6)⟩),
    (109, ⟨1, 24, false, some [.nil], (.slice 4 4)⟩),
    (112, ⟨1, 24, false, some [.nil], (.slice 146 5)⟩),
    (146, ⟨3, 24, true, some [.int .i64 0, .int .i64 0, .int .i64 0], (.struct [(0, 1, false), (1, 1, false), (2, 1, false)])⟩),
    (148, ⟨3, 24, true, some [.int .i64 0, .int .i64 0, .int .i64 0], (.struct [(0, 1, false), (1, 1, false), (2, 1, false)])⟩)]
  F := [(14, 56), (20, 32), (21, 13), (23, 22), (24, 35), (61, 57), (62, 59), (63, 58), (64, 60), (65, 61), (66, 62), (67, 63), (68, 64), (69, 65), (70, 5), (74, 14), (75, 37), (76, 38), (84, 28), (97, 24), (98, 100), (99, 29), (100, 101), (112, 30)]
  eqT := []
  adds := []
def F : Nat → Option RF := lk (tI14 ++ tLBool ++ tLTx ++ tLTxEvent ++ tS01d ++ tS14 ++ tWPlayTx)
def tab : List (Nat × FuncId × RF) := [(56, 14, r56), (13, 21, r13), (22, 23, r22), (57, 61, r57), (59, 62, r59), (58, 63, r58), (60, 64, r60), (61, 65, r61), (62, 66, r62), (63, 67, r63), (64, 68, r64), (65, 69, r65), (32, 20, r32), (35, 24, r35), (14, 74, r14), (24, 97, r24), (100, 98, r100), (37, 75, r37), (38, 76, r38), (28, 84, r28), (29, 99, r29), (101, 100, r101), (5, 70, r5), (30, 112, r30)]
def tags : List (Nat × TypeId × Nat) := [(4, 4, 1), (5, 146, 3), (6, 148, 3)]
theorem ok56 : FnOk Try.prog c F (56, 14, r56) := ⟨Try.f14, [], [], Try.func14, by kernel_rfl, by kernel_rfl, by kernel_rfl⟩
theorem ok13 : FnOk Try.prog c F (13, 21, r13) := ⟨Try.f21, [], [], Try.func21, by kernel_rfl, by kernel_rfl, by kernel_rfl⟩
theorem ok22 : FnOk Try.prog c F (22, 23, r22) := ⟨Try.f23, [], [], Try.func23, by kernel_rfl, by kernel_rfl, by kernel_rfl⟩
theorem ok57 : FnOk Try.prog c F (57, 61, r57) := ⟨Try.f61, [], [], Try.func61, by kernel_rfl, by kernel_rfl, by kernel_rfl⟩
theorem ok59 : FnOk Try.prog c F (59, 62, r59) := ⟨Try.f62, [], [[1, 2, 4, 6, 7]], Try.func62, by kernel_rfl, by kernel_rfl, by kernel_rfl⟩
theorem ok58 : FnOk Try.prog c F (58, 63, r58) := ⟨Try.f63, [], [[0, 3, 4]], Try.func63, by kernel_rfl, by kernel_rfl, by kernel_rfl⟩
theorem ok60 : FnOk Try.prog c F (60, 64, r60) := ⟨Try.f64, [], [[2, 4, 6, 20, 21, 22]], Try.func64, by kernel_rfl, by kernel_rfl, by kernel_rfl⟩
theorem ok61 : FnOk Try.prog c F (61, 65, r61) := ⟨Try.f65, [], [[0, 1, 5], [0, 1, 2, 4, 5, 6, 3, 7, 8], [0, 1, 2, 3, 4, 5, 6, 7, 8]], Try.func65, by kernel_rfl, by kernel_rfl, by kernel_rfl⟩
theorem ok62 : FnOk Try.prog c F (62, 66, r62) := ⟨Try.f66, [], [[0, 1, 5], [0, 1, 2, 4, 5, 6, 3, 7, 8, 9], [0, 1, 2, 3, 4, 5, 6, 7, 8, 9]], Try.func66, by kernel_rfl, by kernel_rfl, by kernel_rfl⟩
theorem ok63 : FnOk Try.prog c F (63, 67, r63) := ⟨Try.f67, [], [[0, 1, 5]], Try.func67, by kernel_rfl, by kernel_rfl, by kernel_rfl⟩
theorem ok64 : FnOk Try.prog c F (64, 68, r64) := ⟨Try.f68, [], [[0, 1, 5]], Try.func68, by kernel_rfl, by kernel_rfl, by kernel_rfl⟩
theorem ok65 : FnOk Try.prog c F (65, 69, r65) := ⟨Try.f69, [], [[0, 1, 5]], Try.func69, by kernel_rfl, by kernel_rfl, by kernel_rfl⟩
theorem ok32 : FnOk Try.prog c F (32, 20, r32) := ⟨Try.f20, [], [], Try.func20, by kernel_rfl, by kernel_rfl, by kernel_rfl⟩
theorem ok35 : FnOk Try.prog c F (35, 24, r35) := ⟨Try.f24, [], [], Try.func24, by kernel_rfl, by kernel_rfl, by kernel_rfl⟩
theorem ok14 : FnOk Try.prog c F (14, 74, r14) := ⟨Try.f74, [], [[0, 1, 2, 3, 4, 5, 6, 7, 8, 12, 9, 10, 11, 13], [0, 1, 2, 3, 4, 5, 6, 7, 8, 12, 9, 10, 11, 13]], Try.func74, by kernel_rfl, by kernel_rfl, by kernel_rfl⟩
theorem ok24 : FnOk Try.prog c F (24, 97, r24) := ⟨Try.f97, [], [], Try.func97, by kernel_rfl, by kernel_rfl, by kernel_rfl⟩
theorem ok100 : FnOk Try.prog c F (100, 98, r100) := ⟨Try.f98, [], [], Try.func98, by kernel_rfl, by kernel_rfl, by kernel_rfl⟩
theorem ok37 : FnOk Try.prog c F (37, 75, r37) := ⟨Try.f75, [], [], Try.func75, by kernel_rfl, by kernel_rfl, by kernel_rfl⟩
theorem ok38 : FnOk Try.prog c F (38, 76, r38) := ⟨Try.f76, [], [], Try.func76, by kernel_rfl, by kernel_rfl, by kernel_rfl⟩
theorem ok28 : FnOk Try.prog c F (28, 84, r28) := ⟨Try.f84, [], [[0, 1, 2, 3, 4, 5, 6, 7, 8, 12, 9, 10, 11, 13], [0, 1, 2, 3, 4, 5, 6, 7, 8, 12, 9, 10, 11, 13]], Try.func84, by kernel_rfl, by kernel_rfl, by kernel_rfl⟩
theorem ok29 : FnOk Try.prog c F (29, 99, r29) := ⟨Try.f99, [], [], Try.func99, by kernel_rfl, by kernel_rfl, by kernel_rfl⟩
theorem ok101 : FnOk Try.prog c F (101, 100, r101) := ⟨Try.f100, [], [], Try.func100, by kernel_rfl, by kernel_rfl, by kernel_rfl⟩
theorem ok5 : FnOk Try.prog c F (5, 70, r5) := ⟨Try.f70, [], [], Try.func70, by kernel_rfl, by kernel_rfl, by kernel_rfl⟩
theorem ok30 : FnOk Try.prog c F (30, 112, r30) := ⟨Try.f112, [], [], Try.func112, by kernel_rfl, by kernel_rfl, by kernel_rfl⟩
theorem okT : (c.T.all fun x => x.2.okB Try.prog (mkCfg Try.prog tab tags).ET (mkCfg Try.prog tab tags).SZ x.1) = true := by kernel_rfl
theorem okF : (c.F.all fun x => decide ((lk tab x.2).map (·.1) = some x.1)) = true := by kernel_rfl
theorem okTab : AllT (FnOk Try.prog c F) tab := ⟨ok56, ok13, ok22, ok57, ok59, ok58, ok60, ok61, ok62, ok63, ok64, ok65, ok32, ok35, ok14, ok24, ok100, ok37, ok38, ok28, ok29, ok101, ok5, ok30, trivial⟩
theorem prog (O : Nat) : ProgOk ((mkCfg Try.prog tab tags).at O) c F (fun _ _ _ => none) :=
  mkProg okT okF okTab ⟨⟩ trivial O
theorem inI14 : AllT (fun x => F x.1 = some x.2) tI14 := ⟨rfl, rfl, rfl, rfl, rfl, rfl, rfl, rfl, rfl, rfl, rfl, rfl, rfl, trivial⟩
theorem inLBool : AllT (fun x => F x.1 = some x.2) tLBool := ⟨rfl, rfl, rfl, trivial⟩
theorem inLTx : AllT (fun x => F x.1 = some x.2) tLTx := ⟨rfl, rfl, trivial⟩
theorem inLTxEvent : AllT (fun x => F x.1 = some x.2) tLTxEvent := ⟨rfl, rfl, rfl, rfl, rfl, rfl, trivial⟩
theorem inS01d : AllT (fun x => F x.1 = some x.2) tS01d := ⟨rfl, trivial⟩
theorem inS14 : AllT (fun x => F x.1 = some x.2) tS14 := ⟨rfl, rfl, rfl, rfl, rfl, rfl, rfl, rfl, trivial⟩
theorem inWPlayTx : AllT (fun x => F x.1 = some x.2) tWPlayTx := ⟨rfl, trivial⟩
end Go.Proofs.Ytgogajbfiocdbaa.A.ExactPlayTx
