/- The functions that FnExactMovedBetween reaches: the program's code against the compact code, entry by entry. -/
import Derived.Test.YtgogajbfiocdbaaB6
import Derived.Test.YtgogajbfiocdbaaProg
import Derived.Test.YtgogajbfiocdbaaGI11
import Derived.Test.YtgogajbfiocdbaaGI12
import Derived.Test.YtgogajbfiocdbaaGLChart
import Derived.Test.YtgogajbfiocdbaaGLRange
import Derived.Test.YtgogajbfiocdbaaGLibslicesIndexFuncimplRangeimplRange
import Derived.Test.YtgogajbfiocdbaaGS01d
import Derived.Test.YtgogajbfiocdbaaGS11
import Derived.Test.YtgogajbfiocdbaaGS12
import Derived.Test.YtgogajbfiocdbaaGWMovedBetween
namespace Go.Proofs.Ytgogajbfiocdbaa.A.ExactMovedBetween
open Go
def c : CC where
  T := [(3, ⟨1, 8, false, some [.int .i64 0], (.int .i64)⟩),
    (4, ⟨1, 1, false, some [.bool false], .bool⟩),
    (29, ⟨1, 8, false, some [.int .u64 0], (.int .u64)⟩),
    (40, ⟨1, 24, false, some [.nil], (.slice 155 8)⟩),
    (42, ⟨5, 56, true, some [.int .i64 0, .nil, .bool false, .int .u64 0, .int .i64 0], (.struct [(0, 1, false), (1, 1, false), (2, 1, false), (3, 1, false), (4, 1, false)])⟩),
    (46, ⟨1, 24, false, some [.nil], (.slice 133 7)⟩),
    (48, ⟨5, 56, true, some [.int .i64 0, .nil, .bool false, .int .u64 0, .int .i64 0], (.struct [(0, 1, false), (1, 1, false), (2, 1, false), (3, 1, false), (4, 1, false)])⟩),
    (133, ⟨3, 24, true, some [.int .u64 0, .int .u64 0, .int .i64 0], (.struct [(0, 1, false), (1, 1, false), (2, 1, false)])⟩),
    (155, ⟨3, 24, true, some [.int .u64 0, .int .u64 0, .int .i64 0], (.struct [(0, 1, false), (1, 1, false), (2, 1, false)])⟩)]
  F := [(7, 72), (26, 67), (27, 69), (28, 68), (30, 71), (31, 73), (32, 74), (70, 5), (77, 102), (78, 103), (79, 104), (80, 105), (81, 106), (82, 107), (83, 108), (103, 120), (104, 121), (105, 122), (106, 123), (107, 124), (108, 7), (109, 126), (110, 125), (111, 127)]
  eqT := []
  adds := []
def F : Nat → Option RF := lk (tI11 ++ tI12 ++ tLChart ++ tLRange ++ tLibslicesIndexFuncimplRangeimplRange ++ tS01d ++ tS11 ++ tS12 ++ tWMovedBetween)
def tab : List (Nat × FuncId × RF) := [(72, 7, r72), (67, 26, r67), (68, 28, r68), (71, 30, r71), (73, 31, r73), (74, 32, r74), (102, 77, r102), (105, 80, r105), (108, 83, r108), (69, 27, r69), (106, 81, r106), (107, 82, r107), (123, 106, r123), (127, 111, r127), (103, 78, r103), (104, 79, r104), (124, 107, r124), (7, 108, r7), (126, 109, r126), (125, 110, r125), (5, 70, r5), (120, 103, r120), (121, 104, r121), (122, 105, r122)]
def tags : List (Nat × TypeId × Nat) := [(7, 133, 3), (8, 155, 3)]
theorem ok72 : FnOk Try.prog c F (72, 7, r72) := ⟨Try.f7, [], [[4, 0, 2, 1, 3, 5, 6], [0, 1, 2, 3, 4, 5, 6], [0, 1, 2, 3, 4], [0, 1, 2, 3, 4], [0, 1, 2, 3, 4], [0, 1, 2, 3, 4]], Try.func7, by kernel_rfl, by kernel_rfl, by kernel_rfl⟩
theorem ok67 : FnOk Try.prog c F (67, 26, r67) := ⟨Try.f26, [], [], Try.func26, by kernel_rfl, by kernel_rfl, by kernel_rfl⟩
theorem ok68 : FnOk Try.prog c F (68, 28, r68) := ⟨Try.f28, [], [], Try.func28, by kernel_rfl, by kernel_rfl, by kernel_rfl⟩
theorem ok71 : FnOk Try.prog c F (71, 30, r71) := ⟨Try.f30, [], [], Try.func30, by kernel_rfl, by kernel_rfl, by kernel_rfl⟩
theorem ok73 : FnOk Try.prog c F (73, 31, r73) := ⟨Try.f31, [], [], Try.func31, by kernel_rfl, by kernel_rfl, by kernel_rfl⟩
theorem ok74 : FnOk Try.prog c F (74, 32, r74) := ⟨Try.f32, [], [[0, 1, 2, 3, 4, 5, 6, 11, 20, 7, 8, 9, 10, 16, 17, 18, 19, 12, 13, 14, 15, 21, 22, 23, 24, 25, 26, 27], [0, 1, 2, 3, 4, 5, 6, 7, 8, 9, 10, 11, 12, 13, 14, 15, 16, 17, 18, 19, 20, 21, 22, 23, 24, 25, 26, 27]], Try.func32, by kernel_rfl, by kernel_rfl, by kernel_rfl⟩
theorem ok102 : FnOk Try.prog c F (102, 77, r102) := ⟨Try.f77, [], [], Try.func77, by kernel_rfl, by kernel_rfl, by kernel_rfl⟩
theorem ok105 : FnOk Try.prog c F (105, 80, r105) := ⟨Try.f80, [], [[0, 3, 4]], Try.func80, by kernel_rfl, by kernel_rfl, by kernel_rfl⟩
theorem ok108 : FnOk Try.prog c F (108, 83, r108) := ⟨Try.f83, [], [[0, 1, 5], [0, 1, 2, 4, 5, 6, 3, 7, 8, 9], [0, 1, 2, 3, 4, 5, 6, 7, 8, 9]], Try.func83, by kernel_rfl, by kernel_rfl, by kernel_rfl⟩
theorem ok69 : FnOk Try.prog c F (69, 27, r69) := ⟨Try.f27, [], [[4, 0, 1, 2, 3, 9, 10, 5, 6, 7, 8, 11, 12], [0, 1, 2, 3, 4, 5, 6, 7, 8, 11, 9, 10, 12]], Try.func27, by kernel_rfl, by kernel_rfl, by kernel_rfl⟩
theorem ok106 : FnOk Try.prog c F (106, 81, r106) := ⟨Try.f81, [], [[9, 0, 1, 2, 3, 4, 5, 6, 7, 8, 10], [0, 1, 2, 3, 4, 5, 6, 7, 8, 9, 10]], Try.func81, by kernel_rfl, by kernel_rfl, by kernel_rfl⟩
theorem ok107 : FnOk Try.prog c F (107, 82, r107) := ⟨Try.f82, [3], [], Try.func82, by kernel_rfl, by kernel_rfl, by kernel_rfl⟩
theorem ok123 : FnOk Try.prog c F (123, 106, r123) := ⟨Try.f106, [], [], Try.func106, by kernel_rfl, by kernel_rfl, by kernel_rfl⟩
theorem ok127 : FnOk Try.prog c F (127, 111, r127) := ⟨Try.f111, [], [], Try.func111, by kernel_rfl, by kernel_rfl, by kernel_rfl⟩
theorem ok103 : FnOk Try.prog c F (103, 78, r103) := ⟨Try.f78, [], [[0, 1, 2, 3, 4, 5, 6, 7, 10, 8, 9, 11, 12, 13, 14, 15, 16, 17, 18], [0, 1, 2, 3, 4, 5, 6, 7, 8, 9, 10, 11, 12, 13, 14, 15, 16, 17, 18]], Try.func78, by kernel_rfl, by kernel_rfl, by kernel_rfl⟩
theorem ok104 : FnOk Try.prog c F (104, 79, r104) := ⟨Try.f79, [], [[0, 1, 5]], Try.func79, by kernel_rfl, by kernel_rfl, by kernel_rfl⟩
theorem ok124 : FnOk Try.prog c F (124, 107, r124) := ⟨Try.f107, [], [[0, 30, 31, 32], [0, 1, 2, 3, 4, 5, 6, 7, 8, 9, 10, 11, 12, 13, 14, 15, 16, 17, 18, 22, 23, 24, 25, 19, 20, 21, 26, 27, 28, 29, 30, 31], [0, 1, 2, 3, 4, 5, 6, 7, 8, 9, 10, 11, 12, 13, 14, 15, 16, 17, 18, 19, 20, 21, 22, 23, 24, 25, 26, 27, 28, 29, 30, 31]], Try.func107, by kernel_rfl, by kernel_rfl, by kernel_rfl⟩
theorem ok7 : FnOk Try.prog c F (7, 108, r7) := ⟨Try.f108, [], [], Try.func108, by kernel_rfl, by kernel_rfl, by kernel_rfl⟩
theorem ok126 : FnOk Try.prog c F (126, 109, r126) := ⟨Try.f109, [], [[0, 1, 7, 8]], Try.func109, by kernel_rfl, by kernel_rfl, by kernel_rfl⟩
theorem ok125 : FnOk Try.prog c F (125, 110, r125) := ⟨Try.f110, [], [], Try.func110, by kernel_rfl, by kernel_rfl, by kernel_rfl⟩
theorem ok5 : FnOk Try.prog c F (5, 70, r5) := ⟨Try.f70, [], [], Try.func70, by kernel_rfl, by kernel_rfl, by kernel_rfl⟩
theorem ok120 : FnOk Try.prog c F (120, 103, r120) := ⟨Try.f103, [], [[0, 3], [0, 1, 2, 3, 4, 5, 6, 7, 8, 9, 10, 11, 12, 13, 14, 15, 16, 17, 18, 19, 20, 21, 22, 25, 26, 27, 28, 23, 24, 29, 30, 31, 32, 33, 34, 35], [0, 1, 2, 3, 4, 5, 6, 7, 8, 9, 10, 11, 12, 13, 14, 15, 16, 17, 18, 19, 20, 21, 22, 23, 24, 25, 26, 27, 28, 29, 30, 31, 32, 33, 34, 35]], Try.func103, by kernel_rfl, by kernel_rfl, by kernel_rfl⟩
theorem ok121 : FnOk Try.prog c F (121, 104, r121) := ⟨Try.f104, [], [[0, 1, 5]], Try.func104, by kernel_rfl, by kernel_rfl, by kernel_rfl⟩
theorem ok122 : FnOk Try.prog c F (122, 105, r122) := ⟨Try.f105, [], [], Try.func105, by kernel_rfl, by kernel_rfl, by kernel_rfl⟩
theorem okT : (c.T.all fun x => x.2.okB Try.prog (mkCfg Try.prog tab tags).ET (mkCfg Try.prog tab tags).SZ x.1) = true := by kernel_rfl
theorem okF : (c.F.all fun x => decide ((lk tab x.2).map (·.1) = some x.1)) = true := by kernel_rfl
theorem okTab : AllT (FnOk Try.prog c F) tab := ⟨ok72, ok67, ok68, ok71, ok73, ok74, ok102, ok105, ok108, ok69, ok106, ok107, ok123, ok127, ok103, ok104, ok124, ok7, ok126, ok125, ok5, ok120, ok121, ok122, trivial⟩
theorem prog (O : Nat) : ProgOk ((mkCfg Try.prog tab tags).at O) c F (fun _ _ _ => none) :=
  mkProg okT okF okTab ⟨⟩ trivial O
theorem inI11 : AllT (fun x => F x.1 = some x.2) tI11 := ⟨rfl, rfl, rfl, rfl, trivial⟩
theorem inI12 : AllT (fun x => F x.1 = some x.2) tI12 := ⟨rfl, rfl, rfl, rfl, trivial⟩
theorem inLChart : AllT (fun x => F x.1 = some x.2) tLChart := ⟨rfl, rfl, rfl, rfl, rfl, trivial⟩
theorem inLRange : AllT (fun x => F x.1 = some x.2) tLRange := ⟨rfl, rfl, rfl, rfl, rfl, rfl, rfl, trivial⟩
theorem inLibslicesIndexFuncimplRangeimplRange : AllT (fun x => F x.1 = some x.2) tLibslicesIndexFuncimplRangeimplRange := ⟨rfl, trivial⟩
theorem inS01d : AllT (fun x => F x.1 = some x.2) tS01d := ⟨rfl, trivial⟩
theorem inS11 : AllT (fun x => F x.1 = some x.2) tS11 := ⟨rfl, rfl, rfl, trivial⟩
theorem inS12 : AllT (fun x => F x.1 = some x.2) tS12 := ⟨rfl, rfl, rfl, rfl, rfl, trivial⟩
theorem inWMovedBetween : AllT (fun x => F x.1 = some x.2) tWMovedBetween := ⟨rfl, trivial⟩
end Go.Proofs.Ytgogajbfiocdbaa.A.ExactMovedBetween
