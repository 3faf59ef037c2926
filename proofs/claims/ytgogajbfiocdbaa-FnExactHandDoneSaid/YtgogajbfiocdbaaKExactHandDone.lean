/- The functions that FnExactHandDone reaches: the program's code against the compact code, entry by entry. -/
import Derived.Test.YtgogajbfiocdbaaB6
import Derived.Test.YtgogajbfiocdbaaProg
import Derived.Test.YtgogajbfiocdbaaGI11
import Derived.Test.YtgogajbfiocdbaaGI15
import Derived.Test.YtgogajbfiocdbaaGLAccount
import Derived.Test.YtgogajbfiocdbaaGLBook
import Derived.Test.YtgogajbfiocdbaaGLFin
import Derived.Test.YtgogajbfiocdbaaGLHand
import Derived.Test.YtgogajbfiocdbaaGLHandMsg
import Derived.Test.YtgogajbfiocdbaaGLShard
import Derived.Test.YtgogajbfiocdbaaGS01d
import Derived.Test.YtgogajbfiocdbaaGS15
import Derived.Test.YtgogajbfiocdbaaGWHandDone
namespace Go.Proofs.Ytgogajbfiocdbaa.A.ExactHandDone
open Go
def c : CC where
  T := [(3, ⟨1, 8, false, some [.int .i64 0], (.int .i64)⟩),
    (4, ⟨1, 1, false, some [.bool false], .bool⟩),
    (29, ⟨1, 8, false, some [.int .u64 0], (.int .u64)⟩),
    (75, ⟨5, 40, true, some [.int .u64 0, .int .i64 0, .int .i64 0, .int .i64 0, .int .i64 0], (.struct [(0, 1, false), (1, 1, false), (2, 1, false), (3, 1, false), (4, 1, false)])⟩),
    (76, ⟨1, 24, false, some [.nil], (.slice 178 12)⟩),
    (78, ⟨1, 24, true, some [.nil], (.struct [(0, 1, false)])⟩),
    (79, ⟨1, 24, false, some [.nil], (.slice 172 10)⟩),
    (81, ⟨6, 80, true, some [.int .u64 0, .int .u64 0, .int .i64 0, .int .i64 0, .nil, .nil], (.struct [(0, 1, false), (1, 1, false), (2, 1, false), (3, 1, false), (4, 1, true), (5, 1, false)])⟩),
    (83, ⟨10, 112, true, some [.int .i64 0, .int .u64 0, .int .i64 0, .int .i64 0, .int .u64 0, .int .u64 0, .int .i64 0, .int .i64 0, .nil, .nil], (.struct [(0, 1, false), (1, 1, false), (2, 1, false), (3, 1, false), (4, 6, true)])⟩),
    (85, ⟨5, 40, true, some [.int .u64 0, .int .i64 0, .int .i64 0, .int .i64 0, .int .i64 0], (.struct [(0, 1, false), (1, 1, false), (2, 1, false), (3, 1, false), (4, 1, false)])⟩),
    (89, ⟨1, 24, false, some [.nil], (.slice 176 11)⟩),
    (91, ⟨1, 24, true, some [.nil], (.struct [(0, 1, false)])⟩),
    (92, ⟨1, 24, false, some [.nil], (.slice 170 9)⟩),
    (94, ⟨6, 80, true, some [.int .u64 0, .int .u64 0, .int .i64 0, .int .i64 0, .nil, .nil], (.struct [(0, 1, false), (1, 1, false), (2, 1, false), (3, 1, false), (4, 1, true), (5, 1, false)])⟩),
    (96, ⟨10, 112, true, some [.int .i64 0, .int .u64 0, .int .i64 0, .int .i64 0, .int .u64 0, .int .u64 0, .int .i64 0, .int .i64 0, .nil, .nil], (.struct [(0, 1, false), (1, 1, false), (2, 1, false), (3, 1, false), (4, 6, true)])⟩),
    (170, ⟨2, 16, true, some [.int .i64 0, .int .u64 0], (.struct [(0, 1, false), (1, 1, false)])⟩),
    (172, ⟨2, 16, true, some [.int .i64 0, .int .u64 0], (.struct [(0, 1, false), (1, 1, false)])⟩),
    (176, ⟨5, 40, true, some [.int .u64 0, .int .u64 0, .int .u64 0, .int .u64 0, .int .i64 0], (.struct [(0, 1, false), (1, 1, false), (2, 1, false), (3, 1, false), (4, 1, false)])⟩),
    (178, ⟨5, 40, true, some [.int .u64 0, .int .u64 0, .int .u64 0, .int .u64 0, .int .i64 0], (.struct [(0, 1, false), (1, 1, false), (2, 1, false), (3, 1, false), (4, 1, false)])⟩)]
  F := [(11, 81), (47, 82), (48, 84), (49, 2), (50, 83), (51, 85), (52, 86), (53, 87), (70, 5), (88, 111), (89, 3), (90, 112), (91, 113), (92, 114), (108, 7), (113, 128), (114, 129), (115, 130), (116, 131), (117, 6), (118, 132), (119, 133), (120, 134), (122, 136), (123, 137), (124, 138), (125, 139), (126, 140), (127, 141), (128, 142)]
  eqT := []
  adds := []
def F : Nat → Option RF := lk (tI11 ++ tI15 ++ tLAccount ++ tLBook ++ tLFin ++ tLHand ++ tLHandMsg ++ tLShard ++ tS01d ++ tS15 ++ tWHandDone)
def tab : List (Nat × FuncId × RF) := [(81, 11, r81), (82, 47, r82), (84, 48, r84), (2, 49, r2), (83, 50, r83), (85, 51, r85), (86, 52, r86), (87, 53, r87), (111, 88, r111), (3, 89, r3), (112, 90, r112), (113, 91, r113), (114, 92, r114), (128, 113, r128), (129, 114, r129), (5, 70, r5), (130, 115, r130), (131, 116, r131), (6, 117, r6), (132, 118, r132), (133, 119, r133), (134, 120, r134), (136, 122, r136), (137, 123, r137), (138, 124, r138), (7, 108, r7), (139, 125, r139), (140, 126, r140), (141, 127, r141), (142, 128, r142)]
def tags : List (Nat × TypeId × Nat) := [(9, 170, 2), (10, 172, 2), (11, 176, 5), (12, 178, 5)]
theorem ok81 : FnOk Try.prog c F (81, 11, r81) := ⟨Try.f11, [], [[8, 0, 2, 1, 3, 4, 5, 6, 7, 9, 10], [0, 1, 2, 3, 4, 5, 6, 8, 9, 7, 10], [7, 0, 2, 1, 3, 4, 5, 6, 8, 9], [0, 1, 2, 3, 4, 5, 7, 8, 6, 9], [0, 1, 2, 3, 4], [0, 1, 2, 3, 4]], Try.func11, by kernel_rfl, by kernel_rfl, by kernel_rfl⟩
theorem ok82 : FnOk Try.prog c F (82, 47, r82) := ⟨Try.f47, [], [], Try.func47, by kernel_rfl, by kernel_rfl, by kernel_rfl⟩
theorem ok84 : FnOk Try.prog c F (84, 48, r84) := ⟨Try.f48, [], [], Try.func48, by kernel_rfl, by kernel_rfl, by kernel_rfl⟩
theorem ok2 : FnOk Try.prog c F (2, 49, r2) := ⟨Try.f49, [], [], Try.func49, by kernel_rfl, by kernel_rfl, by kernel_rfl⟩
theorem ok83 : FnOk Try.prog c F (83, 50, r83) := ⟨Try.f50, [], [], Try.func50, by kernel_rfl, by kernel_rfl, by kernel_rfl⟩
theorem ok85 : FnOk Try.prog c F (85, 51, r85) := ⟨Try.f51, [], [], Try.func51, by kernel_rfl, by kernel_rfl, by kernel_rfl⟩
theorem ok86 : FnOk Try.prog c F (86, 52, r86) := ⟨Try.f52, [], [], Try.func52, by kernel_rfl, by kernel_rfl, by kernel_rfl⟩
theorem ok87 : FnOk Try.prog c F (87, 53, r87) := ⟨Try.f53, [], [], Try.func53, by kernel_rfl, by kernel_rfl, by kernel_rfl⟩
theorem ok111 : FnOk Try.prog c F (111, 88, r111) := ⟨Try.f88, [], [], Try.func88, by kernel_rfl, by kernel_rfl, by kernel_rfl⟩
theorem ok3 : FnOk Try.prog c F (3, 89, r3) := ⟨Try.f89, [], [], Try.func89, by kernel_rfl, by kernel_rfl, by kernel_rfl⟩
theorem ok112 : FnOk Try.prog c F (112, 90, r112) := ⟨Try.f90, [], [], Try.func90, by kernel_rfl, by kernel_rfl, by kernel_rfl⟩
theorem ok113 : FnOk Try.prog c F (113, 91, r113) := ⟨Try.f91, [], [[0, 1, 2, 3, 4, 5, 6, 7, 8, 9, 10, 11, 12, 13, 14, 15, 16, 17, 18, 19, 20, 21, 22, 23, 24, 25, 26, 27, 28], [0, 1, 2, 3, 4, 5, 6, 7, 8, 9, 10, 11, 12, 13, 14, 15, 16, 17, 18, 19, 20, 21, 22, 23, 24, 25, 26, 27, 28]], Try.func91, by kernel_rfl, by kernel_rfl, by kernel_rfl⟩
theorem ok114 : FnOk Try.prog c F (114, 92, r114) := ⟨Try.f92, [], [], Try.func92, by kernel_rfl, by kernel_rfl, by kernel_rfl⟩
theorem ok128 : FnOk Try.prog c F (128, 113, r128) := ⟨Try.f113, [], [], Try.func113, by kernel_rfl, by kernel_rfl, by kernel_rfl⟩
theorem ok129 : FnOk Try.prog c F (129, 114, r129) := ⟨Try.f114, [], [], Try.func114, by kernel_rfl, by kernel_rfl, by kernel_rfl⟩
theorem ok5 : FnOk Try.prog c F (5, 70, r5) := ⟨Try.f70, [], [], Try.func70, by kernel_rfl, by kernel_rfl, by kernel_rfl⟩
theorem ok130 : FnOk Try.prog c F (130, 115, r130) := ⟨Try.f115, [], [], Try.func115, by kernel_rfl, by kernel_rfl, by kernel_rfl⟩
theorem ok131 : FnOk Try.prog c F (131, 116, r131) := ⟨Try.f116, [], [[0, 3, 4]], Try.func116, by kernel_rfl, by kernel_rfl, by kernel_rfl⟩
theorem ok6 : FnOk Try.prog c F (6, 117, r6) := ⟨Try.f117, [], [], Try.func117, by kernel_rfl, by kernel_rfl, by kernel_rfl⟩
theorem ok132 : FnOk Try.prog c F (132, 118, r132) := ⟨Try.f118, [], [], Try.func118, by kernel_rfl, by kernel_rfl, by kernel_rfl⟩
theorem ok133 : FnOk Try.prog c F (133, 119, r133) := ⟨Try.f119, [], [], Try.func119, by kernel_rfl, by kernel_rfl, by kernel_rfl⟩
theorem ok134 : FnOk Try.prog c F (134, 120, r134) := ⟨Try.f120, [], [[0, 1, 5], [0, 1, 2, 4, 5, 6, 3, 7, 8, 9], [0, 1, 2, 3, 4, 5, 6, 7, 8, 9]], Try.func120, by kernel_rfl, by kernel_rfl, by kernel_rfl⟩
theorem ok136 : FnOk Try.prog c F (136, 122, r136) := ⟨Try.f122, [], [], Try.func122, by kernel_rfl, by kernel_rfl, by kernel_rfl⟩
theorem ok137 : FnOk Try.prog c F (137, 123, r137) := ⟨Try.f123, [], [[0, 3, 4]], Try.func123, by kernel_rfl, by kernel_rfl, by kernel_rfl⟩
theorem ok138 : FnOk Try.prog c F (138, 124, r138) := ⟨Try.f124, [], [], Try.func124, by kernel_rfl, by kernel_rfl, by kernel_rfl⟩
theorem ok7 : FnOk Try.prog c F (7, 108, r7) := ⟨Try.f108, [], [], Try.func108, by kernel_rfl, by kernel_rfl, by kernel_rfl⟩
theorem ok139 : FnOk Try.prog c F (139, 125, r139) := ⟨Try.f125, [], [[0, 1, 5], [0, 1, 2, 4, 5, 6, 3, 7, 8, 9], [0, 1, 2, 3, 4, 5, 6, 7, 8, 9]], Try.func125, by kernel_rfl, by kernel_rfl, by kernel_rfl⟩
theorem ok140 : FnOk Try.prog c F (140, 126, r140) := ⟨Try.f126, [], [], Try.func126, by kernel_rfl, by kernel_rfl, by kernel_rfl⟩
theorem ok141 : FnOk Try.prog c F (141, 127, r141) := ⟨Try.f127, [], [], Try.func127, by kernel_rfl, by kernel_rfl, by kernel_rfl⟩
theorem ok142 : FnOk Try.prog c F (142, 128, r142) := ⟨Try.f128, [], [], Try.func128, by kernel_rfl, by kernel_rfl, by kernel_rfl⟩
theorem okT : (c.T.all fun x => x.2.okB Try.prog (mkCfg Try.prog tab tags).ET (mkCfg Try.prog tab tags).SZ x.1) = true := by kernel_rfl
theorem okF : (c.F.all fun x => decide ((lk tab x.2).map (·.1) = some x.1)) = true := by kernel_rfl
theorem okTab : AllT (FnOk Try.prog c F) tab := ⟨ok81, ok82, ok84, ok2, ok83, ok85, ok86, ok87, ok111, ok3, ok112, ok113, ok114, ok128, ok129, ok5, ok130, ok131, ok6, ok132, ok133, ok134, ok136, ok137, ok138, ok7, ok139, ok140, ok141, ok142, trivial⟩
theorem prog (O : Nat) : ProgOk ((mkCfg Try.prog tab tags).at O) c F (fun _ _ _ => none) :=
  mkProg okT okF okTab ⟨⟩ trivial O
theorem inI11 : AllT (fun x => F x.1 = some x.2) tI11 := ⟨rfl, rfl, rfl, rfl, trivial⟩
theorem inI15 : AllT (fun x => F x.1 = some x.2) tI15 := ⟨rfl, rfl, rfl, rfl, rfl, trivial⟩
theorem inLAccount : AllT (fun x => F x.1 = some x.2) tLAccount := ⟨rfl, rfl, rfl, rfl, rfl, trivial⟩
theorem inLBook : AllT (fun x => F x.1 = some x.2) tLBook := ⟨rfl, rfl, rfl, trivial⟩
theorem inLFin : AllT (fun x => F x.1 = some x.2) tLFin := ⟨rfl, rfl, rfl, rfl, rfl, trivial⟩
theorem inLHand : AllT (fun x => F x.1 = some x.2) tLHand := ⟨rfl, rfl, trivial⟩
theorem inLHandMsg : AllT (fun x => F x.1 = some x.2) tLHandMsg := ⟨rfl, rfl, rfl, trivial⟩
theorem inLShard : AllT (fun x => F x.1 = some x.2) tLShard := ⟨rfl, rfl, rfl, trivial⟩
theorem inS01d : AllT (fun x => F x.1 = some x.2) tS01d := ⟨rfl, trivial⟩
theorem inS15 : AllT (fun x => F x.1 = some x.2) tS15 := ⟨rfl, rfl, trivial⟩
theorem inWHandDone : AllT (fun x => F x.1 = some x.2) tWHandDone := ⟨rfl, trivial⟩
end Go.Proofs.Ytgogajbfiocdbaa.A.ExactHandDone
