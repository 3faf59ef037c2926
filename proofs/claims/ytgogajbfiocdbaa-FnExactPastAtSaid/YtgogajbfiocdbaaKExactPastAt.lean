/- The functions that FnExactPastAt reaches: the program's code against the compact code, entry by entry. -/
import Derived.Test.YtgogajbfiocdbaaB6
import Derived.Test.YtgogajbfiocdbaaProg
import Derived.Test.YtgogajbfiocdbaaGI17
import Derived.Test.YtgogajbfiocdbaaGLLedgerCall
import Derived.Test.YtgogajbfiocdbaaGLPast
import Derived.Test.YtgogajbfiocdbaaGS01d
import Derived.Test.YtgogajbfiocdbaaGS17
import Derived.Test.YtgogajbfiocdbaaGWPastAt
namespace Go.Proofs.Ytgogajbfiocdbaa.A.ExactPastAt
open Go
def c : CC where
  T := [(3, ⟨1, 8, false, some [.int .i64 0], (.int .i64)⟩),
    (22, ⟨1, 24, false, some [.nil], (.slice 127 2)⟩),
    (25, ⟨1, 24, false, some [.nil], (.slice 122 1)⟩),
    (29, ⟨1, 8, false, some [.int .u64 0], (.int .u64)⟩),
    (120, ⟨4, 32, true, some [.int .i64 0, .int .u64 0, .int .u64 0, .int .u64 0], (.struct [(0, 1, false), (1, 1, false), (2, 1, false), (3, 1, false)])⟩),
    (122, ⟨8, 64, true, some [.int .i64 0, .int .u64 0, .int .u64 0, .int .u64 0, .int .i64 0, .int .i64 0, .int .i64 0, .int .u64 0], (.struct [(0, 4, true), (4, 1, false), (5, 1, false), (6, 1, false), (7, 1, false)])⟩),
    (125, ⟨4, 32, true, some [.int .i64 0, .int .u64 0, .int .u64 0, .int .u64 0], (.struct [(0, 1, false), (1, 1, false), (2, 1, false), (3, 1, false)])⟩),
    (127, ⟨8, 64, true, some [.int .i64 0, .int .u64 0, .int .u64 0, .int .u64 0, .int .i64 0, .int .i64 0, .int .i64 0, .int .u64 0], (.struct [(0, 4, true), (4, 1, false), (5, 1, false), (6, 1, false), (7, 1, false)])⟩)]
  F := [(9, 51), (15, 40), (16, 42), (17, 41), (19, 44), (38, 52), (39, 53), (40, 54), (41, 55), (70, 5), (71, 9), (72, 97), (73, 98), (101, 26), (102, 119)]
  eqT := []
  adds := []
def F : Nat → Option RF := lk (tI17 ++ tLLedgerCall ++ tLPast ++ tS01d ++ tS17 ++ tWPastAt)
def tab : List (Nat × FuncId × RF) := [(51, 9, r51), (40, 15, r40), (41, 17, r41), (44, 19, r44), (52, 38, r52), (53, 39, r53), (54, 40, r54), (55, 41, r55), (9, 71, r9), (98, 73, r98), (42, 16, r42), (97, 72, r97), (26, 101, r26), (119, 102, r119), (5, 70, r5)]
def tags : List (Nat × TypeId × Nat) := [(1, 122, 8), (2, 127, 8)]
theorem ok51 : FnOk Try.prog c F (51, 9, r51) := ⟨Try.f9, [], [], Try.func9, by kernel_rfl, by kernel_rfl, by kernel_rfl⟩
theorem ok40 : FnOk Try.prog c F (40, 15, r40) := ⟨Try.f15, [], [], Try.func15, by kernel_rfl, by kernel_rfl, by kernel_rfl⟩
theorem ok41 : FnOk Try.prog c F (41, 17, r41) := ⟨Try.f17, [], [[0, 3, 4]], Try.func17, by kernel_rfl, by kernel_rfl, by kernel_rfl⟩
theorem ok44 : FnOk Try.prog c F (44, 19, r44) := ⟨Try.f19, [], [[0, 1, 5], [0, 1, 2, 4, 5, 6, 3, 7, 8, 9], [0, 1, 2, 3, 4, 5, 6, 7, 8, 9]], Try.func19, by kernel_rfl, by kernel_rfl, by kernel_rfl⟩
theorem ok52 : FnOk Try.prog c F (52, 38, r52) := ⟨Try.f38, [], [[0, 1, 5, 6]], Try.func38, by kernel_rfl, by kernel_rfl, by kernel_rfl⟩
theorem ok53 : FnOk Try.prog c F (53, 39, r53) := ⟨Try.f39, [], [[1, 5, 12, 13, 14]], Try.func39, by kernel_rfl, by kernel_rfl, by kernel_rfl⟩
theorem ok54 : FnOk Try.prog c F (54, 40, r54) := ⟨Try.f40, [], [[0, 1, 5]], Try.func40, by kernel_rfl, by kernel_rfl, by kernel_rfl⟩
theorem ok55 : FnOk Try.prog c F (55, 41, r55) := ⟨Try.f41, [], [[0, 1, 5]], Try.func41, by kernel_rfl, by kernel_rfl, by kernel_rfl⟩
theorem ok9 : FnOk Try.prog c F (9, 71, r9) := ⟨Try.f71, [], [], Try.func71, by kernel_rfl, by kernel_rfl, by kernel_rfl⟩
theorem ok98 : FnOk Try.prog c F (98, 73, r98) := ⟨Try.f73, [], [], Try.func73, by kernel_rfl, by kernel_rfl, by kernel_rfl⟩
theorem ok42 : FnOk Try.prog c F (42, 16, r42) := ⟨Try.f16, [], [[0, 3]], Try.func16, by kernel_rfl, by kernel_rfl, by kernel_rfl⟩
theorem ok97 : FnOk Try.prog c F (97, 72, r97) := ⟨Try.f72, [], [[0, 5, 6, 7]], Try.func72, by kernel_rfl, by kernel_rfl, by kernel_rfl⟩
theorem ok26 : FnOk Try.prog c F (26, 101, r26) := ⟨Try.f101, [], [], Try.func101, by kernel_rfl, by kernel_rfl, by kernel_rfl⟩
theorem ok119 : FnOk Try.prog c F (119, 102, r119) := ⟨Try.f102, [], [], Try.func102, by kernel_rfl, by kernel_rfl, by kernel_rfl⟩
theorem ok5 : FnOk Try.prog c F (5, 70, r5) := ⟨Try.f70, [], [], Try.func70, by kernel_rfl, by kernel_rfl, by kernel_rfl⟩
theorem okT : (c.T.all fun x => x.2.okB Try.prog (mkCfg Try.prog tab tags).ET (mkCfg Try.prog tab tags).SZ x.1) = true := by kernel_rfl
theorem okF : (c.F.all fun x => decide ((lk tab x.2).map (·.1) = some x.1)) = true := by kernel_rfl
theorem okTab : AllT (FnOk Try.prog c F) tab := ⟨ok51, ok40, ok41, ok44, ok52, ok53, ok54, ok55, ok9, ok98, ok42, ok97, ok26, ok119, ok5, trivial⟩
theorem prog (O : Nat) : ProgOk ((mkCfg Try.prog tab tags).at O) c F (fun _ _ _ => none) :=
  mkProg okT okF okTab ⟨⟩ trivial O
theorem inI17 : AllT (fun x => F x.1 = some x.2) tI17 := ⟨rfl, rfl, rfl, rfl, rfl, trivial⟩
theorem inLLedgerCall : AllT (fun x => F x.1 = some x.2) tLLedgerCall := ⟨rfl, rfl, trivial⟩
theorem inLPast : AllT (fun x => F x.1 = some x.2) tLPast := ⟨rfl, rfl, rfl, rfl, rfl, rfl, rfl, trivial⟩
theorem inS01d : AllT (fun x => F x.1 = some x.2) tS01d := ⟨rfl, trivial⟩
theorem inS17 : AllT (fun x => F x.1 = some x.2) tS17 := ⟨rfl, rfl, rfl, trivial⟩
theorem inWPastAt : AllT (fun x => F x.1 = some x.2) tWPastAt := ⟨rfl, trivial⟩
end Go.Proofs.Ytgogajbfiocdbaa.A.ExactPastAt
