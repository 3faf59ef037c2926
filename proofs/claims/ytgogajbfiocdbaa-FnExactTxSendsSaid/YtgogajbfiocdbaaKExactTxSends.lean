/- The functions that FnExactTxSends reaches: the program's code against the compact code, entry by entry. -/
import Derived.Test.YtgogajbfiocdbaaB6
import Derived.Test.YtgogajbfiocdbaaProg
import Derived.Test.YtgogajbfiocdbaaGI14
import Derived.Test.YtgogajbfiocdbaaGLRequest
import Derived.Test.YtgogajbfiocdbaaGLTx
import Derived.Test.YtgogajbfiocdbaaGS01d
import Derived.Test.YtgogajbfiocdbaaGS14
import Derived.Test.YtgogajbfiocdbaaGWTxSends
namespace Go.Proofs.Ytgogajbfiocdbaa.A.ExactTxSends
open Go
def c : CC where
  T := [(3, ⟨1, 8, false, some [.int .i64 0], (.int .i64)⟩),
    (4, ⟨1, 1, false, some [.bool false], .bool⟩),
    (29, ⟨1, 8, false, some [.int .u64 0], (.int .u64)⟩),
    (31, ⟨10, 56, true, some [.int .i64 0, .int .u64 0, .int .u64 0, .int .u64 0, .int .i64 0, .bool false, .bool false, .bool false, .bool false, .int .i64 0], (.struct [(0, 1, false), (1, 1, false), (2, 1, false), (3, 1, false), (4, 1, false), (5, 1, false), (6, 1, false), (7, 1, false), (8, 1, false), (9, 1, false)])⟩),
    (32, ⟨10, 56, true, some [.int .i64 0, .int .u64 0, .int .u64 0, .int .u64 0, .int .i64 0, .bool false, .bool false, .bool false, .bool false, .int .i64 0], (.struct [(0, 1, false), (1, 1, false), (2, 1, false), (3, 1, false), (4, 1, false), (5, 1, false), (6, 1, false), (7, 1, false), (8, 1, false), (9, 1, false)])⟩),
    (54, ⟨1, 24, false, some [.nil], (.slice 68 3)⟩),
    (68, ⟨5, 40, true, some [.int .i64 0, .int .i64 0, .int .u64 0, .int .u64 0, .int .i64 0], (.struct [(0, 1, false), (1, 1, false), (2, 1, false), (3, 1, false), (4, 1, false)])⟩)]
  F := [(8, 45), (21, 13), (33, 46), (34, 47), (35, 48), (36, 49), (37, 50), (70, 5), (74, 14), (84, 28), (85, 99), (112, 30)]
  eqT := []
  adds := []
def F : Nat → Option RF := lk (tI14 ++ tLRequest ++ tLTx ++ tS01d ++ tS14 ++ tWTxSends)
def tab : List (Nat × FuncId × RF) := [(45, 8, r45), (13, 21, r13), (46, 33, r46), (47, 34, r47), (48, 35, r48), (49, 36, r49), (50, 37, r50), (14, 74, r14), (28, 84, r28), (99, 85, r99), (5, 70, r5), (30, 112, r30)]
def tags : List (Nat × TypeId × Nat) := [(3, 68, 5)]
theorem ok45 : FnOk Try.prog c F (45, 8, r45) := ⟨Try.f8, [], [], Try.func8, by kernel_rfl, by kernel_rfl, by kernel_rfl⟩
theorem ok13 : FnOk Try.prog c F (13, 21, r13) := ⟨Try.f21, [], [], Try.func21, by kernel_rfl, by kernel_rfl, by kernel_rfl⟩
theorem ok46 : FnOk Try.prog c F (46, 33, r46) := ⟨Try.f33, [], [[1, 3, 4], [0, 1, 4, 2, 3, 5], [0, 1, 4, 2, 3, 5], [0, 1, 4, 2, 3, 5], [0, 1, 4, 2, 3, 5]], Try.func33, by kernel_rfl, by kernel_rfl, by kernel_rfl⟩
theorem ok47 : FnOk Try.prog c F (47, 34, r47) := ⟨Try.f34, [], [], Try.func34, by kernel_rfl, by kernel_rfl, by kernel_rfl⟩
theorem ok48 : FnOk Try.prog c F (48, 35, r48) := ⟨Try.f35, [], [[0, 1, 5], [0, 1, 2, 4, 5, 6, 3, 7, 8, 9], [0, 1, 2, 3, 4, 5, 6, 7, 8, 9]], Try.func35, by kernel_rfl, by kernel_rfl, by kernel_rfl⟩
theorem ok49 : FnOk Try.prog c F (49, 36, r49) := ⟨Try.f36, [], [[0, 1, 5]], Try.func36, by kernel_rfl, by kernel_rfl, by kernel_rfl⟩
theorem ok50 : FnOk Try.prog c F (50, 37, r50) := ⟨Try.f37, [], [[0, 1, 5]], Try.func37, by kernel_rfl, by kernel_rfl, by kernel_rfl⟩
theorem ok14 : FnOk Try.prog c F (14, 74, r14) := ⟨Try.f74, [], [[0, 1, 2, 3, 4, 5, 6, 7, 8, 12, 9, 10, 11, 13], [0, 1, 2, 3, 4, 5, 6, 7, 8, 12, 9, 10, 11, 13]], Try.func74, by kernel_rfl, by kernel_rfl, by kernel_rfl⟩
theorem ok28 : FnOk Try.prog c F (28, 84, r28) := ⟨Try.f84, [], [[0, 1, 2, 3, 4, 5, 6, 7, 8, 12, 9, 10, 11, 13], [0, 1, 2, 3, 4, 5, 6, 7, 8, 12, 9, 10, 11, 13]], Try.func84, by kernel_rfl, by kernel_rfl, by kernel_rfl⟩
theorem ok99 : FnOk Try.prog c F (99, 85, r99) := ⟨Try.f85, [], [], Try.func85, by kernel_rfl, by kernel_rfl, by kernel_rfl⟩
theorem ok5 : FnOk Try.prog c F (5, 70, r5) := ⟨Try.f70, [], [], Try.func70, by kernel_rfl, by kernel_rfl, by kernel_rfl⟩
theorem ok30 : FnOk Try.prog c F (30, 112, r30) := ⟨Try.f112, [], [], Try.func112, by kernel_rfl, by kernel_rfl, by kernel_rfl⟩
theorem okT : (c.T.all fun x => x.2.okB Try.prog (mkCfg Try.prog tab tags).ET (mkCfg Try.prog tab tags).SZ x.1) = true := by kernel_rfl
theorem okF : (c.F.all fun x => decide ((lk tab x.2).map (·.1) = some x.1)) = true := by kernel_rfl
theorem okTab : AllT (FnOk Try.prog c F) tab := ⟨ok45, ok13, ok46, ok47, ok48, ok49, ok50, ok14, ok28, ok99, ok5, ok30, trivial⟩
theorem prog (O : Nat) : ProgOk ((mkCfg Try.prog tab tags).at O) c F (fun _ _ _ => none) :=
  mkProg okT okF okTab ⟨⟩ trivial O
theorem inI14 : AllT (fun x => F x.1 = some x.2) tI14 := ⟨rfl, rfl, rfl, rfl, rfl, rfl, rfl, rfl, rfl, rfl, rfl, rfl, rfl, trivial⟩
theorem inLRequest : AllT (fun x => F x.1 = some x.2) tLRequest := ⟨rfl, rfl, rfl, rfl, rfl, trivial⟩
theorem inLTx : AllT (fun x => F x.1 = some x.2) tLTx := ⟨rfl, rfl, trivial⟩
theorem inS01d : AllT (fun x => F x.1 = some x.2) tS01d := ⟨rfl, trivial⟩
theorem inS14 : AllT (fun x => F x.1 = some x.2) tS14 := ⟨rfl, rfl, rfl, rfl, rfl, rfl, rfl, rfl, trivial⟩
theorem inWTxSends : AllT (fun x => F x.1 = some x.2) tWTxSends := ⟨rfl, trivial⟩
end Go.Proofs.Ytgogajbfiocdbaa.A.ExactTxSends
