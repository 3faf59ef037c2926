/- The functions that FnExactTxAck reaches: the program's code against the compact code, entry by entry. -/
import Derived.Test.YtgogajbfiocdbaaB6
import Derived.Test.YtgogajbfiocdbaaProg
import Derived.Test.YtgogajbfiocdbaaGI14
import Derived.Test.YtgogajbfiocdbaaGLTx
import Derived.Test.YtgogajbfiocdbaaGS01d
import Derived.Test.YtgogajbfiocdbaaGS14
import Derived.Test.YtgogajbfiocdbaaGWTxAck
namespace Go.Proofs.Ytgogajbfiocdbaa.A.ExactTxAck
open Go
def c : CC where
  T := [(3, ⟨1, 8, false, some [.int .i64 0], (.int .i64)⟩),
    (4, ⟨1, 1, false, some [.bool false], .bool⟩),
    (29, ⟨1, 8, false, some [.int .u64 0], (.int .u64)⟩),
    (31, ⟨10, 56, true, some [.int .i64 0, .int .u64 0, .int .u64 0, .int .u64 0, .int .i64 0, .bool false, .bool false, .bool false, .bool false, .int .i64 0], (.struct [(0, 1, false), (1, 1, false), (2, 1, false), (3, 1, false), (4, 1, false), (5, 1, false), (6, 1, false), (7, 1, false), (8, 1, false), (9, 1, false)])⟩),
    (32, ⟨10, 56, true, some [.int .i64 0, .int .u64 0, .int .u64 0, .int .u64 0, .int .i64 0, .bool false, .bool false, .bool false, .bool false, .int .i64 0], (.struct [(0, 1, false), (1, 1, false), (2, 1, false), (3, 1, false), (4, 1, false), (5, 1, false), (6, 1, false), (7, 1, false), (8, 1, false), (9, 1, false)])⟩)]
  F := [(4, 31), (20, 32), (21, 13), (22, 33), (23, 22), (70, 5), (74, 14), (75, 37), (84, 28), (112, 30)]
  eqT := []
  adds := []
def F : Nat → Option RF := lk (tI14 ++ tLTx ++ tS01d ++ tS14 ++ tWTxAck)
def tab : List (Nat × FuncId × RF) := [(31, 4, r31), (32, 20, r32), (13, 21, r13), (33, 22, r33), (22, 23, r22), (5, 70, r5), (14, 74, r14), (37, 75, r37), (28, 84, r28), (30, 112, r30)]
def tags : List (Nat × TypeId × Nat) := []
theorem ok31 : FnOk Try.prog c F (31, 4, r31) := ⟨Try.f4, [], [], Try.func4, by kernel_rfl, by kernel_rfl, by kernel_rfl⟩
theorem ok32 : FnOk Try.prog c F (32, 20, r32) := ⟨Try.f20, [], [], Try.func20, by kernel_rfl, by kernel_rfl, by kernel_rfl⟩
theorem ok13 : FnOk Try.prog c F (13, 21, r13) := ⟨Try.f21, [], [], Try.func21, by kernel_rfl, by kernel_rfl, by kernel_rfl⟩
theorem ok33 : FnOk Try.prog c F (33, 22, r33) := ⟨Try.f22, [], [], Try.func22, by kernel_rfl, by kernel_rfl, by kernel_rfl⟩
theorem ok22 : FnOk Try.prog c F (22, 23, r22) := ⟨Try.f23, [], [], Try.func23, by kernel_rfl, by kernel_rfl, by kernel_rfl⟩
theorem ok5 : FnOk Try.prog c F (5, 70, r5) := ⟨Try.f70, [], [], Try.func70, by kernel_rfl, by kernel_rfl, by kernel_rfl⟩
theorem ok14 : FnOk Try.prog c F (14, 74, r14) := ⟨Try.f74, [], [[0, 1, 2, 3, 4, 5, 6, 7, 8, 12, 9, 10, 11, 13], [0, 1, 2, 3, 4, 5, 6, 7, 8, 12, 9, 10, 11, 13]], Try.func74, by kernel_rfl, by kernel_rfl, by kernel_rfl⟩
theorem ok37 : FnOk Try.prog c F (37, 75, r37) := ⟨Try.f75, [], [], Try.func75, by kernel_rfl, by kernel_rfl, by kernel_rfl⟩
theorem ok28 : FnOk Try.prog c F (28, 84, r28) := ⟨Try.f84, [], [[0, 1, 2, 3, 4, 5, 6, 7, 8, 12, 9, 10, 11, 13], [0, 1, 2, 3, 4, 5, 6, 7, 8, 12, 9, 10, 11, 13]], Try.func84, by kernel_rfl, by kernel_rfl, by kernel_rfl⟩
theorem ok30 : FnOk Try.prog c F (30, 112, r30) := ⟨Try.f112, [], [], Try.func112, by kernel_rfl, by kernel_rfl, by kernel_rfl⟩
theorem okT : (c.T.all fun x => x.2.okB Try.prog (mkCfg Try.prog tab tags).ET (mkCfg Try.prog tab tags).SZ x.1) = true := by kernel_rfl
theorem okF : (c.F.all fun x => decide ((lk tab x.2).map (·.1) = some x.1)) = true := by kernel_rfl
theorem okTab : AllT (FnOk Try.prog c F) tab := ⟨ok31, ok32, ok13, ok33, ok22, ok5, ok14, ok37, ok28, ok30, trivial⟩
theorem prog (O : Nat) : ProgOk ((mkCfg Try.prog tab tags).at O) c F (fun _ _ _ => none) :=
  mkProg okT okF okTab ⟨⟩ trivial O
theorem inI14 : AllT (fun x => F x.1 = some x.2) tI14 := ⟨rfl, rfl, rfl, rfl, rfl, rfl, rfl, rfl, rfl, rfl, rfl, trivial⟩
theorem inLTx : AllT (fun x => F x.1 = some x.2) tLTx := ⟨rfl, rfl, trivial⟩
theorem inS01d : AllT (fun x => F x.1 = some x.2) tS01d := ⟨rfl, trivial⟩
theorem inS14 : AllT (fun x => F x.1 = some x.2) tS14 := ⟨rfl, rfl, rfl, rfl, rfl, rfl, trivial⟩
theorem inWTxAck : AllT (fun x => F x.1 = some x.2) tWTxAck := ⟨rfl, trivial⟩
end Go.Proofs.Ytgogajbfiocdbaa.A.ExactTxAck
