/- The functions that FnExactTxGiveUp reaches: the program's code against the compact code, entry by entry. -/
import Derived.Test.YtjpjiiecnffelaaB6
import Derived.Test.YtjpjiiecnffelaaProg
import Derived.Test.YtjpjiiecnffelaaGI14
import Derived.Test.YtjpjiiecnffelaaGLTx
import Derived.Test.YtjpjiiecnffelaaGS01d
import Derived.Test.YtjpjiiecnffelaaGS14
import Derived.Test.YtjpjiiecnffelaaGWTxGiveUp
namespace Go.Proofs.Ytjpjiiecnffelaa.A.ExactTxGiveUp
open Go
def c : CC where
  T := [(3, ⟨1, 8, false, some [.int .i64 0], (.int .i64)⟩),
    (4, ⟨1, 1, false, some [.bool false], .bool⟩),
    (22, ⟨1, 8, false, some [.int .u64 0], (.int .u64)⟩),
    (40, ⟨10, 56, true, some [.int .i64 0, .int .u64 0, .int .u64 0, .int .u64 0, .int .i64 0, .bool false, .bool false, .bool false, .bool false, .int .i64 0], (.struct [(0, 1, false), (1, 1, false), (2, 1, false), (3, 1, false), (4, 1, false), (5, 1, false), (6, 1, false), (7, 1, false), (8, 1, false), (9, 1, false)])⟩),
    (42, ⟨10, 56, true, some [.int .i64 0, .int .u64 0, .int .u64 0, .int .u64 0, .int .i64 0, .bool false, .bool false, .bool false, .bool false, .int .i64 0], (.struct [(0, 1, false), (1, 1, false), (2, 1, false), (3, 1, false), (4, 1, false), (5, 1, false), (6, 1, false), (7, 1, false), (8, 1, false), (9, 1, false)])⟩)]
  F := [(8, 23), (15, 14), (16, 13), (22, 22), (23, 24), (24, 25), (25, 5), (29, 28), (30, 29), (32, 30)]
  eqT := []
  adds := []
def F : Nat → Option RF := lk (tI14 ++ tLTx ++ tS01d ++ tS14 ++ tWTxGiveUp)
def tab : List (Nat × FuncId × RF) := [(23, 8, r23), (13, 16, r13), (22, 22, r22), (24, 23, r24), (25, 24, r25), (14, 15, r14), (5, 25, r5), (29, 30, r29), (28, 29, r28), (30, 32, r30)]
def tags : List (Nat × TypeId × Nat) := []
theorem ok23 : FnOk Try.prog c F (23, 8, r23) := ⟨Try.f8, [], [], Try.func8, by kernel_rfl, by kernel_rfl, by kernel_rfl⟩
theorem ok13 : FnOk Try.prog c F (13, 16, r13) := ⟨Try.f16, [], [], Try.func16, by kernel_rfl, by kernel_rfl, by kernel_rfl⟩
theorem ok22 : FnOk Try.prog c F (22, 22, r22) := ⟨Try.f22, [], [], Try.func22, by kernel_rfl, by kernel_rfl, by kernel_rfl⟩
theorem ok24 : FnOk Try.prog c F (24, 23, r24) := ⟨Try.f23, [], [], Try.func23, by kernel_rfl, by kernel_rfl, by kernel_rfl⟩
theorem ok25 : FnOk Try.prog c F (25, 24, r25) := ⟨Try.f24, [], [], Try.func24, by kernel_rfl, by kernel_rfl, by kernel_rfl⟩
theorem ok14 : FnOk Try.prog c F (14, 15, r14) := ⟨Try.f15, [], [[0, 1, 2, 3, 4, 5, 6, 7, 8, 12, 9, 10, 11, 13], [0, 1, 2, 3, 4, 5, 6, 7, 8, 12, 9, 10, 11, 13]], Try.func15, by kernel_rfl, by kernel_rfl, by kernel_rfl⟩
theorem ok5 : FnOk Try.prog c F (5, 25, r5) := ⟨Try.f25, [], [], Try.func25, by kernel_rfl, by kernel_rfl, by kernel_rfl⟩
theorem ok29 : FnOk Try.prog c F (29, 30, r29) := ⟨Try.f30, [], [], Try.func30, by kernel_rfl, by kernel_rfl, by kernel_rfl⟩
theorem ok28 : FnOk Try.prog c F (28, 29, r28) := ⟨Try.f29, [], [[0, 1, 2, 3, 4, 5, 6, 7, 8, 12, 9, 10, 11, 13], [0, 1, 2, 3, 4, 5, 6, 7, 8, 12, 9, 10, 11, 13]], Try.func29, by kernel_rfl, by kernel_rfl, by kernel_rfl⟩
theorem ok30 : FnOk Try.prog c F (30, 32, r30) := ⟨Try.f32, [], [], Try.func32, by kernel_rfl, by kernel_rfl, by kernel_rfl⟩
theorem okT : (c.T.all fun x => x.2.okB Try.prog (mkCfg Try.prog tab tags).ET (mkCfg Try.prog tab tags).SZ x.1) = true := by kernel_rfl
theorem okF : (c.F.all fun x => decide ((lk tab x.2).map (·.1) = some x.1)) = true := by kernel_rfl
theorem okTab : AllT (FnOk Try.prog c F) tab := ⟨ok23, ok13, ok22, ok24, ok25, ok14, ok5, ok29, ok28, ok30, trivial⟩
theorem prog (O : Nat) : ProgOk ((mkCfg Try.prog tab tags).at O) c F (fun _ _ _ => none) :=
  mkProg okT okF okTab ⟨⟩ trivial O
theorem inI14 : AllT (fun x => F x.1 = some x.2) tI14 := ⟨rfl, rfl, rfl, rfl, rfl, rfl, rfl, rfl, rfl, rfl, rfl, trivial⟩
theorem inLTx : AllT (fun x => F x.1 = some x.2) tLTx := ⟨rfl, rfl, trivial⟩
theorem inS01d : AllT (fun x => F x.1 = some x.2) tS01d := ⟨rfl, trivial⟩
theorem inS14 : AllT (fun x => F x.1 = some x.2) tS14 := ⟨rfl, rfl, rfl, rfl, rfl, rfl, trivial⟩
theorem inWTxGiveUp : AllT (fun x => F x.1 = some x.2) tWTxGiveUp := ⟨rfl, trivial⟩
end Go.Proofs.Ytjpjiiecnffelaa.A.ExactTxGiveUp
