/- The functions that FnExactNewTx reaches: the program's code against the compact code, entry by entry. -/
import Derived.Test.YtjpjiiecnffelaaB6
import Derived.Test.YtjpjiiecnffelaaProg
import Derived.Test.YtjpjiiecnffelaaGI14
import Derived.Test.YtjpjiiecnffelaaGLTx
import Derived.Test.YtjpjiiecnffelaaGS01d
import Derived.Test.YtjpjiiecnffelaaGS14
import Derived.Test.YtjpjiiecnffelaaGWNewTx
namespace Go.Proofs.Ytjpjiiecnffelaa.A.ExactNewTx
open Go
def c : CC where
  T := [(3, ⟨1, 8, false, some [.int .i64 0], (.int .i64)⟩),
    (4, ⟨1, 1, false, some [.bool false], .bool⟩),
    (22, ⟨1, 8, false, some [.int .u64 0], (.int .u64)⟩),
    (42, ⟨10, 56, true, some [.int .i64 0, .int .u64 0, .int .u64 0, .int .u64 0, .int .i64 0, .bool false, .bool false, .bool false, .bool false, .int .i64 0], (.struct [(0, 1, false), (1, 1, false), (2, 1, false), (3, 1, false), (4, 1, false), (5, 1, false), (6, 1, false), (7, 1, false), (8, 1, false), (9, 1, false)])⟩)]
  F := [(7, 19), (15, 14), (20, 20), (21, 21), (22, 22), (25, 5), (29, 28), (32, 30)]
  eqT := []
  adds := []
def F : Nat → Option RF := lk (tI14 ++ tLTx ++ tS01d ++ tS14 ++ tWNewTx)
def tab : List (Nat × FuncId × RF) := [(19, 7, r19), (20, 20, r20), (21, 21, r21), (22, 22, r22), (14, 15, r14), (28, 29, r28), (5, 25, r5), (30, 32, r30)]
def tags : List (Nat × TypeId × Nat) := []
theorem ok19 : FnOk Try.prog c F (19, 7, r19) := ⟨Try.f7, [], [], Try.func7, by kernel_rfl, by kernel_rfl, by kernel_rfl⟩
theorem ok20 : FnOk Try.prog c F (20, 20, r20) := ⟨Try.f20, [], [], Try.func20, by kernel_rfl, by kernel_rfl, by kernel_rfl⟩
theorem ok21 : FnOk Try.prog c F (21, 21, r21) := ⟨Try.f21, [], [], Try.func21, by kernel_rfl, by kernel_rfl, by kernel_rfl⟩
theorem ok22 : FnOk Try.prog c F (22, 22, r22) := ⟨Try.f22, [], [], Try.func22, by kernel_rfl, by kernel_rfl, by kernel_rfl⟩
theorem ok14 : FnOk Try.prog c F (14, 15, r14) := ⟨Try.f15, [], [[0, 1, 2, 3, 4, 5, 6, 7, 8, 12, 9, 10, 11, 13], [0, 1, 2, 3, 4, 5, 6, 7, 8, 12, 9, 10, 11, 13]], Try.func15, by kernel_rfl, by kernel_rfl, by kernel_rfl⟩
theorem ok28 : FnOk Try.prog c F (28, 29, r28) := ⟨Try.f29, [], [[0, 1, 2, 3, 4, 5, 6, 7, 8, 12, 9, 10, 11, 13], [0, 1, 2, 3, 4, 5, 6, 7, 8, 12, 9, 10, 11, 13]], Try.func29, by kernel_rfl, by kernel_rfl, by kernel_rfl⟩
theorem ok5 : FnOk Try.prog c F (5, 25, r5) := ⟨Try.f25, [], [], Try.func25, by kernel_rfl, by kernel_rfl, by kernel_rfl⟩
theorem ok30 : FnOk Try.prog c F (30, 32, r30) := ⟨Try.f32, [], [], Try.func32, by kernel_rfl, by kernel_rfl, by kernel_rfl⟩
theorem okT : (c.T.all fun x => x.2.okB Try.prog (mkCfg Try.prog tab tags).ET (mkCfg Try.prog tab tags).SZ x.1) = true := by kernel_rfl
theorem okF : (c.F.all fun x => decide ((lk tab x.2).map (·.1) = some x.1)) = true := by kernel_rfl
theorem okTab : AllT (FnOk Try.prog c F) tab := ⟨ok19, ok20, ok21, ok22, ok14, ok28, ok5, ok30, trivial⟩
theorem prog (O : Nat) : ProgOk ((mkCfg Try.prog tab tags).at O) c F (fun _ _ _ => none) :=
  mkProg okT okF okTab ⟨⟩ trivial O
theorem inI14 : AllT (fun x => F x.1 = some x.2) tI14 := ⟨rfl, rfl, rfl, rfl, rfl, rfl, rfl, rfl, rfl, rfl, rfl, trivial⟩
theorem inLTx : AllT (fun x => F x.1 = some x.2) tLTx := ⟨rfl, rfl, trivial⟩
theorem inS01d : AllT (fun x => F x.1 = some x.2) tS01d := ⟨rfl, trivial⟩
theorem inS14 : AllT (fun x => F x.1 = some x.2) tS14 := ⟨rfl, rfl, rfl, rfl, rfl, rfl, trivial⟩
theorem inWNewTx : AllT (fun x => F x.1 = some x.2) tWNewTx := ⟨rfl, trivial⟩
end Go.Proofs.Ytjpjiiecnffelaa.A.ExactNewTx
