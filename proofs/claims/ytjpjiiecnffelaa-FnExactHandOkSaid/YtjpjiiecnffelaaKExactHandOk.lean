/- The functions that FnExactHandOk reaches: the program's code against the compact code, entry by entry. -/
import Derived.Test.YtjpjiiecnffelaaB6
import Derived.Test.YtjpjiiecnffelaaProg
import Derived.Test.YtjpjiiecnffelaaGI11
import Derived.Test.YtjpjiiecnffelaaGI15
import Derived.Test.YtjpjiiecnffelaaGLHand
import Derived.Test.YtjpjiiecnffelaaGS01d
import Derived.Test.YtjpjiiecnffelaaGS15
import Derived.Test.YtjpjiiecnffelaaGWHandOk
namespace Go.Proofs.Ytjpjiiecnffelaa.A.ExactHandOk
open Go
def c : CC where
  T := [(3, ⟨1, 8, false, some [.int .i64 0], (.int .i64)⟩),
    (4, ⟨1, 1, false, some [.bool false], .bool⟩),
    (22, ⟨1, 8, false, some [.int .u64 0], (.int .u64)⟩),
    (24, ⟨5, 40, true, some [.int .u64 0, .int .i64 0, .int .i64 0, .int .i64 0, .int .i64 0], (.struct [(0, 1, false), (1, 1, false), (2, 1, false), (3, 1, false), (4, 1, false)])⟩),
    (26, ⟨5, 40, true, some [.int .u64 0, .int .i64 0, .int .i64 0, .int .i64 0, .int .i64 0], (.struct [(0, 1, false), (1, 1, false), (2, 1, false), (3, 1, false), (4, 1, false)])⟩)]
  F := [(3, 1), (9, 3), (10, 2), (11, 4), (25, 5), (26, 6), (31, 7)]
  eqT := []
  adds := []
def F : Nat → Option RF := lk (tI11 ++ tI15 ++ tLHand ++ tS01d ++ tS15 ++ tWHandOk)
def tab : List (Nat × FuncId × RF) := [(1, 3, r1), (3, 9, r3), (2, 10, r2), (4, 11, r4), (5, 25, r5), (6, 26, r6), (7, 31, r7)]
def tags : List (Nat × TypeId × Nat) := []
theorem ok1 : FnOk Try.prog c F (1, 3, r1) := ⟨Try.f3, [], [], Try.func3, by kernel_rfl, by kernel_rfl, by kernel_rfl⟩
theorem ok3 : FnOk Try.prog c F (3, 9, r3) := ⟨Try.f9, [], [], Try.func9, by kernel_rfl, by kernel_rfl, by kernel_rfl⟩
theorem ok2 : FnOk Try.prog c F (2, 10, r2) := ⟨Try.f10, [], [], Try.func10, by kernel_rfl, by kernel_rfl, by kernel_rfl⟩
theorem ok4 : FnOk Try.prog c F (4, 11, r4) := ⟨Try.f11, [], [], Try.func11, by kernel_rfl, by kernel_rfl, by kernel_rfl⟩
theorem ok5 : FnOk Try.prog c F (5, 25, r5) := ⟨Try.f25, [], [], Try.func25, by kernel_rfl, by kernel_rfl, by kernel_rfl⟩
theorem ok6 : FnOk Try.prog c F (6, 26, r6) := ⟨Try.f26, [], [], Try.func26, by kernel_rfl, by kernel_rfl, by kernel_rfl⟩
theorem ok7 : FnOk Try.prog c F (7, 31, r7) := ⟨Try.f31, [], [], Try.func31, by kernel_rfl, by kernel_rfl, by kernel_rfl⟩
theorem okT : (c.T.all fun x => x.2.okB Try.prog (mkCfg Try.prog tab tags).ET (mkCfg Try.prog tab tags).SZ x.1) = true := by kernel_rfl
theorem okF : (c.F.all fun x => decide ((lk tab x.2).map (·.1) = some x.1)) = true := by kernel_rfl
theorem okTab : AllT (FnOk Try.prog c F) tab := ⟨ok1, ok3, ok2, ok4, ok5, ok6, ok7, trivial⟩
theorem prog (O : Nat) : ProgOk ((mkCfg Try.prog tab tags).at O) c F (fun _ _ _ => none) :=
  mkProg okT okF okTab ⟨⟩ trivial O
theorem inI11 : AllT (fun x => F x.1 = some x.2) tI11 := ⟨rfl, trivial⟩
theorem inI15 : AllT (fun x => F x.1 = some x.2) tI15 := ⟨rfl, rfl, trivial⟩
theorem inLHand : AllT (fun x => F x.1 = some x.2) tLHand := ⟨rfl, trivial⟩
theorem inS01d : AllT (fun x => F x.1 = some x.2) tS01d := ⟨rfl, trivial⟩
theorem inS15 : AllT (fun x => F x.1 = some x.2) tS15 := ⟨rfl, trivial⟩
theorem inWHandOk : AllT (fun x => F x.1 = some x.2) tWHandOk := ⟨rfl, trivial⟩
end Go.Proofs.Ytjpjiiecnffelaa.A.ExactHandOk
