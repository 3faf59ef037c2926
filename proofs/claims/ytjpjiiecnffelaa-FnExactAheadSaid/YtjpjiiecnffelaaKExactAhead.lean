/- The functions that FnExactAhead reaches: the program's code against the compact code, entry by entry. -/
import Derived.Test.YtjpjiiecnffelaaB6
import Derived.Test.YtjpjiiecnffelaaProg
import Derived.Test.YtjpjiiecnffelaaGI17
import Derived.Test.YtjpjiiecnffelaaGLLedgerCall
import Derived.Test.YtjpjiiecnffelaaGLPast
import Derived.Test.YtjpjiiecnffelaaGS17
import Derived.Test.YtjpjiiecnffelaaGWAhead
namespace Go.Proofs.Ytjpjiiecnffelaa.A.ExactAhead
open Go
def c : CC where
  T := [(3, ⟨1, 8, false, some [.int .i64 0], (.int .i64)⟩),
    (4, ⟨1, 1, false, some [.bool false], .bool⟩),
    (22, ⟨1, 8, false, some [.int .u64 0], (.int .u64)⟩),
    (30, ⟨4, 32, true, some [.int .i64 0, .int .u64 0, .int .u64 0, .int .u64 0], (.struct [(0, 1, false), (1, 1, false), (2, 1, false), (3, 1, false)])⟩),
    (32, ⟨8, 64, true, some [.int .i64 0, .int .u64 0, .int .u64 0, .int .u64 0, .int .i64 0, .int .i64 0, .int .i64 0, .int .u64 0], (.struct [(0, 4, true), (4, 1, false), (5, 1, false), (6, 1, false), (7, 1, false)])⟩),
    (34, ⟨4, 32, true, some [.int .i64 0, .int .u64 0, .int .u64 0, .int .u64 0], (.struct [(0, 1, false), (1, 1, false), (2, 1, false), (3, 1, false)])⟩),
    (36, ⟨8, 64, true, some [.int .i64 0, .int .u64 0, .int .u64 0, .int .u64 0, .int .i64 0, .int .i64 0, .int .i64 0, .int .u64 0], (.struct [(0, 4, true), (4, 1, false), (5, 1, false), (6, 1, false), (7, 1, false)])⟩)]
  F := [(4, 8), (12, 10), (13, 9), (14, 11), (27, 26), (28, 27)]
  eqT := []
  adds := []
def F : Nat → Option RF := lk (tI17 ++ tLLedgerCall ++ tLPast ++ tS17 ++ tWAhead)
def tab : List (Nat × FuncId × RF) := [(8, 4, r8), (10, 12, r10), (9, 13, r9), (11, 14, r11), (26, 27, r26), (27, 28, r27)]
def tags : List (Nat × TypeId × Nat) := []
theorem ok8 : FnOk Try.prog c F (8, 4, r8) := ⟨Try.f4, [], [[0, 2, 1, 3, 4, 5], [0, 1, 2, 3, 4, 5], [0, 2, 1, 3, 4, 5], [0, 1, 2, 3, 4, 5]], Try.func4, by kernel_rfl, by kernel_rfl, by kernel_rfl⟩
theorem ok10 : FnOk Try.prog c F (10, 12, r10) := ⟨Try.f12, [], [], Try.func12, by kernel_rfl, by kernel_rfl, by kernel_rfl⟩
theorem ok9 : FnOk Try.prog c F (9, 13, r9) := ⟨Try.f13, [], [], Try.func13, by kernel_rfl, by kernel_rfl, by kernel_rfl⟩
theorem ok11 : FnOk Try.prog c F (11, 14, r11) := ⟨Try.f14, [], [], Try.func14, by kernel_rfl, by kernel_rfl, by kernel_rfl⟩
theorem ok26 : FnOk Try.prog c F (26, 27, r26) := ⟨Try.f27, [], [], Try.func27, by kernel_rfl, by kernel_rfl, by kernel_rfl⟩
theorem ok27 : FnOk Try.prog c F (27, 28, r27) := ⟨Try.f28, [], [], Try.func28, by kernel_rfl, by kernel_rfl, by kernel_rfl⟩
theorem okT : (c.T.all fun x => x.2.okB Try.prog (mkCfg Try.prog tab tags).ET (mkCfg Try.prog tab tags).SZ x.1) = true := by kernel_rfl
theorem okF : (c.F.all fun x => decide ((lk tab x.2).map (·.1) = some x.1)) = true := by kernel_rfl
theorem okTab : AllT (FnOk Try.prog c F) tab := ⟨ok8, ok10, ok9, ok11, ok26, ok27, trivial⟩
theorem prog (O : Nat) : ProgOk ((mkCfg Try.prog tab tags).at O) c F (fun _ _ _ => none) :=
  mkProg okT okF okTab ⟨⟩ trivial O
theorem inI17 : AllT (fun x => F x.1 = some x.2) tI17 := ⟨rfl, rfl, trivial⟩
theorem inLLedgerCall : AllT (fun x => F x.1 = some x.2) tLLedgerCall := ⟨rfl, trivial⟩
theorem inLPast : AllT (fun x => F x.1 = some x.2) tLPast := ⟨rfl, trivial⟩
theorem inS17 : AllT (fun x => F x.1 = some x.2) tS17 := ⟨rfl, trivial⟩
theorem inWAhead : AllT (fun x => F x.1 = some x.2) tWAhead := ⟨rfl, trivial⟩
end Go.Proofs.Ytjpjiiecnffelaa.A.ExactAhead
