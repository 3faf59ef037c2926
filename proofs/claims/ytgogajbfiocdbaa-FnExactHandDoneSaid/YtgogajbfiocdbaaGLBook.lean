/- The compact code of some functions: laws.szBook, laws.toBook, laws.eqBook. -/
import Derived.Test.YtgogajbfiocdbaaA1
namespace Go.Proofs.Ytgogajbfiocdbaa.A
open Go
/-- laws.szBook -/
def r128 : RF :=
 ⟨2, [.tmp 4],
 .seq (.reg [⟨none, .locb 2 (.t 0)⟩,
  ⟨none, .mov 4 (.k (.int .i64 0))⟩])
 (.seq (.reg [⟨none, .fad 5 2 0⟩,
  ⟨none, .load 6 5 1 false⟩,
  ⟨none, .mov 7 (.t 1)⟩,
  ⟨none, .call (some 8) 136 [(.t 6), (.t 7)] false⟩,
  ⟨none, .mov 1 (.t 8)⟩])
 (.seq (.seq (.reg [⟨none, .mov 9 (.t 1)⟩,
   ⟨none, .bin 10 .lss (.t 9) (.k (.int .i64 0))⟩])
  (.cond (.t 10)
  (.seq (.reg [⟨none, .mov 4 (.k (.int .i64 (-1)))⟩])
   (.ret))
  (.skip)))
 (.seq (.reg [⟨none, .mov 11 (.t 1)⟩,
  ⟨none, .mov 4 (.t 11)⟩])
 (.ret))))⟩
/-- laws.toBook -/
def r130 : RF :=
 ⟨1, [.cell 2 1 true],
 .seq (.reg [⟨none, .locb 1 (.t 0)⟩,
  ⟨none, .loc 2 [.nil]⟩])
 (.seq (.reg [⟨none, .loc 3 [.nil]⟩])
 (.seq (.reg [⟨none, .fad 4 1 0⟩,
  ⟨none, .load 5 4 1 false⟩,
  ⟨none, .call (some 6) 137 [(.t 5)] false⟩,
  ⟨none, .fad 7 3 0⟩,
  ⟨none, .store 7 1 (.t 6)⟩])
 (.seq (.reg [⟨none, .load 8 3 1 true⟩,
  ⟨none, .store 2 1 (.t 8)⟩])
 (.ret))))⟩
/-- laws.eqBook -/
def r133 : RF :=
 ⟨2, [.tmp 4],
 .seq (.reg [⟨none, .locb 2 (.t 0)⟩,
  ⟨none, .locb 3 (.t 1)⟩,
  ⟨none, .mov 4 (.k (.bool false))⟩])
 (.seq (.seq (.reg [⟨none, .fad 5 2 0⟩,
   ⟨none, .load 6 5 1 false⟩,
   ⟨none, .fad 7 3 0⟩,
   ⟨none, .load 8 7 1 false⟩,
   ⟨none, .call (some 9) 139 [(.t 6), (.t 8)] false⟩,
   ⟨none, .not 10 (.t 9)⟩])
  (.cond (.t 10)
  (.seq (.reg [⟨none, .mov 4 (.k (.bool false))⟩])
   (.ret))
  (.skip)))
 (.seq (.reg [⟨none, .mov 4 (.k (.bool true))⟩])
 (.ret)))⟩
/-- The functions of this text, with their numbers. -/
def tLBook : List (Nat × RF) := [(128, r128), (130, r130), (133, r133)]
end Go.Proofs.Ytgogajbfiocdbaa.A
