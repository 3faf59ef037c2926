/- The compact code of some functions: laws.FnExactTxOk. -/
import Derived.Test.YtjpjiiecnffelaaA1
namespace Go.Proofs.Ytjpjiiecnffelaa.A
open Go
/-- laws.FnExactTxOk -/
def r12 : RF :=
 ⟨1, [.tmp 2],
 .seq (.reg [⟨none, .locb 1 (.t 0)⟩,
  ⟨none, .mov 2 (.k (.bool false))⟩])
 (.seq (.reg [⟨none, .load 5 1 10 true⟩,
  ⟨none, .call (some 6) 13 [(.t 5)] false⟩,
  ⟨none, .call (some 7) 14 [(.t 6)] false⟩,
  ⟨none, .mov 3 (.t 7)⟩])
 (.seq (.reg [⟨none, .load 8 1 10 true⟩,
  ⟨none, .call (some 9) 13 [(.t 8)] false⟩,
  ⟨none, .call (some 10) 15 [(.t 9)] false⟩,
  ⟨none, .mov 4 (.t 10)⟩])
 (.seq (.seq (.reg [⟨none, .mov 11 (.t 4)⟩,
   ⟨none, .mov 12 (.t 3)⟩,
   ⟨none, .beq 13 true (.t 11) (.t 12)⟩])
  (.cond (.t 13)
  (.seq (.reg [⟨none, .mov 2 (.k (.bool false))⟩])
   (.ret))
  (.skip)))
 (.seq (.reg [⟨none, .mov 2 (.k (.bool true))⟩])
 (.ret)))))⟩
/-- The functions of this text, with their numbers. -/
def tWTxOk : List (Nat × RF) := [(12, r12)]
end Go.Proofs.Ytjpjiiecnffelaa.A
