/- The compact code of some functions: laws.FnExactAhead. -/
import Derived.Test.YtjpjiiecnffelaaA1
namespace Go.Proofs.Ytjpjiiecnffelaa.A
open Go
/-- laws.FnExactAhead -/
def r8 : RF :=
 ⟨2, [.tmp 4],
 .seq (.reg [⟨none, .locb 2 (.t 0)⟩,
  ⟨none, .locb 3 (.t 1)⟩,
  ⟨none, .mov 4 (.k (.bool false))⟩])
 (.seq (.reg [⟨none, .chk []⟩,
  ⟨none, .load 7 2 8 true⟩,
  ⟨none, .load 9 3 8 true⟩,
  ⟨none, .call (some 8) 9 [(.t 7)] true⟩,
  ⟨none, .call (some 10) 9 [(.t 9)] true⟩,
  ⟨none, .call (some 11) 10 [(.t 8), (.t 10)] true⟩,
  ⟨none, .mov 5 (.t 11)⟩])
 (.seq (.reg [⟨none, .chk []⟩,
  ⟨none, .load 12 2 8 true⟩,
  ⟨none, .load 14 3 8 true⟩,
  ⟨none, .call (some 13) 9 [(.t 12)] true⟩,
  ⟨none, .call (some 15) 9 [(.t 14)] true⟩,
  ⟨none, .call (some 16) 11 [(.t 13), (.t 15)] true⟩,
  ⟨none, .mov 6 (.t 16)⟩])
 (.seq (.seq (.reg [⟨none, .mov 17 (.t 6)⟩,
   ⟨none, .mov 18 (.t 5)⟩,
   ⟨none, .beq 19 true (.t 17) (.t 18)⟩])
  (.cond (.t 19)
  (.seq (.reg [⟨none, .mov 4 (.k (.bool false))⟩])
   (.ret))
  (.skip)))
 (.seq (.reg [⟨none, .mov 4 (.k (.bool true))⟩])
 (.ret)))))⟩
/-- The functions of this text, with their numbers. -/
def tWAhead : List (Nat × RF) := [(8, r8)]
end Go.Proofs.Ytjpjiiecnffelaa.A
