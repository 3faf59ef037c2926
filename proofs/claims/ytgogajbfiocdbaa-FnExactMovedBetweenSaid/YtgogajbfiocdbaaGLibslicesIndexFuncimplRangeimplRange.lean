/- The compact code of some functions: slices.IndexFunc[[]impl.Range,impl.Range]. -/
import Derived.Test.YtgogajbfiocdbaaA1
namespace Go.Proofs.Ytgogajbfiocdbaa.A
open Go
/-- A loop of slices.IndexFunc[[]impl.Range,impl.Range]. -/
def r126L0 : RC :=
 .seq (.reg [⟨none, .bin 9 .lss (.t 8) (.t 7)⟩])
    (.seq (.cond (.t 9)
     (.skip)
     (.exit 0))
    (.seq (.block 1 (.seq (.reg [⟨none, .mov 10 (.t 8)⟩,
       ⟨none, .mov 5 (.t 10)⟩])
      (.seq (.reg [⟨none, .mov 11 (.t 1)⟩,
       ⟨none, .mov 12 (.t 0)⟩,
       ⟨none, .mov 13 (.t 5)⟩,
       ⟨none, .idx 14 7 (.t 12) (.t 13)⟩,
       ⟨none, .load 15 14 3 true⟩,
       ⟨none, .calv (some 16) (.t 11) [(.t 15)] false⟩])
      (.cond (.t 16)
      (.seq (.reg [⟨none, .mov 17 (.t 5)⟩,
        ⟨none, .mov 4 (.t 17)⟩])
       (.ret))
      (.skip)))))
    (.reg [⟨none, .bin 18 .add (.t 8) (.k (.int .i64 1))⟩,
    ⟨none, .mov 8 (.t 18)⟩])))
/-- slices.IndexFunc[[]impl.Range,impl.Range] -/
def r126 : RF :=
 ⟨2, [.tmp 4],
 .seq (.reg [⟨none, .mov 4 (.k (.int .i64 0))⟩])
 (.seq (.seq (.reg [⟨none, .mov 6 (.t 0)⟩,
   ⟨none, .len 7 (.t 6)⟩,
   ⟨none, .mov 8 (.k (.int .i64 0))⟩])
  (.block 0 (.loop [0, 1, 7, 8]
   r126L0)))
 (.seq (.reg [⟨none, .mov 4 (.k (.int .i64 (-1)))⟩])
 (.ret)))⟩
/-- The functions of this text, with their numbers. -/
def tLibslicesIndexFuncimplRangeimplRange : List (Nat × RF) := [(126, r126)]
end Go.Proofs.Ytgogajbfiocdbaa.A
