/- The compact code of some functions: laws.szShard, laws.toShard, laws.eqShard. -/
import Derived.Test.YtgogajbfiocdbaaA1
namespace Go.Proofs.Ytgogajbfiocdbaa.A
open Go
/-- laws.szShard -/
def r111 : RF :=
 ⟨2, [.tmp 4],
 .seq (.reg [⟨none, .locb 2 (.t 0)⟩,
  ⟨none, .mov 4 (.k (.int .i64 0))⟩])
 (.seq (.reg [⟨none, .fad 5 2 4⟩,
  ⟨none, .load 6 5 1 true⟩,
  ⟨none, .mov 7 (.t 1)⟩,
  ⟨none, .call (some 8) 128 [(.t 6), (.t 7)] false⟩,
  ⟨none, .mov 1 (.t 8)⟩])
 (.seq (.seq (.reg [⟨none, .mov 9 (.t 1)⟩,
   ⟨none, .bin 10 .lss (.t 9) (.k (.int .i64 0))⟩])
  (.cond (.t 10)
  (.seq (.reg [⟨none, .mov 4 (.k (.int .i64 (-1)))⟩])
   (.ret))
  (.skip)))
 (.seq (.reg [⟨none, .fad 11 2 5⟩,
  ⟨none, .load 12 11 1 false⟩,
  ⟨none, .mov 13 (.t 1)⟩,
  ⟨none, .call (some 14) 129 [(.t 12), (.t 13)] false⟩,
  ⟨none, .mov 1 (.t 14)⟩])
 (.seq (.seq (.reg [⟨none, .mov 15 (.t 1)⟩,
   ⟨none, .bin 16 .lss (.t 15) (.k (.int .i64 0))⟩])
  (.cond (.t 16)
  (.seq (.reg [⟨none, .mov 4 (.k (.int .i64 (-1)))⟩])
   (.ret))
  (.skip)))
 (.seq (.reg [⟨none, .mov 17 (.t 1)⟩,
  ⟨none, .mov 4 (.t 17)⟩])
 (.ret))))))⟩
/-- laws.toShard -/
def r112 : RF :=
 ⟨1, [.cell 2 6 true],
 .seq (.reg [⟨none, .locb 1 (.t 0)⟩,
  ⟨none, .loc 2 [.int .u64 0, .int .u64 0, .int .i64 0, .int .i64 0, .nil, .nil]⟩])
 (.seq (.reg [⟨none, .loc 3 [.int .u64 0, .int .u64 0, .int .i64 0, .int .i64 0, .nil, .nil]⟩])
 (.seq (.reg [⟨none, .fad 4 1 0⟩,
  ⟨none, .load 5 4 1 false⟩,
  ⟨none, .fad 6 3 0⟩,
  ⟨none, .store 6 1 (.t 5)⟩])
 (.seq (.reg [⟨none, .fad 7 1 1⟩,
  ⟨none, .load 8 7 1 false⟩,
  ⟨none, .fad 9 3 1⟩,
  ⟨none, .store 9 1 (.t 8)⟩])
 (.seq (.reg [⟨none, .fad 10 1 2⟩,
  ⟨none, .load 11 10 1 false⟩,
  ⟨none, .fad 12 3 2⟩,
  ⟨none, .store 12 1 (.t 11)⟩])
 (.seq (.reg [⟨none, .fad 13 1 3⟩,
  ⟨none, .load 14 13 1 false⟩,
  ⟨none, .fad 15 3 3⟩,
  ⟨none, .store 15 1 (.t 14)⟩])
 (.seq (.reg [⟨none, .fad 16 1 4⟩,
  ⟨none, .load 17 16 1 true⟩,
  ⟨none, .call (some 18) 130 [(.t 17)] false⟩,
  ⟨none, .fad 19 3 4⟩,
  ⟨none, .store 19 1 (.t 18)⟩])
 (.seq (.reg [⟨none, .fad 20 1 5⟩,
  ⟨none, .load 21 20 1 false⟩,
  ⟨none, .call (some 22) 131 [(.t 21)] false⟩,
  ⟨none, .fad 23 3 5⟩,
  ⟨none, .store 23 1 (.t 22)⟩])
 (.seq (.reg [⟨none, .load 24 3 6 true⟩,
  ⟨none, .store 2 6 (.t 24)⟩])
 (.ret)))))))))⟩
/-- laws.eqShard -/
def r114 : RF :=
 ⟨2, [.tmp 4],
 .seq (.reg [⟨none, .locb 2 (.t 0)⟩,
  ⟨none, .locb 3 (.t 1)⟩,
  ⟨none, .mov 4 (.k (.bool false))⟩])
 (.seq (.seq (.reg [⟨none, .fad 5 2 0⟩,
   ⟨none, .load 6 5 1 false⟩,
   ⟨none, .fad 7 3 0⟩,
   ⟨none, .load 8 7 1 false⟩,
   ⟨none, .bin 9 .neq (.t 6) (.t 8)⟩])
  (.cond (.t 9)
  (.seq (.reg [⟨none, .mov 4 (.k (.bool false))⟩])
   (.ret))
  (.skip)))
 (.seq (.seq (.reg [⟨none, .fad 10 2 1⟩,
   ⟨none, .load 11 10 1 false⟩,
   ⟨none, .fad 12 3 1⟩,
   ⟨none, .load 13 12 1 false⟩,
   ⟨none, .bin 14 .neq (.t 11) (.t 13)⟩])
  (.cond (.t 14)
  (.seq (.reg [⟨none, .mov 4 (.k (.bool false))⟩])
   (.ret))
  (.skip)))
 (.seq (.seq (.reg [⟨none, .fad 15 2 2⟩,
   ⟨none, .load 16 15 1 false⟩,
   ⟨none, .fad 17 3 2⟩,
   ⟨none, .load 18 17 1 false⟩,
   ⟨none, .bin 19 .neq (.t 16) (.t 18)⟩])
  (.cond (.t 19)
  (.seq (.reg [⟨none, .mov 4 (.k (.bool false))⟩])
   (.ret))
  (.skip)))
 (.seq (.seq (.reg [⟨none, .fad 20 2 3⟩,
   ⟨none, .load 21 20 1 false⟩,
   ⟨none, .fad 22 3 3⟩,
   ⟨none, .load 23 22 1 false⟩,
   ⟨none, .bin 24 .neq (.t 21) (.t 23)⟩])
  (.cond (.t 24)
  (.seq (.reg [⟨none, .mov 4 (.k (.bool false))⟩])
   (.ret))
  (.skip)))
 (.seq (.seq (.reg [⟨none, .fad 25 2 4⟩,
   ⟨none, .load 26 25 1 true⟩,
   ⟨none, .fad 27 3 4⟩,
   ⟨none, .load 28 27 1 true⟩,
   ⟨none, .call (some 29) 133 [(.t 26), (.t 28)] false⟩,
   ⟨none, .not 30 (.t 29)⟩])
  (.cond (.t 30)
  (.seq (.reg [⟨none, .mov 4 (.k (.bool false))⟩])
   (.ret))
  (.skip)))
 (.seq (.seq (.reg [⟨none, .fad 31 2 5⟩,
   ⟨none, .load 32 31 1 false⟩,
   ⟨none, .fad 33 3 5⟩,
   ⟨none, .load 34 33 1 false⟩,
   ⟨none, .call (some 35) 134 [(.t 32), (.t 34)] false⟩,
   ⟨none, .not 36 (.t 35)⟩])
  (.cond (.t 36)
  (.seq (.reg [⟨none, .mov 4 (.k (.bool false))⟩])
   (.ret))
  (.skip)))
 (.seq (.reg [⟨none, .mov 4 (.k (.bool true))⟩])
 (.ret))))))))⟩
/-- The functions of this text, with their numbers. -/
def tLShard : List (Nat × RF) := [(111, r111), (112, r112), (114, r114)]
end Go.Proofs.Ytgogajbfiocdbaa.A
