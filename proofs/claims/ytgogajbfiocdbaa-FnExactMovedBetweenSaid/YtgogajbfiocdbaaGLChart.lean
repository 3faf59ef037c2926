/- The compact code of some functions: laws.szChart, laws.toChart, laws.eqChart, laws.markChart, laws.heldChart. -/
import Derived.Test.YtgogajbfiocdbaaA1
namespace Go.Proofs.Ytgogajbfiocdbaa.A
open Go
/-- laws.szChart -/
def r67 : RF :=
 ⟨2, [.tmp 4],
 .seq (.reg [⟨none, .locb 2 (.t 0)⟩,
  ⟨none, .mov 4 (.k (.int .i64 0))⟩])
 (.seq (.reg [⟨none, .fad 5 2 1⟩,
  ⟨none, .load 6 5 1 false⟩,
  ⟨none, .mov 7 (.t 1)⟩,
  ⟨none, .call (some 8) 102 [(.t 6), (.t 7)] false⟩,
  ⟨none, .mov 1 (.t 8)⟩])
 (.seq (.seq (.reg [⟨none, .mov 9 (.t 1)⟩,
   ⟨none, .bin 10 .lss (.t 9) (.k (.int .i64 0))⟩])
  (.cond (.t 10)
  (.seq (.reg [⟨none, .mov 4 (.k (.int .i64 (-1)))⟩])
   (.ret))
  (.skip)))
 (.seq (.reg [⟨none, .mov 11 (.t 1)⟩,
  ⟨none, .mov 4 (.t 11)⟩])
 (.ret))))⟩
/-- laws.toChart -/
def r68 : RF :=
 ⟨1, [.cell 2 5 true],
 .seq (.reg [⟨none, .locb 1 (.t 0)⟩,
  ⟨none, .loc 2 [.int .i64 0, .nil, .bool false, .int .u64 0, .int .i64 0]⟩])
 (.seq (.reg [⟨none, .loc 3 [.int .i64 0, .nil, .bool false, .int .u64 0, .int .i64 0]⟩])
 (.seq (.reg [⟨none, .fad 4 1 0⟩,
  ⟨none, .load 5 4 1 false⟩,
  ⟨none, .fad 6 3 0⟩,
  ⟨none, .store 6 1 (.t 5)⟩])
 (.seq (.reg [⟨none, .fad 7 1 1⟩,
  ⟨none, .load 8 7 1 false⟩,
  ⟨none, .call (some 9) 105 [(.t 8)] false⟩,
  ⟨none, .fad 10 3 1⟩,
  ⟨none, .store 10 1 (.t 9)⟩])
 (.seq (.reg [⟨none, .fad 11 1 2⟩,
  ⟨none, .load 12 11 1 false⟩,
  ⟨none, .fad 13 3 2⟩,
  ⟨none, .store 13 1 (.t 12)⟩])
 (.seq (.reg [⟨none, .fad 14 1 3⟩,
  ⟨none, .load 15 14 1 false⟩,
  ⟨none, .fad 16 3 3⟩,
  ⟨none, .store 16 1 (.t 15)⟩])
 (.seq (.reg [⟨none, .fad 17 1 4⟩,
  ⟨none, .load 18 17 1 false⟩,
  ⟨none, .fad 19 3 4⟩,
  ⟨none, .store 19 1 (.t 18)⟩])
 (.seq (.reg [⟨none, .load 20 3 5 true⟩,
  ⟨none, .store 2 5 (.t 20)⟩])
 (.ret))))))))⟩
/-- laws.eqChart -/
def r71 : RF :=
 ⟨2, [.tmp 4],
 .seq (.reg [⟨none, .locb 2 (.t 0)⟩,
  ⟨none, .locb 3 (.t 1)⟩,
  ⟨none, .mov 4 (.k (.bool false))⟩])
 (.seq (.seq (.reg [⟨none, .fad 5 2 0⟩,
   ⟨none, .load 6 5 1 false⟩,
   ⟨none, .fad 7 3 0⟩,
   ⟨none, .load 8 7 1 false⟩,
   ⟨none, .bin 9 .neq (.t 6) (.t 8)⟩])
  (.cond (.t 9)
  (.seq (.reg [⟨none, .mov 4 (.k (.bool false))⟩])
   (.ret))
  (.skip)))
 (.seq (.seq (.reg [⟨none, .fad 10 2 1⟩,
   ⟨none, .load 11 10 1 false⟩,
   ⟨none, .fad 12 3 1⟩,
   ⟨none, .load 13 12 1 false⟩,
   ⟨none, .call (some 14) 108 [(.t 11), (.t 13)] false⟩,
   ⟨none, .not 15 (.t 14)⟩])
  (.cond (.t 15)
  (.seq (.reg [⟨none, .mov 4 (.k (.bool false))⟩])
   (.ret))
  (.skip)))
 (.seq (.seq (.reg [⟨none, .fad 16 2 2⟩,
   ⟨none, .load 17 16 1 false⟩,
   ⟨none, .fad 18 3 2⟩,
   ⟨none, .load 19 18 1 false⟩,
   ⟨none, .beq 20 true (.t 17) (.t 19)⟩])
  (.cond (.t 20)
  (.seq (.reg [⟨none, .mov 4 (.k (.bool false))⟩])
   (.ret))
  (.skip)))
 (.seq (.seq (.reg [⟨none, .fad 21 2 3⟩,
   ⟨none, .load 22 21 1 false⟩,
   ⟨none, .fad 23 3 3⟩,
   ⟨none, .load 24 23 1 false⟩,
   ⟨none, .bin 25 .neq (.t 22) (.t 24)⟩])
  (.cond (.t 25)
  (.seq (.reg [⟨none, .mov 4 (.k (.bool false))⟩])
   (.ret))
  (.skip)))
 (.seq (.seq (.reg [⟨none, .fad 26 2 4⟩,
   ⟨none, .load 27 26 1 false⟩,
   ⟨none, .fad 28 3 4⟩,
   ⟨none, .load 29 28 1 false⟩,
   ⟨none, .bin 30 .neq (.t 27) (.t 29)⟩])
  (.cond (.t 30)
  (.seq (.reg [⟨none, .mov 4 (.k (.bool false))⟩])
   (.ret))
  (.skip)))
 (.seq (.reg [⟨none, .mov 4 (.k (.bool true))⟩])
 (.ret)))))))⟩
/-- laws.markChart -/
def r94 : RF :=
 ⟨2, [.tmp 4],
 .seq (.reg [⟨none, .locb 2 (.t 0)⟩,
  ⟨none, .mov 4 (.k (.int .i64 0))⟩])
 (.seq (.reg [⟨none, .fad 5 2 1⟩,
  ⟨none, .load 6 5 1 false⟩,
  ⟨none, .mov 7 (.t 1)⟩,
  ⟨none, .call (some 8) 117 [(.t 6), (.t 7)] false⟩,
  ⟨none, .mov 1 (.t 8)⟩])
 (.seq (.reg [⟨none, .mov 9 (.t 1)⟩,
  ⟨none, .mov 4 (.t 9)⟩])
 (.ret)))⟩
/-- laws.heldChart -/
def r118 : RF :=
 ⟨2, [.tmp 4],
 .seq (.reg [⟨none, .locb 2 (.t 0)⟩,
  ⟨none, .mov 4 (.k (.int .i64 0))⟩])
 (.seq (.reg [⟨none, .fad 5 2 1⟩,
  ⟨none, .load 6 5 1 false⟩,
  ⟨none, .mov 7 (.t 1)⟩,
  ⟨none, .call (some 8) 135 [(.t 6), (.t 7)] false⟩,
  ⟨none, .mov 1 (.t 8)⟩])
 (.seq (.seq (.reg [⟨none, .mov 9 (.t 1)⟩,
   ⟨none, .bin 10 .lss (.t 9) (.k (.int .i64 0))⟩])
  (.cond (.t 10)
  (.seq (.reg [⟨none, .mov 4 (.k (.int .i64 (-1)))⟩])
   (.ret))
  (.skip)))
 (.seq (.reg [⟨none, .mov 11 (.t 1)⟩,
  ⟨none, .mov 4 (.t 11)⟩])
 (.ret))))⟩
/-- The functions of this text, with their numbers. -/
def tLChart : List (Nat × RF) := [(67, r67), (68, r68), (71, r71), (94, r94), (118, r118)]
end Go.Proofs.Ytgogajbfiocdbaa.A
