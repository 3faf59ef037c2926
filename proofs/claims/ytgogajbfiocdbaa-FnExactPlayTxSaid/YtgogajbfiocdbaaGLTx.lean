/- The compact code of some functions: laws.toTx, laws.eqTx. -/
import Derived.Test.YtgogajbfiocdbaaA1
namespace Go.Proofs.Ytgogajbfiocdbaa.A
open Go
/-- laws.toTx -/
def r13 : RF :=
 ⟨1, [.cell 2 10 true],
 .seq (.reg [⟨none, .locb 1 (.t 0)⟩,
  ⟨none, .loc 2 [.int .i64 0, .int .u64 0, .int .u64 0, .int .u64 0, .int .i64 0, .bool false, .bool false, .bool false, .bool false, .int .i64 0]⟩])
 (.seq (.reg [⟨none, .loc 3 [.int .i64 0, .int .u64 0, .int .u64 0, .int .u64 0, .int .i64 0, .bool false, .bool false, .bool false, .bool false, .int .i64 0]⟩])
 (.seq (.reg [⟨none, .fad 4 1 0⟩,
  ⟨none, .load 5 4 1 false⟩,
  ⟨none, .fad 6 3 0⟩,
  ⟨none, .store 6 1 (.t 5)⟩])
 (.seq (.reg [⟨none, .fad 7 1 1⟩,
  ⟨none, .load 8 7 1 false⟩,
  ⟨none, .fad 9 3 1⟩,
  ⟨none, .store 9 1 (.t 8)⟩])
 (.seq (.reg [⟨none, .fad 10 1 2⟩,
  ⟨none, .load 11 10 1 false⟩,
  ⟨none, .fad 12 3 2⟩,
  ⟨none, .store 12 1 (.t 11)⟩])
 (.seq (.reg [⟨none, .fad 13 1 3⟩,
  ⟨none, .load 14 13 1 false⟩,
  ⟨none, .fad 15 3 3⟩,
  ⟨none, .store 15 1 (.t 14)⟩])
 (.seq (.reg [⟨none, .fad 16 1 4⟩,
  ⟨none, .load 17 16 1 false⟩,
  ⟨none, .fad 18 3 4⟩,
  ⟨none, .store 18 1 (.t 17)⟩])
 (.seq (.reg [⟨none, .fad 19 1 5⟩,
  ⟨none, .load 20 19 1 false⟩,
  ⟨none, .fad 21 3 5⟩,
  ⟨none, .store 21 1 (.t 20)⟩])
 (.seq (.reg [⟨none, .fad 22 1 6⟩,
  ⟨none, .load 23 22 1 false⟩,
  ⟨none, .fad 24 3 6⟩,
  ⟨none, .store 24 1 (.t 23)⟩])
 (.seq (.reg [⟨none, .fad 25 1 7⟩,
  ⟨none, .load 26 25 1 false⟩,
  ⟨none, .fad 27 3 7⟩,
  ⟨none, .store 27 1 (.t 26)⟩])
 (.seq (.reg [⟨none, .fad 28 1 8⟩,
  ⟨none, .load 29 28 1 false⟩,
  ⟨none, .fad 30 3 8⟩,
  ⟨none, .store 30 1 (.t 29)⟩])
 (.seq (.reg [⟨none, .fad 31 1 9⟩,
  ⟨none, .load 32 31 1 false⟩,
  ⟨none, .fad 33 3 9⟩,
  ⟨none, .store 33 1 (.t 32)⟩])
 (.seq (.reg [⟨none, .load 34 3 10 true⟩,
  ⟨none, .store 2 10 (.t 34)⟩])
 (.ret)))))))))))))⟩
/-- laws.eqTx -/
def r22 : RF :=
 ⟨2, [.tmp 4],
 .seq (.reg [⟨none, .locb 2 (.t 0)⟩,
  ⟨none, .locb 3 (.t 1)⟩,
  ⟨none, .mov 4 (.k (.bool false))⟩])
 (.seq (.seq (.reg [⟨none, .fad 5 2 0⟩,
   ⟨none, .load 6 5 1 false⟩,
   ⟨none, .fad 7 3 0⟩,
   ⟨none, .load 8 7 1 false⟩,
   ⟨none, .bin 9 .neq (.t 6) (.t 8)⟩])
  (.cond (.t 9)
  (.seq (.reg [⟨none, .mov 4 (.k (.bool false))⟩])
   (.ret))
  (.skip)))
 (.seq (.seq (.reg [⟨none, .fad 10 2 1⟩,
   ⟨none, .load 11 10 1 false⟩,
   ⟨none, .fad 12 3 1⟩,
   ⟨none, .load 13 12 1 false⟩,
   ⟨none, .bin 14 .neq (.t 11) (.t 13)⟩])
  (.cond (.t 14)
  (.seq (.reg [⟨none, .mov 4 (.k (.bool false))⟩])
   (.ret))
  (.skip)))
 (.seq (.seq (.reg [⟨none, .fad 15 2 2⟩,
   ⟨none, .load 16 15 1 false⟩,
   ⟨none, .fad 17 3 2⟩,
   ⟨none, .load 18 17 1 false⟩,
   ⟨none, .bin 19 .neq (.t 16) (.t 18)⟩])
  (.cond (.t 19)
  (.seq (.reg [⟨none, .mov 4 (.k (.bool false))⟩])
   (.ret))
  (.skip)))
 (.seq (.seq (.reg [⟨none, .fad 20 2 3⟩,
   ⟨none, .load 21 20 1 false⟩,
   ⟨none, .fad 22 3 3⟩,
   ⟨none, .load 23 22 1 false⟩,
   ⟨none, .bin 24 .neq (.t 21) (.t 23)⟩])
  (.cond (.t 24)
  (.seq (.reg [⟨none, .mov 4 (.k (.bool false))⟩])
   (.ret))
  (.skip)))
 (.seq (.seq (.reg [⟨none, .fad 25 2 4⟩,
   ⟨none, .load 26 25 1 false⟩,
   ⟨none, .fad 27 3 4⟩,
   ⟨none, .load 28 27 1 false⟩,
   ⟨none, .bin 29 .neq (.t 26) (.t 28)⟩])
  (.cond (.t 29)
  (.seq (.reg [⟨none, .mov 4 (.k (.bool false))⟩])
   (.ret))
  (.skip)))
 (.seq (.seq (.reg [⟨none, .fad 30 2 5⟩,
   ⟨none, .load 31 30 1 false⟩,
   ⟨none, .fad 32 3 5⟩,
   ⟨none, .load 33 32 1 false⟩,
   ⟨none, .beq 34 true (.t 31) (.t 33)⟩])
  (.cond (.t 34)
  (.seq (.reg [⟨none, .mov 4 (.k (.bool false))⟩])
   (.ret))
  (.skip)))
 (.seq (.seq (.reg [⟨none, .fad 35 2 6⟩,
   ⟨none, .load 36 35 1 false⟩,
   ⟨none, .fad 37 3 6⟩,
   ⟨none, .load 38 37 1 false⟩,
   ⟨none, .beq 39 true (.t 36) (.t 38)⟩])
  (.cond (.t 39)
  (.seq (.reg [⟨none, .mov 4 (.k (.bool false))⟩])
   (.ret))
  (.skip)))
 (.seq (.seq (.reg [⟨none, .fad 40 2 7⟩,
   ⟨none, .load 41 40 1 false⟩,
   ⟨none, .fad 42 3 7⟩,
   ⟨none, .load 43 42 1 false⟩,
   ⟨none, .beq 44 true (.t 41) (.t 43)⟩])
  (.cond (.t 44)
  (.seq (.reg [⟨none, .mov 4 (.k (.bool false))⟩])
   (.ret))
  (.skip)))
 (.seq (.seq (.reg [⟨none, .fad 45 2 8⟩,
   ⟨none, .load 46 45 1 false⟩,
   ⟨none, .fad 47 3 8⟩,
   ⟨none, .load 48 47 1 false⟩,
   ⟨none, .beq 49 true (.t 46) (.t 48)⟩])
  (.cond (.t 49)
  (.seq (.reg [⟨none, .mov 4 (.k (.bool false))⟩])
   (.ret))
  (.skip)))
 (.seq (.seq (.reg [⟨none, .fad 50 2 9⟩,
   ⟨none, .load 51 50 1 false⟩,
   ⟨none, .fad 52 3 9⟩,
   ⟨none, .load 53 52 1 false⟩,
   ⟨none, .bin 54 .neq (.t 51) (.t 53)⟩])
  (.cond (.t 54)
  (.seq (.reg [⟨none, .mov 4 (.k (.bool false))⟩])
   (.ret))
  (.skip)))
 (.seq (.reg [⟨none, .mov 4 (.k (.bool true))⟩])
 (.ret))))))))))))⟩
/-- The functions of this text, with their numbers. -/
def tLTx : List (Nat × RF) := [(13, r13), (22, r22)]
end Go.Proofs.Ytgogajbfiocdbaa.A
