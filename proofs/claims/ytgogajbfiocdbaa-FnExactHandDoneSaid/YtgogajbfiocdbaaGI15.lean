/- The compact code of some functions: impl.HandOk, impl.isHand, impl.HandDone, impl.handDone, impl.handEpoch. -/
import Derived.Test.YtgogajbfiocdbaaA1
namespace Go.Proofs.Ytgogajbfiocdbaa.A
open Go
/-- impl.HandOk -/
def r4 : RF :=
 ⟨1, [.tmp 2],
 .seq (.reg [⟨none, .locb 1 (.t 0)⟩,
  ⟨none, .mov 2 (.k (.bool false))⟩])
 (.seq (.reg [⟨none, .load 3 1 5 true⟩,
  ⟨none, .call (some 4) 6 [(.t 3)] false⟩,
  ⟨none, .mov 2 (.t 4)⟩])
 (.ret))⟩
/-- impl.isHand -/
def r6 : RF :=
 ⟨1, [.tmp 2],
 .seq (.reg [⟨none, .locb 1 (.t 0)⟩,
  ⟨none, .mov 2 (.k (.bool false))⟩])
 (.seq (.reg [⟨none, .fad 3 1 1⟩,
  ⟨none, .load 4 3 1 false⟩,
  ⟨none, .call (some 5) 7 [(.t 4)] false⟩,
  ⟨none, .mov 6 (.t 5)⟩,
  ⟨some (6, true), .fad 7 1 2⟩,
  ⟨some (6, true), .load 8 7 1 false⟩,
  ⟨some (6, true), .call (some 9) 7 [(.t 8)] false⟩,
  ⟨none, .pick 10 (.t 6) (.t 9) (.k (.bool false))⟩,
  ⟨none, .mov 11 (.t 10)⟩,
  ⟨some (11, true), .fad 12 1 1⟩,
  ⟨some (11, true), .load 13 12 1 false⟩,
  ⟨some (11, true), .fad 14 1 2⟩,
  ⟨some (11, true), .load 15 14 1 false⟩,
  ⟨some (11, true), .bin 16 .neq (.t 13) (.t 15)⟩,
  ⟨none, .pick 17 (.t 11) (.t 16) (.k (.bool false))⟩,
  ⟨none, .mov 18 (.t 17)⟩,
  ⟨some (18, true), .fad 19 1 3⟩,
  ⟨some (18, true), .load 20 19 1 false⟩,
  ⟨some (18, true), .bin 21 .geq (.t 20) (.k (.int .i64 1))⟩,
  ⟨none, .pick 22 (.t 18) (.t 21) (.k (.bool false))⟩,
  ⟨none, .mov 23 (.t 22)⟩,
  ⟨some (23, true), .fad 24 1 3⟩,
  ⟨some (23, true), .load 25 24 1 false⟩,
  ⟨some (23, true), .bin 26 .lss (.t 25) (.k (.int .i64 1000000))⟩,
  ⟨none, .pick 27 (.t 23) (.t 26) (.k (.bool false))⟩,
  ⟨none, .mov 28 (.t 27)⟩,
  ⟨some (28, true), .fad 29 1 4⟩,
  ⟨some (28, true), .load 30 29 1 false⟩,
  ⟨some (28, true), .bin 31 .geq (.t 30) (.k (.int .i64 0))⟩,
  ⟨none, .pick 32 (.t 28) (.t 31) (.k (.bool false))⟩,
  ⟨none, .mov 33 (.t 32)⟩,
  ⟨some (33, true), .fad 34 1 4⟩,
  ⟨some (33, true), .load 35 34 1 false⟩,
  ⟨some (33, true), .bin 36 .leq (.t 35) (.k (.int .i64 3))⟩,
  ⟨none, .pick 37 (.t 33) (.t 36) (.k (.bool false))⟩,
  ⟨none, .mov 2 (.t 37)⟩])
 (.ret))⟩
/-- impl.HandDone -/
def r85 : RF :=
 ⟨2, [.cell 4 5 true, .tmp 5],
 .seq (.reg [⟨none, .locb 2 (.t 0)⟩,
  ⟨none, .locb 3 (.t 1)⟩,
  ⟨none, .loc 4 [.int .u64 0, .int .i64 0, .int .i64 0, .int .i64 0, .int .i64 0]⟩,
  ⟨none, .mov 5 (.k (.bool false))⟩])
 (.seq (.reg [⟨none, .load 6 2 5 true⟩,
  ⟨none, .load 7 3 10 true⟩,
  ⟨none, .call (some 8) 113 [(.t 6), (.t 7)] false⟩,
  ⟨none, .ext 9 (.t 8) 0⟩,
  ⟨none, .ext 10 (.t 8) 1⟩,
  ⟨none, .store 4 5 (.t 9)⟩,
  ⟨none, .mov 5 (.t 10)⟩])
 (.ret))⟩
/-- impl.handDone -/
def r113 : RF :=
 ⟨2, [.cell 4 5 true, .tmp 5],
 .seq (.reg [⟨none, .locb 2 (.t 0)⟩,
  ⟨none, .locb 3 (.t 1)⟩,
  ⟨none, .loc 4 [.int .u64 0, .int .i64 0, .int .i64 0, .int .i64 0, .int .i64 0]⟩,
  ⟨none, .mov 5 (.k (.bool false))⟩])
 (.seq (.seq (.reg [⟨none, .chk []⟩,
   ⟨none, .load 6 2 5 true⟩,
   ⟨none, .call (some 7) 6 [(.t 6)] true⟩,
   ⟨none, .not 8 (.t 7)⟩,
   ⟨none, .mov 9 (.t 8)⟩,
   ⟨some (9, false), .fad 10 2 4⟩,
   ⟨some (9, false), .load 11 10 1 false⟩,
   ⟨some (9, false), .bin 12 .eql (.t 11) (.k (.int .i64 3))⟩,
   ⟨none, .pick 13 (.t 9) (.k (.bool true)) (.t 12)⟩,
   ⟨none, .mov 14 (.t 13)⟩,
   ⟨some (14, false), .fad 15 3 0⟩,
   ⟨some (14, false), .load 16 15 1 false⟩,
   ⟨some (14, false), .fad 17 2 4⟩,
   ⟨some (14, false), .load 18 17 1 false⟩,
   ⟨some (14, false), .bin 19 .neq (.t 16) (.t 18)⟩,
   ⟨none, .pick 20 (.t 14) (.k (.bool true)) (.t 19)⟩,
   ⟨none, .mov 21 (.t 20)⟩,
   ⟨some (21, false), .fad 22 3 1⟩,
   ⟨some (21, false), .load 23 22 1 false⟩,
   ⟨some (21, false), .fad 24 2 0⟩,
   ⟨some (21, false), .load 25 24 1 false⟩,
   ⟨some (21, false), .bin 26 .neq (.t 23) (.t 25)⟩,
   ⟨none, .pick 27 (.t 21) (.k (.bool true)) (.t 26)⟩,
   ⟨none, .mov 28 (.t 27)⟩,
   ⟨some (28, false), .fad 29 3 3⟩,
   ⟨some (28, false), .load 30 29 1 false⟩,
   ⟨some (28, false), .load 31 2 5 true⟩,
   ⟨some (28, false), .call (some 32) 132 [(.t 31)] true⟩,
   ⟨some (28, false), .bin 33 .neq (.t 30) (.t 32)⟩,
   ⟨none, .pick 34 (.t 28) (.k (.bool true)) (.t 33)⟩])
  (.cond (.t 34)
  (.seq (.reg [⟨none, .load 35 2 5 true⟩,
    ⟨none, .store 4 5 (.t 35)⟩,
    ⟨none, .mov 5 (.k (.bool false))⟩])
   (.ret))
  (.skip)))
 (.seq (.reg [⟨none, .fad 36 2 4⟩,
  ⟨none, .load 37 36 1 false⟩,
  ⟨none, .bin 38 .add (.t 37) (.k (.int .i64 1))⟩,
  ⟨none, .fad 39 2 4⟩,
  ⟨none, .store 39 1 (.t 38)⟩])
 (.seq (.reg [⟨none, .load 40 2 5 true⟩,
  ⟨none, .store 4 5 (.t 40)⟩,
  ⟨none, .mov 5 (.k (.bool true))⟩])
 (.ret))))⟩
/-- impl.handEpoch -/
def r132 : RF :=
 ⟨1, [.tmp 2],
 .seq (.reg [⟨none, .locb 1 (.t 0)⟩,
  ⟨none, .mov 2 (.k (.int .i64 0))⟩])
 (.seq (.seq (.reg [⟨none, .fad 3 1 4⟩,
   ⟨none, .load 4 3 1 false⟩,
   ⟨none, .bin 5 .eql (.t 4) (.k (.int .i64 1))⟩])
  (.cond (.t 5)
  (.seq (.reg [⟨none, .fad 6 1 3⟩,
    ⟨none, .load 7 6 1 false⟩,
    ⟨none, .bin 8 .add (.t 7) (.k (.int .i64 1))⟩,
    ⟨none, .mov 2 (.t 8)⟩])
   (.ret))
  (.skip)))
 (.seq (.reg [⟨none, .fad 9 1 3⟩,
  ⟨none, .load 10 9 1 false⟩,
  ⟨none, .mov 2 (.t 10)⟩])
 (.ret)))⟩
/-- The functions of this text, with their numbers. -/
def tI15 : List (Nat × RF) := [(4, r4), (6, r6), (85, r85), (113, r113), (132, r132)]
end Go.Proofs.Ytgogajbfiocdbaa.A
