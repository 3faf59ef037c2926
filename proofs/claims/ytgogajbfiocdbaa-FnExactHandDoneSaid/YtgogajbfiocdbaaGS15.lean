/- The compact code of some functions: spec.HandOk, spec.HandDone. -/
import Derived.Test.YtgogajbfiocdbaaA1
namespace Go.Proofs.Ytgogajbfiocdbaa.A
open Go
/-- spec.HandOk -/
def r3 : RF :=
 ⟨1, [.tmp 2],
 .seq (.reg [⟨none, .locb 1 (.t 0)⟩,
  ⟨none, .mov 2 (.k (.bool false))⟩])
 (.seq (.reg [⟨none, .fad 3 1 1⟩,
  ⟨none, .load 4 3 1 false⟩,
  ⟨none, .call (some 5) 5 [(.t 4), (.k (.int .i64 0)), (.k (.int .i64 99))] false⟩,
  ⟨none, .mov 6 (.t 5)⟩,
  ⟨some (6, true), .fad 7 1 2⟩,
  ⟨some (6, true), .load 8 7 1 false⟩,
  ⟨some (6, true), .call (some 9) 5 [(.t 8), (.k (.int .i64 0)), (.k (.int .i64 99))] false⟩,
  ⟨none, .pick 10 (.t 6) (.t 9) (.k (.bool false))⟩,
  ⟨none, .mov 11 (.t 10)⟩,
  ⟨some (11, true), .fad 12 1 1⟩,
  ⟨some (11, true), .load 13 12 1 false⟩,
  ⟨some (11, true), .fad 14 1 2⟩,
  ⟨some (11, true), .load 15 14 1 false⟩,
  ⟨some (11, true), .bin 16 .neq (.t 13) (.t 15)⟩,
  ⟨none, .pick 17 (.t 11) (.t 16) (.k (.bool false))⟩,
  ⟨none, .mov 18 (.t 17)⟩,
  ⟨some (18, true), .fad 19 1 3⟩,
  ⟨some (18, true), .load 20 19 1 false⟩,
  ⟨some (18, true), .call (some 21) 5 [(.t 20), (.k (.int .i64 1)), (.k (.int .i64 999999))] false⟩,
  ⟨none, .pick 22 (.t 18) (.t 21) (.k (.bool false))⟩,
  ⟨none, .mov 23 (.t 22)⟩,
  ⟨some (23, true), .fad 24 1 4⟩,
  ⟨some (23, true), .load 25 24 1 false⟩,
  ⟨some (23, true), .call (some 26) 5 [(.t 25), (.k (.int .i64 0)), (.k (.int .i64 3))] false⟩,
  ⟨none, .pick 27 (.t 23) (.t 26) (.k (.bool false))⟩,
  ⟨none, .mov 2 (.t 27)⟩])
 (.ret))⟩
/-- spec.HandDone -/
def r84 : RF :=
 ⟨2, [.cell 4 5 true, .tmp 5],
 .seq (.reg [⟨none, .locb 2 (.t 0)⟩,
  ⟨none, .locb 3 (.t 1)⟩,
  ⟨none, .loc 4 [.int .u64 0, .int .i64 0, .int .i64 0, .int .i64 0, .int .i64 0]⟩,
  ⟨none, .mov 5 (.k (.bool false))⟩])
 (.seq (.reg [⟨none, .fad 7 2 3⟩,
  ⟨none, .load 8 7 1 false⟩,
  ⟨none, .mov 6 (.t 8)⟩])
 (.seq (.seq (.reg [⟨none, .fad 9 2 4⟩,
   ⟨none, .load 10 9 1 false⟩,
   ⟨none, .bin 11 .eql (.t 10) (.k (.int .i64 1))⟩])
  (.cond (.t 11)
  (.reg [⟨none, .fad 12 2 3⟩,
   ⟨none, .load 13 12 1 false⟩,
   ⟨none, .bin 14 .add (.t 13) (.k (.int .i64 1))⟩,
   ⟨none, .mov 6 (.t 14)⟩])
  (.skip)))
 (.seq (.seq (.reg [⟨none, .load 15 2 5 true⟩,
   ⟨none, .call (some 16) 3 [(.t 15)] false⟩,
   ⟨none, .not 17 (.t 16)⟩,
   ⟨none, .mov 18 (.t 17)⟩,
   ⟨some (18, false), .fad 19 2 4⟩,
   ⟨some (18, false), .load 20 19 1 false⟩,
   ⟨some (18, false), .bin 21 .eql (.t 20) (.k (.int .i64 3))⟩,
   ⟨none, .pick 22 (.t 18) (.k (.bool true)) (.t 21)⟩,
   ⟨none, .mov 23 (.t 22)⟩,
   ⟨some (23, false), .fad 24 3 0⟩,
   ⟨some (23, false), .load 25 24 1 false⟩,
   ⟨some (23, false), .fad 26 2 4⟩,
   ⟨some (23, false), .load 27 26 1 false⟩,
   ⟨some (23, false), .bin 28 .neq (.t 25) (.t 27)⟩,
   ⟨none, .pick 29 (.t 23) (.k (.bool true)) (.t 28)⟩,
   ⟨none, .mov 30 (.t 29)⟩,
   ⟨some (30, false), .fad 31 3 1⟩,
   ⟨some (30, false), .load 32 31 1 false⟩,
   ⟨some (30, false), .fad 33 2 0⟩,
   ⟨some (30, false), .load 34 33 1 false⟩,
   ⟨some (30, false), .bin 35 .neq (.t 32) (.t 34)⟩,
   ⟨none, .pick 36 (.t 30) (.k (.bool true)) (.t 35)⟩,
   ⟨none, .mov 37 (.t 36)⟩,
   ⟨some (37, false), .fad 38 3 3⟩,
   ⟨some (37, false), .load 39 38 1 false⟩,
   ⟨some (37, false), .mov 40 (.t 6)⟩,
   ⟨some (37, false), .bin 41 .neq (.t 39) (.t 40)⟩,
   ⟨none, .pick 42 (.t 37) (.k (.bool true)) (.t 41)⟩])
  (.cond (.t 42)
  (.seq (.reg [⟨none, .load 43 2 5 true⟩,
    ⟨none, .store 4 5 (.t 43)⟩,
    ⟨none, .mov 5 (.k (.bool false))⟩])
   (.ret))
  (.skip)))
 (.seq (.reg [⟨none, .fad 44 2 4⟩,
  ⟨none, .load 45 44 1 false⟩,
  ⟨none, .bin 46 .add (.t 45) (.k (.int .i64 1))⟩,
  ⟨none, .fad 47 2 4⟩,
  ⟨none, .store 47 1 (.t 46)⟩])
 (.seq (.reg [⟨none, .load 48 2 5 true⟩,
  ⟨none, .store 4 5 (.t 48)⟩,
  ⟨none, .mov 5 (.k (.bool true))⟩])
 (.ret))))))⟩
/-- The functions of this text, with their numbers. -/
def tS15 : List (Nat × RF) := [(3, r3), (84, r84)]
end Go.Proofs.Ytgogajbfiocdbaa.A
