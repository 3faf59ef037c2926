/- The compact code of some functions: impl.isGroupId, impl.findRange, impl.areRanges, impl.findRange$1. -/
import Derived.Test.YtgogajbfiocdbaaA1
namespace Go.Proofs.Ytgogajbfiocdbaa.A
open Go
/-- impl.isGroupId -/
def r7 : RF :=
 ⟨1, [.tmp 2],
 .seq (.reg [⟨none, .mov 2 (.k (.bool false))⟩])
 (.seq (.reg [⟨none, .mov 3 (.t 0)⟩,
  ⟨none, .bin 4 .geq (.t 3) (.k (.int .i64 0))⟩,
  ⟨none, .mov 5 (.t 4)⟩,
  ⟨some (5, true), .mov 6 (.t 0)⟩,
  ⟨some (5, true), .bin 7 .leq (.t 6) (.k (.int .i64 99))⟩,
  ⟨none, .pick 8 (.t 5) (.t 7) (.k (.bool false))⟩,
  ⟨none, .mov 2 (.t 8)⟩])
 (.ret))⟩
/-- impl.findRange -/
def r107 : RF :=
 ⟨2, [.tmp 4],
 .seq (.reg [⟨none, .newb 3 (.t 1)⟩,
  ⟨none, .mov 4 (.k (.int .i64 0))⟩])
 (.seq (.reg [⟨none, .mov 5 (.t 0)⟩,
  ⟨none, .mkf 6 125 [3]⟩,
  ⟨none, .call (some 7) 126 [(.t 5), (.t 6)] false⟩,
  ⟨none, .mov 4 (.t 7)⟩])
 (.ret))⟩
/-- A loop of impl.areRanges. -/
def r124L0 : RC :=
 .seq (.reg [⟨none, .bin 33 .lss (.t 32) (.t 31)⟩])
    (.seq (.cond (.t 33)
     (.skip)
     (.exit 0))
    (.seq (.block 1 (.seq (.reg [⟨none, .mov 34 (.t 32)⟩,
       ⟨none, .idx 35 7 (.t 30) (.t 32)⟩,
       ⟨none, .load 36 35 3 true⟩,
       ⟨none, .loc 4 [.int .u64 0, .int .u64 0, .int .i64 0]⟩,
       ⟨none, .mov 3 (.t 34)⟩,
       ⟨none, .store 4 3 (.t 36)⟩])
      (.seq (.reg [⟨none, .chk []⟩,
       ⟨none, .fad 37 4 0⟩,
       ⟨none, .load 38 37 1 false⟩,
       ⟨none, .fad 39 4 1⟩,
       ⟨none, .load 40 39 1 false⟩,
       ⟨none, .bin 41 .gtr (.t 38) (.t 40)⟩,
       ⟨none, .mov 42 (.t 41)⟩,
       ⟨some (42, false), .fad 43 4 2⟩,
       ⟨some (42, false), .load 44 43 1 false⟩,
       ⟨some (42, false), .call (some 45) 7 [(.t 44)] true⟩,
       ⟨some (42, false), .not 46 (.t 45)⟩,
       ⟨none, .pick 47 (.t 42) (.k (.bool true)) (.t 46)⟩,
       ⟨none, .mov 48 (.t 47)⟩,
       ⟨some (48, false), .mov 49 (.t 3)⟩,
       ⟨some (48, false), .bin 50 .gtr (.t 49) (.k (.int .i64 0))⟩,
       ⟨some (48, false), .mov 51 (.t 50)⟩,
       ⟨some (51, true), .fad 52 4 0⟩,
       ⟨some (51, true), .load 53 52 1 false⟩,
       ⟨some (51, true), .bin 54 .eql (.t 53) (.k (.int .u64 0))⟩,
       ⟨some (51, true), .mov 55 (.t 54)⟩,
       ⟨some (55, false), .mov 59 (.t 0)⟩,
       ⟨some (55, false), .mov 60 (.t 3)⟩,
       ⟨some (55, false), .bin 61 .sub (.t 60) (.k (.int .i64 1))⟩,
       ⟨some (55, false), .idx 62 7 (.t 59) (.t 61)⟩,
       ⟨some (55, false), .fad 56 4 0⟩,
       ⟨some (55, false), .load 57 56 1 false⟩,
       ⟨some (55, false), .bin 58 .sub (.t 57) (.k (.int .u64 1))⟩,
       ⟨some (55, false), .fad 63 62 1⟩,
       ⟨some (55, false), .load 64 63 1 false⟩,
       ⟨some (55, false), .bin 65 .neq (.t 58) (.t 64)⟩,
       ⟨some (51, true), .pick 66 (.t 55) (.k (.bool true)) (.t 65)⟩,
       ⟨some (48, false), .pick 67 (.t 51) (.t 66) (.k (.bool false))⟩,
       ⟨none, .pick 68 (.t 48) (.k (.bool true)) (.t 67)⟩])
      (.cond (.t 68)
      (.seq (.reg [⟨none, .mov 2 (.k (.bool false))⟩])
       (.ret))
      (.skip)))))
    (.reg [⟨none, .bin 69 .add (.t 32) (.k (.int .i64 1))⟩,
    ⟨none, .mov 32 (.t 69)⟩])))
/-- impl.areRanges -/
def r124 : RF :=
 ⟨1, [.tmp 2],
 .seq (.reg [⟨none, .mov 2 (.k (.bool false))⟩])
 (.seq (.seq (.reg [⟨none, .mov 5 (.t 0)⟩,
   ⟨none, .len 6 (.t 5)⟩,
   ⟨none, .bin 7 .lss (.t 6) (.k (.int .i64 1))⟩,
   ⟨none, .mov 8 (.t 7)⟩,
   ⟨some (8, false), .mov 9 (.t 0)⟩,
   ⟨some (8, false), .len 10 (.t 9)⟩,
   ⟨some (8, false), .bin 11 .gtr (.t 10) (.k (.int .i64 24))⟩,
   ⟨none, .pick 12 (.t 8) (.k (.bool true)) (.t 11)⟩,
   ⟨none, .mov 13 (.t 12)⟩,
   ⟨some (13, false), .mov 14 (.t 0)⟩,
   ⟨some (13, false), .idx 15 7 (.t 14) (.k (.int .i64 0))⟩,
   ⟨some (13, false), .fad 16 15 0⟩,
   ⟨some (13, false), .load 17 16 1 false⟩,
   ⟨some (13, false), .bin 18 .neq (.t 17) (.k (.int .u64 0))⟩,
   ⟨none, .pick 19 (.t 13) (.k (.bool true)) (.t 18)⟩,
   ⟨none, .mov 20 (.t 19)⟩,
   ⟨some (20, false), .mov 21 (.t 0)⟩,
   ⟨some (20, false), .mov 22 (.t 0)⟩,
   ⟨some (20, false), .len 23 (.t 22)⟩,
   ⟨some (20, false), .bin 24 .sub (.t 23) (.k (.int .i64 1))⟩,
   ⟨some (20, false), .idx 25 7 (.t 21) (.t 24)⟩,
   ⟨some (20, false), .fad 26 25 1⟩,
   ⟨some (20, false), .load 27 26 1 false⟩,
   ⟨some (20, false), .bin 28 .neq (.t 27) (.k (.int .u64 18446744073709551615))⟩,
   ⟨none, .pick 29 (.t 20) (.k (.bool true)) (.t 28)⟩])
  (.cond (.t 29)
  (.seq (.reg [⟨none, .mov 2 (.k (.bool false))⟩])
   (.ret))
  (.skip)))
 (.seq (.seq (.reg [⟨none, .mov 30 (.t 0)⟩,
   ⟨none, .len 31 (.t 30)⟩,
   ⟨none, .mov 32 (.k (.int .i64 0))⟩])
  (.block 0 (.loop [0, 30, 31, 32]
   r124L0)))
 (.seq (.reg [⟨none, .mov 2 (.k (.bool true))⟩])
 (.ret))))⟩
/-- impl.findRange$1 -/
def r125 : RF :=
 ⟨2, [.tmp 3],
 .seq (.reg [⟨none, .locb 2 (.t 0)⟩,
  ⟨none, .mov 3 (.k (.bool false))⟩])
 (.seq (.reg [⟨none, .load 4 1 1 false⟩,
  ⟨none, .fad 5 2 1⟩,
  ⟨none, .load 6 5 1 false⟩,
  ⟨none, .bin 7 .leq (.t 4) (.t 6)⟩,
  ⟨none, .mov 3 (.t 7)⟩])
 (.ret))⟩
/-- The functions of this text, with their numbers. -/
def tI11 : List (Nat × RF) := [(7, r7), (107, r107), (124, r124), (125, r125)]
end Go.Proofs.Ytgogajbfiocdbaa.A
