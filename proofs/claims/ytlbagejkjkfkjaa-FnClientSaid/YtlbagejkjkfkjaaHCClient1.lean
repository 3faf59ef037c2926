/- The functions that the statement reaches, part 1: bodies and what they compute. No condition. -/
import Derived.Test.YtlbagejkjkfkjaaA1
import Derived.Test.YtlbagejkjkfkjaaB8
import Derived.Test.YtlbagejkjkfkjaaB6
import Derived.Test.YtlbagejkjkfkjaaB5
/- The compact code of some functions: impl.isGroupId, impl.findRange, impl.areRanges, impl.findRange$1, impl.splitRange, impl.mergeRange. -/
namespace Go.Proofs.Ytlbagejkjkfkjaa.A
open Go
/-- impl.isGroupId -/
def r7 : RF :=
 ⟨1, [.tmp 2],
 .seq (.reg [⟨none, .mov 2 (.k (.bool false))⟩])
 (.seq (.reg [⟨none, .mov 3 (.t 0)⟩,
  ⟨none, .bin 4 .geq (.t 3) (.k (.int .i64 0))⟩,
  ⟨none, .mov 5 (.t 4)⟩,
  ⟨some (5, true), .mov 6 (.t 0)⟩,
  ⟨some (5, true), .bin 7 .leq (.t 6) (.k (.int .i64 99))⟩,
  ⟨none, .pick 8 (.t 5) (.t 7) (.k (.bool false))⟩,
  ⟨none, .mov 2 (.t 8)⟩])
 (.ret))⟩
/-- impl.findRange -/
def r107 : RF :=
 ⟨2, [.tmp 4],
 .seq (.reg [⟨none, .newb 3 (.t 1)⟩,
  ⟨none, .mov 4 (.k (.int .i64 0))⟩])
 (.seq (.reg [⟨none, .mov 5 (.t 0)⟩,
  ⟨none, .mkf 6 125 [3]⟩,
  ⟨none, .call (some 7) 126 [(.t 5), (.t 6)] false⟩,
  ⟨none, .mov 4 (.t 7)⟩])
 (.ret))⟩
/-- A loop of impl.areRanges. -/
def r124L0 : RC :=
 .seq (.reg [⟨none, .bin 33 .lss (.t 32) (.t 31)⟩])
    (.seq (.cond (.t 33)
     (.skip)
     (.exit 0))
    (.seq (.block 1 (.seq (.reg [⟨none, .mov 34 (.t 32)⟩,
       ⟨none, .idx 35 7 (.t 30) (.t 32)⟩,
       ⟨none, .load 36 35 3 true⟩,
       ⟨none, .loc 4 [.int .u64 0, .int .u64 0, .int .i64 0]⟩,
       ⟨none, .mov 3 (.t 34)⟩,
       ⟨none, .store 4 3 (.t 36)⟩])
      (.seq (.reg [⟨none, .chk []⟩,
       ⟨none, .fad 37 4 0⟩,
       ⟨none, .load 38 37 1 false⟩,
       ⟨none, .fad 39 4 1⟩,
       ⟨none, .load 40 39 1 false⟩,
       ⟨none, .bin 41 .gtr (.t 38) (.t 40)⟩,
       ⟨none, .mov 42 (.t 41)⟩,
       ⟨some (42, false), .fad 43 4 2⟩,
       ⟨some (42, false), .load 44 43 1 false⟩,
       ⟨some (42, false), .call (some 45) 7 [(.t 44)] true⟩,
       ⟨some (42, false), .not 46 (.t 45)⟩,
       ⟨none, .pick 47 (.t 42) (.k (.bool true)) (.t 46)⟩,
       ⟨none, .mov 48 (.t 47)⟩,
       ⟨some (48, false), .mov 49 (.t 3)⟩,
       ⟨some (48, false), .bin 50 .gtr (.t 49) (.k (.int .i64 0))⟩,
       ⟨some (48, false), .mov 51 (.t 50)⟩,
       ⟨some (51, true), .fad 52 4 0⟩,
       ⟨some (51, true), .load 53 52 1 false⟩,
       ⟨some (51, true), .bin 54 .eql (.t 53) (.k (.int .u64 0))⟩,
       ⟨some (51, true), .mov 55 (.t 54)⟩,
       ⟨some (55, false), .mov 59 (.t 0)⟩,
       ⟨some (55, false), .mov 60 (.t 3)⟩,
       ⟨some (55, false), .bin 61 .sub (.t 60) (.k (.int .i64 1))⟩,
       ⟨some (55, false), .idx 62 7 (.t 59) (.t 61)⟩,
       ⟨some (55, false), .fad 56 4 0⟩,
       ⟨some (55, false), .load 57 56 1 false⟩,
       ⟨some (55, false), .bin 58 .sub (.t 57) (.k (.int .u64 1))⟩,
       ⟨some (55, false), .fad 63 62 1⟩,
       ⟨some (55, false), .load 64 63 1 false⟩,
       ⟨some (55, false), .bin 65 .neq (.t 58) (.t 64)⟩,
       ⟨some (51, true), .pick 66 (.t 55) (.k (.bool true)) (.t 65)⟩,
       ⟨some (48, false), .pick 67 (.t 51) (.t 66) (.k (.bool false))⟩,
       ⟨none, .pick 68 (.t 48) (.k (.bool true)) (.t 67)⟩])
      (.cond (.t 68)
      (.seq (.reg [⟨none, .mov 2 (.k (.bool false))⟩])
       (.ret))
      (.skip)))))
    (.reg [⟨none, .bin 69 .add (.t 32) (.k (.int .i64 1))⟩,
    ⟨none, .mov 32 (.t 69)⟩])))
/-- impl.areRanges -/
def r124 : RF :=
 ⟨1, [.tmp 2],
 .seq (.reg [⟨none, .mov 2 (.k (.bool false))⟩])
 (.seq (.seq (.reg [⟨none, .mov 5 (.t 0)⟩,
   ⟨none, .len 6 (.t 5)⟩,
   ⟨none, .bin 7 .lss (.t 6) (.k (.int .i64 1))⟩,
   ⟨none, .mov 8 (.t 7)⟩,
   ⟨some (8, false), .mov 9 (.t 0)⟩,
   ⟨some (8, false), .len 10 (.t 9)⟩,
   ⟨some (8, false), .bin 11 .gtr (.t 10) (.k (.int .i64 24))⟩,
   ⟨none, .pick 12 (.t 8) (.k (.bool true)) (.t 11)⟩,
   ⟨none, .mov 13 (.t 12)⟩,
   ⟨some (13, false), .mov 14 (.t 0)⟩,
   ⟨some (13, false), .idx 15 7 (.t 14) (.k (.int .i64 0))⟩,
   ⟨some (13, false), .fad 16 15 0⟩,
   ⟨some (13, false), .load 17 16 1 false⟩,
   ⟨some (13, false), .bin 18 .neq (.t 17) (.k (.int .u64 0))⟩,
   ⟨none, .pick 19 (.t 13) (.k (.bool true)) (.t 18)⟩,
   ⟨none, .mov 20 (.t 19)⟩,
   ⟨some (20, false), .mov 21 (.t 0)⟩,
   ⟨some (20, false), .mov 22 (.t 0)⟩,
   ⟨some (20, false), .len 23 (.t 22)⟩,
   ⟨some (20, false), .bin 24 .sub (.t 23) (.k (.int .i64 1))⟩,
   ⟨some (20, false), .idx 25 7 (.t 21) (.t 24)⟩,
   ⟨some (20, false), .fad 26 25 1⟩,
   ⟨some (20, false), .load 27 26 1 false⟩,
   ⟨some (20, false), .bin 28 .neq (.t 27) (.k (.int .u64 18446744073709551615))⟩,
   ⟨none, .pick 29 (.t 20) (.k (.bool true)) (.t 28)⟩])
  (.cond (.t 29)
  (.seq (.reg [⟨none, .mov 2 (.k (.bool false))⟩])
   (.ret))
  (.skip)))
 (.seq (.seq (.reg [⟨none, .mov 30 (.t 0)⟩,
   ⟨none, .len 31 (.t 30)⟩,
   ⟨none, .mov 32 (.k (.int .i64 0))⟩])
  (.block 0 (.loop [0, 30, 31, 32]
   r124L0)))
 (.seq (.reg [⟨none, .mov 2 (.k (.bool true))⟩])
 (.ret))))⟩
/-- impl.findRange$1 -/
def r125 : RF :=
 ⟨2, [.tmp 3],
 .seq (.reg [⟨none, .locb 2 (.t 0)⟩,
  ⟨none, .mov 3 (.k (.bool false))⟩])
 (.seq (.reg [⟨none, .load 4 1 1 false⟩,
  ⟨none, .fad 5 2 1⟩,
  ⟨none, .load 6 5 1 false⟩,
  ⟨none, .bin 7 .leq (.t 4) (.t 6)⟩,
  ⟨none, .mov 3 (.t 7)⟩])
 (.ret))⟩
/-- impl.splitRange -/
def r255 : RF :=
 ⟨3, [.tmp 6, .tmp 7],
 .seq (.reg [⟨none, .mov 6 (.k (.nil))⟩,
  ⟨none, .mov 7 (.k (.bool false))⟩])
 (.seq (.seq (.reg [⟨none, .mov 11 (.t 0)⟩,
   ⟨none, .call (some 12) 124 [(.t 11)] false⟩,
   ⟨none, .not 13 (.t 12)⟩,
   ⟨none, .mov 14 (.t 13)⟩,
   ⟨some (14, false), .mov 15 (.t 2)⟩,
   ⟨some (14, false), .call (some 16) 7 [(.t 15)] false⟩,
   ⟨some (14, false), .not 17 (.t 16)⟩,
   ⟨none, .pick 18 (.t 14) (.k (.bool true)) (.t 17)⟩,
   ⟨none, .mov 19 (.t 18)⟩,
   ⟨some (19, false), .mov 20 (.t 0)⟩,
   ⟨some (19, false), .len 21 (.t 20)⟩,
   ⟨some (19, false), .bin 22 .eql (.t 21) (.k (.int .i64 24))⟩,
   ⟨none, .pick 23 (.t 19) (.k (.bool true)) (.t 22)⟩])
  (.cond (.t 23)
  (.seq (.reg [⟨none, .mov 6 (.k (.nil))⟩,
    ⟨none, .mov 7 (.k (.bool false))⟩])
   (.ret))
  (.skip)))
 (.seq (.reg [⟨none, .mov 24 (.t 0)⟩,
  ⟨none, .mov 25 (.t 1)⟩,
  ⟨none, .call (some 26) 107 [(.t 24), (.t 25)] false⟩,
  ⟨none, .mov 8 (.t 26)⟩])
 (.seq (.reg [⟨none, .mov 27 (.t 0)⟩,
  ⟨none, .mov 28 (.t 8)⟩,
  ⟨none, .idx 29 7 (.t 27) (.t 28)⟩,
  ⟨none, .load 30 29 3 true⟩,
  ⟨none, .loc 9 [.int .u64 0, .int .u64 0, .int .i64 0]⟩,
  ⟨none, .store 9 3 (.t 30)⟩])
 (.seq (.seq (.reg [⟨none, .fad 31 9 0⟩,
   ⟨none, .load 32 31 1 false⟩,
   ⟨none, .mov 33 (.t 1)⟩,
   ⟨none, .bin 34 .eql (.t 32) (.t 33)⟩])
  (.cond (.t 34)
  (.seq (.reg [⟨none, .mov 6 (.k (.nil))⟩,
    ⟨none, .mov 7 (.k (.bool false))⟩])
   (.ret))
  (.skip)))
 (.seq (.reg [⟨none, .lit 35 7 0 [.int .u64 0, .int .u64 0, .int .i64 0] []⟩,
  ⟨none, .mov 36 (.t 0)⟩,
  ⟨none, .app 37 7 24 (.t 35) (.t 36)⟩,
  ⟨none, .mov 10 (.t 37)⟩])
 (.seq (.reg [⟨none, .mov 38 (.t 10)⟩,
  ⟨none, .mov 39 (.t 8)⟩,
  ⟨none, .mov 40 (.t 1)⟩,
  ⟨none, .bin 41 .sub (.t 40) (.k (.int .u64 1))⟩,
  ⟨none, .idx 42 7 (.t 38) (.t 39)⟩,
  ⟨none, .fad 43 42 1⟩,
  ⟨none, .store 43 1 (.t 41)⟩])
 (.seq (.reg [⟨none, .mov 44 (.t 10)⟩,
  ⟨none, .mov 45 (.t 8)⟩,
  ⟨none, .bin 46 .add (.t 45) (.k (.int .i64 1))⟩,
  ⟨none, .mov 47 (.t 1)⟩,
  ⟨none, .fad 48 9 1⟩,
  ⟨none, .load 49 48 1 false⟩,
  ⟨none, .mov 50 (.t 2)⟩,
  ⟨none, .build 51 [.int .u64 0, .int .u64 0, .int .i64 0] [(0, 1, (.t 47)), (1, 1, (.t 49)), (2, 1, (.t 50))]⟩,
  ⟨none, .lit 52 7 1 [.int .u64 0, .int .u64 0, .int .i64 0] [(0, (.t 51))]⟩,
  ⟨none, .call (some 53) 269 [(.t 44), (.t 46), (.t 52)] false⟩,
  ⟨none, .mov 6 (.t 53)⟩,
  ⟨none, .mov 7 (.k (.bool true))⟩])
 (.ret))))))))⟩
/-- impl.mergeRange -/
def r256 : RF :=
 ⟨2, [.tmp 4, .tmp 5],
 .seq (.reg [⟨none, .mov 4 (.k (.nil))⟩,
  ⟨none, .mov 5 (.k (.bool false))⟩])
 (.seq (.seq (.reg [⟨none, .chk []⟩,
   ⟨none, .mov 7 (.t 0)⟩,
   ⟨none, .call (some 8) 124 [(.t 7)] true⟩,
   ⟨none, .not 9 (.t 8)⟩,
   ⟨none, .mov 10 (.t 9)⟩,
   ⟨some (10, false), .mov 11 (.t 1)⟩,
   ⟨some (10, false), .bin 12 .lss (.t 11) (.k (.int .i64 0))⟩,
   ⟨none, .pick 13 (.t 10) (.k (.bool true)) (.t 12)⟩,
   ⟨none, .mov 14 (.t 13)⟩,
   ⟨some (14, false), .mov 15 (.t 1)⟩,
   ⟨some (14, false), .mov 16 (.t 0)⟩,
   ⟨some (14, false), .len 17 (.t 16)⟩,
   ⟨some (14, false), .bin 18 .sub (.t 17) (.k (.int .i64 1))⟩,
   ⟨some (14, false), .bin 19 .geq (.t 15) (.t 18)⟩,
   ⟨none, .pick 20 (.t 14) (.k (.bool true)) (.t 19)⟩,
   ⟨none, .mov 21 (.t 20)⟩,
   ⟨some (21, false), .mov 22 (.t 0)⟩,
   ⟨some (21, false), .mov 23 (.t 1)⟩,
   ⟨some (21, false), .idx 24 7 (.t 22) (.t 23)⟩,
   ⟨some (21, false), .mov 27 (.t 0)⟩,
   ⟨some (21, false), .mov 28 (.t 1)⟩,
   ⟨some (21, false), .bin 29 .add (.t 28) (.k (.int .i64 1))⟩,
   ⟨some (21, false), .idx 30 7 (.t 27) (.t 29)⟩,
   ⟨some (21, false), .fad 25 24 2⟩,
   ⟨some (21, false), .load 26 25 1 false⟩,
   ⟨some (21, false), .fad 31 30 2⟩,
   ⟨some (21, false), .load 32 31 1 false⟩,
   ⟨some (21, false), .bin 33 .neq (.t 26) (.t 32)⟩,
   ⟨none, .pick 34 (.t 21) (.k (.bool true)) (.t 33)⟩])
  (.cond (.t 34)
  (.seq (.reg [⟨none, .mov 4 (.k (.nil))⟩,
    ⟨none, .mov 5 (.k (.bool false))⟩])
   (.ret))
  (.skip)))
 (.seq (.reg [⟨none, .lit 35 7 0 [.int .u64 0, .int .u64 0, .int .i64 0] []⟩,
  ⟨none, .mov 36 (.t 0)⟩,
  ⟨none, .app 37 7 24 (.t 35) (.t 36)⟩,
  ⟨none, .mov 6 (.t 37)⟩])
 (.seq (.reg [⟨none, .mov 38 (.t 6)⟩,
  ⟨none, .mov 39 (.t 1)⟩,
  ⟨none, .mov 40 (.t 0)⟩,
  ⟨none, .mov 41 (.t 1)⟩,
  ⟨none, .bin 42 .add (.t 41) (.k (.int .i64 1))⟩,
  ⟨none, .idx 43 7 (.t 40) (.t 42)⟩,
  ⟨none, .fad 44 43 1⟩,
  ⟨none, .load 45 44 1 false⟩,
  ⟨none, .idx 46 7 (.t 38) (.t 39)⟩,
  ⟨none, .fad 47 46 1⟩,
  ⟨none, .store 47 1 (.t 45)⟩])
 (.seq (.reg [⟨none, .mov 48 (.t 6)⟩,
  ⟨none, .mov 49 (.t 1)⟩,
  ⟨none, .bin 50 .add (.t 49) (.k (.int .i64 1))⟩,
  ⟨none, .mov 51 (.t 1)⟩,
  ⟨none, .bin 52 .add (.t 51) (.k (.int .i64 2))⟩,
  ⟨none, .call (some 53) 270 [(.t 48), (.t 50), (.t 52)] false⟩,
  ⟨none, .mov 4 (.t 53)⟩,
  ⟨none, .mov 5 (.k (.bool true))⟩])
 (.ret)))))⟩
/-- The functions of this text, with their numbers. -/
def tI11 : List (Nat × RF) := [(7, r7), (107, r107), (124, r124), (125, r125), (255, r255), (256, r256)]
end Go.Proofs.Ytlbagejkjkfkjaa.A
/- The compact code of some functions: impl.RouteOf, impl.MovedBetween, impl.isChart, impl.copyChart, impl.DoMap, impl.PlayMap, impl.ChartOk, impl.doMap, impl.doMap$1. -/
namespace Go.Proofs.Ytlbagejkjkfkjaa.A
open Go
/-- impl.RouteOf -/
def r70 : RF :=
 ⟨2, [.tmp 4, .tmp 5],
 .seq (.reg [⟨none, .locb 2 (.t 0)⟩,
  ⟨none, .mov 4 (.k (.int .i64 0))⟩,
  ⟨none, .mov 5 (.k (.int .i64 0))⟩])
 (.seq (.seq (.reg [⟨none, .load 6 2 5 true⟩,
   ⟨none, .call (some 7) 106 [(.t 6)] false⟩,
   ⟨none, .not 8 (.t 7)⟩])
  (.cond (.t 8)
  (.seq (.reg [⟨none, .mov 4 (.k (.int .i64 (-1)))⟩,
    ⟨none, .mov 5 (.k (.int .i64 (-1)))⟩])
   (.ret))
  (.skip)))
 (.seq (.reg [⟨none, .chk []⟩,
  ⟨none, .mov 13 (.t 1)⟩,
  ⟨none, .fad 9 2 1⟩,
  ⟨none, .load 10 9 1 false⟩,
  ⟨none, .fad 11 2 1⟩,
  ⟨none, .load 12 11 1 false⟩,
  ⟨none, .fad 18 2 0⟩,
  ⟨none, .load 19 18 1 false⟩,
  ⟨none, .call (some 14) 107 [(.t 12), (.t 13)] true⟩,
  ⟨none, .idx 15 7 (.t 10) (.t 14)⟩,
  ⟨none, .fad 16 15 2⟩,
  ⟨none, .load 17 16 1 false⟩,
  ⟨none, .mov 4 (.t 17)⟩,
  ⟨none, .mov 5 (.t 19)⟩])
 (.ret)))⟩
/-- impl.MovedBetween -/
def r74 : RF :=
 ⟨3, [.tmp 6],
 .seq (.reg [⟨none, .locb 3 (.t 0)⟩,
  ⟨none, .locb 4 (.t 1)⟩,
  ⟨none, .mov 6 (.k (.bool false))⟩])
 (.seq (.reg [⟨none, .chk []⟩,
  ⟨none, .load 7 3 5 true⟩,
  ⟨none, .call (some 8) 106 [(.t 7)] true⟩,
  ⟨none, .mov 9 (.t 8)⟩,
  ⟨some (9, true), .load 10 4 5 true⟩,
  ⟨some (9, true), .call (some 11) 106 [(.t 10)] true⟩,
  ⟨none, .pick 12 (.t 9) (.t 11) (.k (.bool false))⟩,
  ⟨none, .mov 13 (.t 12)⟩,
  ⟨some (13, true), .mov 18 (.t 2)⟩,
  ⟨some (13, true), .mov 27 (.t 2)⟩,
  ⟨some (13, true), .fad 14 3 1⟩,
  ⟨some (13, true), .load 15 14 1 false⟩,
  ⟨some (13, true), .fad 16 3 1⟩,
  ⟨some (13, true), .load 17 16 1 false⟩,
  ⟨some (13, true), .fad 23 4 1⟩,
  ⟨some (13, true), .load 24 23 1 false⟩,
  ⟨some (13, true), .fad 25 4 1⟩,
  ⟨some (13, true), .load 26 25 1 false⟩,
  ⟨some (13, true), .call (some 19) 107 [(.t 17), (.t 18)] true⟩,
  ⟨some (13, true), .idx 20 7 (.t 15) (.t 19)⟩,
  ⟨some (13, true), .fad 21 20 2⟩,
  ⟨some (13, true), .load 22 21 1 false⟩,
  ⟨some (13, true), .call (some 28) 107 [(.t 26), (.t 27)] true⟩,
  ⟨some (13, true), .idx 29 7 (.t 24) (.t 28)⟩,
  ⟨some (13, true), .fad 30 29 2⟩,
  ⟨some (13, true), .load 31 30 1 false⟩,
  ⟨some (13, true), .bin 32 .neq (.t 22) (.t 31)⟩,
  ⟨none, .pick 33 (.t 13) (.t 32) (.k (.bool false))⟩,
  ⟨none, .mov 6 (.t 33)⟩])
 (.ret))⟩
/-- impl.isChart -/
def r106 : RF :=
 ⟨1, [.tmp 2],
 .seq (.reg [⟨none, .locb 1 (.t 0)⟩,
  ⟨none, .mov 2 (.k (.bool false))⟩])
 (.seq (.seq (.reg [⟨none, .fad 4 1 0⟩,
   ⟨none, .load 5 4 1 false⟩,
   ⟨none, .bin 6 .lss (.t 5) (.k (.int .i64 1))⟩,
   ⟨none, .mov 7 (.t 6)⟩,
   ⟨some (7, false), .fad 8 1 0⟩,
   ⟨some (7, false), .load 9 8 1 false⟩,
   ⟨some (7, false), .bin 10 .gtr (.t 9) (.k (.int .i64 1000000))⟩,
   ⟨none, .pick 11 (.t 7) (.k (.bool true)) (.t 10)⟩,
   ⟨none, .mov 12 (.t 11)⟩,
   ⟨some (12, false), .fad 13 1 1⟩,
   ⟨some (12, false), .load 14 13 1 false⟩,
   ⟨some (12, false), .call (some 15) 124 [(.t 14)] false⟩,
   ⟨some (12, false), .not 16 (.t 15)⟩,
   ⟨none, .pick 17 (.t 12) (.k (.bool true)) (.t 16)⟩])
  (.cond (.t 17)
  (.seq (.reg [⟨none, .mov 2 (.k (.bool false))⟩])
   (.ret))
  (.skip)))
 (.seq (.seq (.reg [⟨none, .fad 18 1 2⟩,
   ⟨none, .load 19 18 1 false⟩,
   ⟨none, .not 20 (.t 19)⟩])
  (.cond (.t 20)
  (.seq (.reg [⟨none, .fad 21 1 3⟩,
    ⟨none, .load 22 21 1 false⟩,
    ⟨none, .bin 23 .eql (.t 22) (.k (.int .u64 0))⟩,
    ⟨none, .mov 24 (.t 23)⟩,
    ⟨some (24, true), .fad 25 1 4⟩,
    ⟨some (24, true), .load 26 25 1 false⟩,
    ⟨some (24, true), .bin 27 .eql (.t 26) (.k (.int .i64 0))⟩,
    ⟨none, .pick 28 (.t 24) (.t 27) (.k (.bool false))⟩,
    ⟨none, .mov 2 (.t 28)⟩])
   (.ret))
  (.skip)))
 (.seq (.reg [⟨none, .chk [3]⟩,
  ⟨none, .loc 3 [.int .u64 0, .int .u64 0, .int .i64 0]⟩,
  ⟨none, .fad 29 1 1⟩,
  ⟨none, .load 30 29 1 false⟩,
  ⟨none, .fad 31 1 1⟩,
  ⟨none, .load 32 31 1 false⟩,
  ⟨none, .fad 33 1 3⟩,
  ⟨none, .load 34 33 1 false⟩,
  ⟨none, .call (some 35) 107 [(.t 32), (.t 34)] true⟩,
  ⟨none, .idx 36 7 (.t 30) (.t 35)⟩,
  ⟨none, .load 37 36 3 true⟩,
  ⟨none, .store 3 3 (.t 37)⟩])
 (.seq (.reg [⟨none, .fad 38 3 0⟩,
  ⟨none, .load 39 38 1 false⟩,
  ⟨none, .fad 40 1 3⟩,
  ⟨none, .load 41 40 1 false⟩,
  ⟨none, .bin 42 .eql (.t 39) (.t 41)⟩,
  ⟨none, .mov 43 (.t 42)⟩,
  ⟨some (43, true), .fad 44 1 4⟩,
  ⟨some (43, true), .load 45 44 1 false⟩,
  ⟨some (43, true), .call (some 46) 7 [(.t 45)] false⟩,
  ⟨none, .pick 47 (.t 43) (.t 46) (.k (.bool false))⟩,
  ⟨none, .mov 48 (.t 47)⟩,
  ⟨some (48, true), .fad 49 1 4⟩,
  ⟨some (48, true), .load 50 49 1 false⟩,
  ⟨some (48, true), .fad 51 3 2⟩,
  ⟨some (48, true), .load 52 51 1 false⟩,
  ⟨some (48, true), .bin 53 .neq (.t 50) (.t 52)⟩,
  ⟨none, .pick 54 (.t 48) (.t 53) (.k (.bool false))⟩,
  ⟨none, .mov 2 (.t 54)⟩])
 (.ret)))))⟩
/-- impl.copyChart -/
def r116 : RF :=
 ⟨1, [.cell 2 5 true],
 .seq (.reg [⟨none, .locb 1 (.t 0)⟩,
  ⟨none, .loc 2 [.int .i64 0, .nil, .bool false, .int .u64 0, .int .i64 0]⟩])
 (.seq (.reg [⟨none, .lit 3 7 0 [.int .u64 0, .int .u64 0, .int .i64 0] []⟩,
  ⟨none, .fad 4 1 1⟩,
  ⟨none, .load 5 4 1 false⟩,
  ⟨none, .app 6 7 24 (.t 3) (.t 5)⟩,
  ⟨none, .fad 7 1 1⟩,
  ⟨none, .store 7 1 (.t 6)⟩])
 (.seq (.reg [⟨none, .load 8 1 5 true⟩,
  ⟨none, .store 2 5 (.t 8)⟩])
 (.ret)))⟩
/-- impl.DoMap -/
def r181 : RF :=
 ⟨2, [.cell 4 5 true, .tmp 5],
 .seq (.reg [⟨none, .locb 2 (.t 0)⟩,
  ⟨none, .locb 3 (.t 1)⟩,
  ⟨none, .loc 4 [.int .i64 0, .nil, .bool false, .int .u64 0, .int .i64 0]⟩,
  ⟨none, .mov 5 (.k (.int .i64 0))⟩])
 (.seq (.reg [⟨none, .load 6 2 5 true⟩,
  ⟨none, .load 7 3 3 true⟩,
  ⟨none, .call (some 8) 224 [(.t 6), (.t 7)] false⟩,
  ⟨none, .ext 9 (.t 8) 0⟩,
  ⟨none, .ext 10 (.t 8) 1⟩,
  ⟨none, .store 4 5 (.t 9)⟩,
  ⟨none, .mov 5 (.t 10)⟩])
 (.ret))⟩
/-- A loop of impl.PlayMap. -/
def r184L0 : RC :=
 .seq (.reg [⟨none, .bin 27 .lss (.t 26) (.t 25)⟩])
    (.seq (.cond (.t 27)
     (.skip)
     (.exit 0))
    (.seq (.block 1 (.seq (.reg [⟨none, .idx 28 14 (.t 24) (.t 26)⟩,
       ⟨none, .load 29 28 3 true⟩,
       ⟨none, .loc 9 [.int .i64 0, .int .u64 0, .int .i64 0]⟩,
       ⟨none, .store 9 3 (.t 29)⟩])
      (.seq (.reg [⟨none, .load 31 6 5 true⟩,
       ⟨none, .load 32 9 3 true⟩,
       ⟨none, .call (some 33) 224 [(.t 31), (.t 32)] false⟩,
       ⟨none, .mov 30 (.t 33)⟩,
       ⟨none, .ext 34 (.t 30) 0⟩,
       ⟨none, .ext 35 (.t 30) 1⟩,
       ⟨none, .loc 10 [.int .i64 0, .nil, .bool false, .int .u64 0, .int .i64 0]⟩,
       ⟨none, .store 10 5 (.t 34)⟩,
       ⟨none, .mov 11 (.t 35)⟩])
      (.seq (.reg [⟨none, .load 36 10 5 true⟩,
       ⟨none, .store 6 5 (.t 36)⟩])
      (.reg [⟨none, .mov 37 (.t 7)⟩,
      ⟨none, .mov 38 (.t 11)⟩,
      ⟨none, .lit 39 15 1 [.int .i64 0] [(0, (.t 38))]⟩,
      ⟨none, .app 40 15 8 (.t 37) (.t 39)⟩,
      ⟨none, .mov 7 (.t 40)⟩])))))
    (.reg [⟨none, .bin 41 .add (.t 26) (.k (.int .i64 1))⟩,
    ⟨none, .mov 26 (.t 41)⟩])))
/-- impl.PlayMap -/
def r184 : RF :=
 ⟨2, [.cell 4 5 true, .tmp 5],
 .seq (.reg [⟨none, .locb 2 (.t 0)⟩,
  ⟨none, .loc 4 [.int .i64 0, .nil, .bool false, .int .u64 0, .int .i64 0]⟩,
  ⟨none, .mov 5 (.k (.nil))⟩])
 (.seq (.reg [⟨none, .load 12 2 5 true⟩,
  ⟨none, .call (some 13) 116 [(.t 12)] false⟩,
  ⟨none, .loc 6 [.int .i64 0, .nil, .bool false, .int .u64 0, .int .i64 0]⟩,
  ⟨none, .store 6 5 (.t 13)⟩])
 (.seq (.seq (.reg [⟨none, .load 14 2 5 true⟩,
   ⟨none, .call (some 15) 106 [(.t 14)] false⟩,
   ⟨none, .not 16 (.t 15)⟩,
   ⟨none, .mov 17 (.t 16)⟩,
   ⟨some (17, false), .mov 18 (.t 1)⟩,
   ⟨some (17, false), .len 19 (.t 18)⟩,
   ⟨some (17, false), .bin 20 .gtr (.t 19) (.k (.int .i64 200))⟩,
   ⟨none, .pick 21 (.t 17) (.k (.bool true)) (.t 20)⟩])
  (.cond (.t 21)
  (.seq (.reg [⟨none, .load 22 6 5 true⟩,
    ⟨none, .store 4 5 (.t 22)⟩,
    ⟨none, .mov 5 (.k (.nil))⟩])
   (.ret))
  (.skip)))
 (.seq (.reg [⟨none, .lit 23 15 0 [.int .i64 0] []⟩,
  ⟨none, .mov 7 (.t 23)⟩])
 (.seq (.seq (.reg [⟨none, .mov 24 (.t 1)⟩,
   ⟨none, .len 25 (.t 24)⟩,
   ⟨none, .mov 26 (.k (.int .i64 0))⟩])
  (.block 0 (.loop [4, 6, 7, 24, 25, 26]
   r184L0)))
 (.seq (.reg [⟨none, .load 42 6 5 true⟩,
  ⟨none, .mov 43 (.t 7)⟩,
  ⟨none, .store 4 5 (.t 42)⟩,
  ⟨none, .mov 5 (.t 43)⟩])
 (.ret))))))⟩
/-- impl.ChartOk -/
def r185 : RF :=
 ⟨1, [.tmp 2],
 .seq (.reg [⟨none, .locb 1 (.t 0)⟩,
  ⟨none, .mov 2 (.k (.bool false))⟩])
 (.seq (.reg [⟨none, .load 3 1 5 true⟩,
  ⟨none, .call (some 4) 106 [(.t 3)] false⟩,
  ⟨none, .mov 2 (.t 4)⟩])
 (.ret))⟩
/-- impl.doMap -/
def r224 : RF :=
 ⟨2, [.cell 4 5 true, .tmp 5],
 .seq (.reg [⟨none, .newb 2 (.t 0)⟩,
  ⟨none, .locb 3 (.t 1)⟩,
  ⟨none, .loc 4 [.int .i64 0, .nil, .bool false, .int .u64 0, .int .i64 0]⟩,
  ⟨none, .mov 5 (.k (.int .i64 0))⟩])
 (.seq (.reg [⟨none, .load 11 2 5 true⟩,
  ⟨none, .call (some 12) 116 [(.t 11)] false⟩,
  ⟨none, .loc 6 [.int .i64 0, .nil, .bool false, .int .u64 0, .int .i64 0]⟩,
  ⟨none, .store 6 5 (.t 12)⟩])
 (.seq (.seq (.reg [⟨none, .load 13 2 5 true⟩,
   ⟨none, .call (some 14) 106 [(.t 13)] false⟩,
   ⟨none, .not 15 (.t 14)⟩,
   ⟨none, .mov 16 (.t 15)⟩,
   ⟨some (16, false), .fad 17 3 0⟩,
   ⟨some (16, false), .load 18 17 1 false⟩,
   ⟨some (16, false), .bin 19 .lss (.t 18) (.k (.int .i64 0))⟩,
   ⟨none, .pick 20 (.t 16) (.k (.bool true)) (.t 19)⟩,
   ⟨none, .mov 21 (.t 20)⟩,
   ⟨some (21, false), .fad 22 3 0⟩,
   ⟨some (21, false), .load 23 22 1 false⟩,
   ⟨some (21, false), .bin 24 .gtr (.t 23) (.k (.int .i64 4))⟩,
   ⟨none, .pick 25 (.t 21) (.k (.bool true)) (.t 24)⟩,
   ⟨none, .mov 26 (.t 25)⟩,
   ⟨some (26, false), .fad 27 2 0⟩,
   ⟨some (26, false), .load 28 27 1 false⟩,
   ⟨some (26, false), .bin 29 .eql (.t 28) (.k (.int .i64 1000000))⟩,
   ⟨none, .pick 30 (.t 26) (.k (.bool true)) (.t 29)⟩])
  (.cond (.t 30)
  (.seq (.reg [⟨none, .load 31 6 5 true⟩,
    ⟨none, .store 4 5 (.t 31)⟩,
    ⟨none, .mov 5 (.k (.int .i64 1))⟩])
   (.ret))
  (.skip)))
 (.seq (.reg [⟨none, .fad 32 2 1⟩,
  ⟨none, .load 33 32 1 false⟩,
  ⟨none, .fad 34 3 1⟩,
  ⟨none, .load 35 34 1 false⟩,
  ⟨none, .call (some 36) 107 [(.t 33), (.t 35)] false⟩,
  ⟨none, .mov 7 (.t 36)⟩])
 (.seq (.reg [⟨none, .fad 37 2 1⟩,
  ⟨none, .load 38 37 1 false⟩,
  ⟨none, .mov 39 (.t 7)⟩,
  ⟨none, .idx 40 7 (.t 38) (.t 39)⟩,
  ⟨none, .load 41 40 3 true⟩,
  ⟨none, .loc 8 [.int .u64 0, .int .u64 0, .int .i64 0]⟩,
  ⟨none, .store 8 3 (.t 41)⟩])
 (.seq (.reg [⟨none, .mkf 42 254 [2]⟩,
  ⟨none, .mov 9 (.t 42)⟩])
 (.seq (.reg [⟨none, .mov 10 (.k (.bool true))⟩])
 (.seq (.seq (.reg [⟨none, .fad 43 3 0⟩,
   ⟨none, .load 44 43 1 false⟩])
  (.block 0 (.seq (.reg [⟨none, .bin 46 .eql (.t 44) (.k (.int .i64 0))⟩,
    ⟨none, .mov 45 (.t 46)⟩])
   (.cond (.t 45)
   (.seq (.seq (.reg [⟨none, .mov 47 (.t 9)⟩,
      ⟨none, .load 48 8 3 true⟩,
      ⟨none, .calv (some 49) (.t 47) [(.t 48)] false⟩])
     (.cond (.t 49)
     (.seq (.reg [⟨none, .load 50 6 5 true⟩,
       ⟨none, .store 4 5 (.t 50)⟩,
       ⟨none, .mov 5 (.k (.int .i64 2))⟩])
      (.ret))
     (.skip)))
    (.reg [⟨none, .fad 52 2 1⟩,
    ⟨none, .load 53 52 1 false⟩,
    ⟨none, .fad 54 3 1⟩,
    ⟨none, .load 55 54 1 false⟩,
    ⟨none, .fad 56 8 2⟩,
    ⟨none, .load 57 56 1 false⟩,
    ⟨none, .call (some 58) 255 [(.t 53), (.t 55), (.t 57)] false⟩,
    ⟨none, .mov 51 (.t 58)⟩,
    ⟨none, .ext 59 (.t 51) 0⟩,
    ⟨none, .ext 60 (.t 51) 1⟩,
    ⟨none, .fad 61 6 1⟩,
    ⟨none, .store 61 1 (.t 59)⟩,
    ⟨none, .mov 10 (.t 60)⟩]))
   (.seq (.reg [⟨none, .bin 63 .eql (.t 44) (.k (.int .i64 1))⟩,
     ⟨none, .mov 62 (.t 63)⟩])
    (.cond (.t 62)
    (.seq (.seq (.reg [⟨none, .fad 64 8 0⟩,
       ⟨none, .load 65 64 1 false⟩,
       ⟨none, .fad 66 3 1⟩,
       ⟨none, .load 67 66 1 false⟩,
       ⟨none, .bin 68 .neq (.t 65) (.t 67)⟩,
       ⟨none, .mov 69 (.t 68)⟩,
       ⟨some (69, false), .fad 70 3 1⟩,
       ⟨some (69, false), .load 71 70 1 false⟩,
       ⟨some (69, false), .bin 72 .eql (.t 71) (.k (.int .u64 0))⟩,
       ⟨none, .pick 73 (.t 69) (.k (.bool true)) (.t 72)⟩])
      (.cond (.t 73)
      (.seq (.reg [⟨none, .load 74 6 5 true⟩,
        ⟨none, .store 4 5 (.t 74)⟩,
        ⟨none, .mov 5 (.k (.int .i64 4))⟩])
       (.ret))
      (.skip)))
     (.seq (.seq (.reg [⟨none, .mov 75 (.t 9)⟩,
       ⟨none, .load 76 8 3 true⟩,
       ⟨none, .calv (some 77) (.t 75) [(.t 76)] false⟩,
       ⟨none, .mov 78 (.t 77)⟩,
       ⟨some (78, false), .mov 79 (.t 9)⟩,
       ⟨some (78, false), .fad 80 2 1⟩,
       ⟨some (78, false), .load 81 80 1 false⟩,
       ⟨some (78, false), .mov 82 (.t 7)⟩,
       ⟨some (78, false), .bin 83 .sub (.t 82) (.k (.int .i64 1))⟩,
       ⟨some (78, false), .idx 84 7 (.t 81) (.t 83)⟩,
       ⟨some (78, false), .load 85 84 3 true⟩,
       ⟨some (78, false), .calv (some 86) (.t 79) [(.t 85)] false⟩,
       ⟨none, .pick 87 (.t 78) (.k (.bool true)) (.t 86)⟩])
      (.cond (.t 87)
      (.seq (.reg [⟨none, .load 88 6 5 true⟩,
        ⟨none, .store 4 5 (.t 88)⟩,
        ⟨none, .mov 5 (.k (.int .i64 2))⟩])
       (.ret))
      (.skip)))
     (.reg [⟨none, .fad 90 2 1⟩,
     ⟨none, .load 91 90 1 false⟩,
     ⟨none, .mov 92 (.t 7)⟩,
     ⟨none, .bin 93 .sub (.t 92) (.k (.int .i64 1))⟩,
     ⟨none, .call (some 94) 256 [(.t 91), (.t 93)] false⟩,
     ⟨none, .mov 89 (.t 94)⟩,
     ⟨none, .ext 95 (.t 89) 0⟩,
     ⟨none, .ext 96 (.t 89) 1⟩,
     ⟨none, .fad 97 6 1⟩,
     ⟨none, .store 97 1 (.t 95)⟩,
     ⟨none, .mov 10 (.t 96)⟩])))
    (.seq (.reg [⟨none, .bin 99 .eql (.t 44) (.k (.int .i64 2))⟩,
      ⟨none, .mov 98 (.t 99)⟩])
     (.cond (.t 98)
     (.seq (.seq (.reg [⟨none, .fad 100 2 2⟩,
        ⟨none, .load 101 100 1 false⟩])
       (.cond (.t 101)
       (.seq (.reg [⟨none, .load 102 6 5 true⟩,
         ⟨none, .store 4 5 (.t 102)⟩,
         ⟨none, .mov 5 (.k (.int .i64 2))⟩])
        (.ret))
       (.skip)))
      (.seq (.reg [⟨none, .fad 103 3 2⟩,
       ⟨none, .load 104 103 1 false⟩,
       ⟨none, .call (some 105) 7 [(.t 104)] false⟩,
       ⟨none, .mov 106 (.t 105)⟩,
       ⟨some (106, true), .fad 107 3 2⟩,
       ⟨some (106, true), .load 108 107 1 false⟩,
       ⟨some (106, true), .fad 109 8 2⟩,
       ⟨some (106, true), .load 110 109 1 false⟩,
       ⟨some (106, true), .bin 111 .neq (.t 108) (.t 110)⟩,
       ⟨none, .pick 112 (.t 106) (.t 111) (.k (.bool false))⟩,
       ⟨none, .mov 10 (.t 112)⟩])
      (.seq (.reg [⟨none, .fad 113 6 2⟩,
       ⟨none, .store 113 1 (.k (.bool true))⟩])
      (.seq (.reg [⟨none, .fad 114 8 0⟩,
       ⟨none, .load 115 114 1 false⟩,
       ⟨none, .fad 116 6 3⟩,
       ⟨none, .store 116 1 (.t 115)⟩])
      (.reg [⟨none, .fad 117 3 2⟩,
      ⟨none, .load 118 117 1 false⟩,
      ⟨none, .fad 119 6 4⟩,
      ⟨none, .store 119 1 (.t 118)⟩])))))
     (.seq (.seq (.reg [⟨none, .bin 121 .eql (.t 44) (.k (.int .i64 3))⟩,
        ⟨none, .mov 120 (.t 121)⟩])
       (.cond (.t 120)
       (.skip)
       (.reg [⟨none, .bin 122 .eql (.t 44) (.k (.int .i64 4))⟩,
        ⟨none, .mov 120 (.t 122)⟩])))
      (.cond (.t 120)
      (.seq (.seq (.reg [⟨none, .fad 123 2 2⟩,
         ⟨none, .load 124 123 1 false⟩,
         ⟨none, .not 125 (.t 124)⟩])
        (.cond (.t 125)
        (.seq (.reg [⟨none, .load 126 6 5 true⟩,
          ⟨none, .store 4 5 (.t 126)⟩,
          ⟨none, .mov 5 (.k (.int .i64 3))⟩])
         (.ret))
        (.skip)))
       (.seq (.seq (.reg [⟨none, .fad 127 3 0⟩,
         ⟨none, .load 128 127 1 false⟩,
         ⟨none, .bin 129 .eql (.t 128) (.k (.int .i64 3))⟩])
        (.cond (.t 129)
        (.reg [⟨none, .chk []⟩,
         ⟨none, .fad 130 6 1⟩,
         ⟨none, .load 131 130 1 false⟩,
         ⟨none, .fad 132 2 1⟩,
         ⟨none, .load 133 132 1 false⟩,
         ⟨none, .fad 134 2 3⟩,
         ⟨none, .load 135 134 1 false⟩,
         ⟨none, .fad 137 2 4⟩,
         ⟨none, .load 138 137 1 false⟩,
         ⟨none, .call (some 136) 107 [(.t 133), (.t 135)] true⟩,
         ⟨none, .idx 139 7 (.t 131) (.t 136)⟩,
         ⟨none, .fad 140 139 2⟩,
         ⟨none, .store 140 1 (.t 138)⟩])
        (.skip)))
       (.seq (.reg [⟨none, .fad 141 6 2⟩,
        ⟨none, .store 141 1 (.k (.bool false))⟩])
       (.seq (.reg [⟨none, .fad 142 6 3⟩,
        ⟨none, .store 142 1 (.k (.int .u64 0))⟩])
       (.reg [⟨none, .fad 143 6 4⟩,
       ⟨none, .store 143 1 (.k (.int .i64 0))⟩])))))
      (.skip)))))))))))
 (.seq (.seq (.reg [⟨none, .mov 144 (.t 10)⟩,
   ⟨none, .not 145 (.t 144)⟩])
  (.cond (.t 145)
  (.seq (.reg [⟨none, .load 146 2 5 true⟩,
    ⟨none, .call (some 147) 116 [(.t 146)] false⟩,
    ⟨none, .store 4 5 (.t 147)⟩,
    ⟨none, .mov 5 (.k (.int .i64 4))⟩])
   (.ret))
  (.skip)))
 (.seq (.reg [⟨none, .fad 148 6 0⟩,
  ⟨none, .load 149 148 1 false⟩,
  ⟨none, .bin 150 .add (.t 149) (.k (.int .i64 1))⟩,
  ⟨none, .fad 151 6 0⟩,
  ⟨none, .store 151 1 (.t 150)⟩])
 (.seq (.reg [⟨none, .load 152 6 5 true⟩,
  ⟨none, .store 4 5 (.t 152)⟩,
  ⟨none, .mov 5 (.k (.int .i64 0))⟩])
 (.ret)))))))))))⟩
/-- impl.doMap$1 -/
def r254 : RF :=
 ⟨2, [.tmp 3],
 .seq (.reg [⟨none, .locb 2 (.t 0)⟩,
  ⟨none, .mov 3 (.k (.bool false))⟩])
 (.seq (.reg [⟨none, .fad 4 1 2⟩,
  ⟨none, .load 5 4 1 false⟩,
  ⟨none, .mov 6 (.t 5)⟩,
  ⟨some (6, true), .fad 7 2 0⟩,
  ⟨some (6, true), .load 8 7 1 false⟩,
  ⟨some (6, true), .fad 9 1 3⟩,
  ⟨some (6, true), .load 10 9 1 false⟩,
  ⟨some (6, true), .bin 11 .eql (.t 8) (.t 10)⟩,
  ⟨none, .pick 12 (.t 6) (.t 11) (.k (.bool false))⟩,
  ⟨none, .mov 3 (.t 12)⟩])
 (.ret))⟩
/-- The functions of this text, with their numbers. -/
def tI12 : List (Nat × RF) := [(70, r70), (74, r74), (106, r106), (116, r116), (181, r181), (184, r184), (185, r185), (224, r224), (254, r254)]
end Go.Proofs.Ytlbagejkjkfkjaa.A
/- The compact code of some functions: impl.ClientOk, impl.ClientWhere, impl.NewClient, impl.isClient, impl.ClientStop, impl.ClientAgain, impl.ClientAsk, impl.ClientHear, impl.copyClient, (*impl.Client).stop, (impl.Client).message. -/
namespace Go.Proofs.Ytlbagejkjkfkjaa.A
open Go
/-- impl.ClientOk -/
def r79 : RF :=
 ⟨1, [.tmp 2],
 .seq (.reg [⟨none, .locb 1 (.t 0)⟩,
  ⟨none, .mov 2 (.k (.bool false))⟩])
 (.seq (.reg [⟨none, .load 3 1 14 true⟩,
  ⟨none, .call (some 4) 110 [(.t 3)] false⟩,
  ⟨none, .mov 2 (.t 4)⟩])
 (.ret))⟩
/-- impl.ClientWhere -/
def r90 : RF :=
 ⟨2, [.tmp 4],
 .seq (.reg [⟨none, .locb 2 (.t 0)⟩,
  ⟨none, .mov 4 (.k (.int .i64 0))⟩])
 (.seq (.seq (.reg [⟨none, .load 5 2 14 true⟩,
   ⟨none, .call (some 6) 110 [(.t 5)] false⟩,
   ⟨none, .not 7 (.t 6)⟩])
  (.cond (.t 7)
  (.seq (.reg [⟨none, .mov 4 (.k (.int .i64 (-1)))⟩])
   (.ret))
  (.skip)))
 (.seq (.reg [⟨none, .chk []⟩,
  ⟨none, .mov 14 (.t 1)⟩,
  ⟨none, .fad 8 2 2⟩,
  ⟨none, .fad 9 8 1⟩,
  ⟨none, .load 10 9 1 false⟩,
  ⟨none, .fad 11 2 2⟩,
  ⟨none, .fad 12 11 1⟩,
  ⟨none, .load 13 12 1 false⟩,
  ⟨none, .call (some 15) 107 [(.t 13), (.t 14)] true⟩,
  ⟨none, .idx 16 7 (.t 10) (.t 15)⟩,
  ⟨none, .fad 17 16 2⟩,
  ⟨none, .load 18 17 1 false⟩,
  ⟨none, .mov 4 (.t 18)⟩])
 (.ret)))⟩
/-- impl.NewClient -/
def r93 : RF :=
 ⟨2, [.cell 4 14 true],
 .seq (.reg [⟨none, .locb 3 (.t 1)⟩,
  ⟨none, .loc 4 [.int .i64 0, .int .i64 0, .int .i64 0, .nil, .bool false, .int .u64 0, .int .i64 0, .bool false, .int .i64 0, .int .i64 0, .int .i64 0, .int .u64 0, .int .u64 0, .int .i64 0]⟩])
 (.seq (.reg [⟨none, .mov 6 (.t 0)⟩,
  ⟨none, .load 7 3 5 true⟩,
  ⟨none, .call (some 8) 116 [(.t 7)] false⟩,
  ⟨none, .build 9 [.int .i64 0, .int .i64 0, .int .i64 0, .nil, .bool false, .int .u64 0, .int .i64 0, .bool false, .int .i64 0, .int .i64 0, .int .i64 0, .int .u64 0, .int .u64 0, .int .i64 0] [(0, 1, (.t 6)), (2, 5, (.t 8))]⟩,
  ⟨none, .loc 5 [.int .i64 0, .int .i64 0, .int .i64 0, .nil, .bool false, .int .u64 0, .int .i64 0, .bool false, .int .i64 0, .int .i64 0, .int .i64 0, .int .u64 0, .int .u64 0, .int .i64 0]⟩,
  ⟨none, .store 5 14 (.t 9)⟩])
 (.seq (.seq (.reg [⟨none, .load 10 5 14 true⟩,
   ⟨none, .call (some 11) 110 [(.t 10)] false⟩,
   ⟨none, .not 12 (.t 11)⟩])
  (.cond (.t 12)
  (.seq (.reg [⟨none, .build 13 [.int .i64 0, .int .i64 0, .int .i64 0, .nil, .bool false, .int .u64 0, .int .i64 0, .bool false, .int .i64 0, .int .i64 0, .int .i64 0, .int .u64 0, .int .u64 0, .int .i64 0] []⟩,
    ⟨none, .store 4 14 (.t 13)⟩])
   (.ret))
  (.skip)))
 (.seq (.reg [⟨none, .load 14 5 14 true⟩,
  ⟨none, .store 4 14 (.t 14)⟩])
 (.ret))))⟩
/-- impl.isClient -/
def r110 : RF :=
 ⟨1, [.tmp 2],
 .seq (.reg [⟨none, .locb 1 (.t 0)⟩,
  ⟨none, .mov 2 (.k (.bool false))⟩])
 (.seq (.seq (.reg [⟨none, .fad 3 1 0⟩,
   ⟨none, .load 4 3 1 false⟩,
   ⟨none, .bin 5 .lss (.t 4) (.k (.int .i64 1))⟩,
   ⟨none, .mov 6 (.t 5)⟩,
   ⟨some (6, false), .fad 7 1 0⟩,
   ⟨some (6, false), .load 8 7 1 false⟩,
   ⟨some (6, false), .bin 9 .gtr (.t 8) (.k (.int .i64 999))⟩,
   ⟨none, .pick 10 (.t 6) (.k (.bool true)) (.t 9)⟩,
   ⟨none, .mov 11 (.t 10)⟩,
   ⟨some (11, false), .fad 12 1 1⟩,
   ⟨some (11, false), .load 13 12 1 false⟩,
   ⟨some (11, false), .bin 14 .lss (.t 13) (.k (.int .i64 0))⟩,
   ⟨none, .pick 15 (.t 11) (.k (.bool true)) (.t 14)⟩,
   ⟨none, .mov 16 (.t 15)⟩,
   ⟨some (16, false), .fad 17 1 1⟩,
   ⟨some (16, false), .load 18 17 1 false⟩,
   ⟨some (16, false), .bin 19 .gtr (.t 18) (.k (.int .i64 1000000))⟩,
   ⟨none, .pick 20 (.t 16) (.k (.bool true)) (.t 19)⟩,
   ⟨none, .mov 21 (.t 20)⟩,
   ⟨some (21, false), .fad 22 1 2⟩,
   ⟨some (21, false), .load 23 22 5 true⟩,
   ⟨some (21, false), .call (some 24) 106 [(.t 23)] false⟩,
   ⟨some (21, false), .not 25 (.t 24)⟩,
   ⟨none, .pick 26 (.t 21) (.k (.bool true)) (.t 25)⟩])
  (.cond (.t 26)
  (.seq (.reg [⟨none, .mov 2 (.k (.bool false))⟩])
   (.ret))
  (.skip)))
 (.seq (.seq (.reg [⟨none, .fad 27 1 7⟩,
   ⟨none, .load 28 27 1 false⟩,
   ⟨none, .not 29 (.t 28)⟩])
  (.cond (.t 29)
  (.seq (.reg [⟨none, .fad 30 1 8⟩,
    ⟨none, .load 31 30 1 false⟩,
    ⟨none, .bin 32 .eql (.t 31) (.k (.int .i64 0))⟩,
    ⟨none, .mov 33 (.t 32)⟩,
    ⟨some (33, true), .fad 34 1 9⟩,
    ⟨some (33, true), .load 35 34 5 true⟩,
    ⟨some (33, true), .build 36 [.int .i64 0, .int .i64 0, .int .u64 0, .int .u64 0, .int .i64 0] []⟩,
    ⟨some (33, true), .eqs 37 false [.i .i64, .i .i64, .i .u64, .i .u64, .i .i64] (.t 35) (.t 36)⟩,
    ⟨none, .pick 38 (.t 33) (.t 37) (.k (.bool false))⟩,
    ⟨none, .mov 2 (.t 38)⟩])
   (.ret))
  (.skip)))
 (.seq (.reg [⟨none, .fad 39 1 9⟩,
  ⟨none, .fad 40 39 1⟩,
  ⟨none, .load 41 40 1 false⟩,
  ⟨none, .bin 42 .geq (.t 41) (.k (.int .i64 0))⟩,
  ⟨none, .mov 43 (.t 42)⟩,
  ⟨some (43, true), .fad 44 1 9⟩,
  ⟨some (43, true), .fad 45 44 1⟩,
  ⟨some (43, true), .load 46 45 1 false⟩,
  ⟨some (43, true), .bin 47 .leq (.t 46) (.k (.int .i64 8))⟩,
  ⟨none, .pick 48 (.t 43) (.t 47) (.k (.bool false))⟩,
  ⟨none, .mov 49 (.t 48)⟩,
  ⟨some (49, true), .fad 50 1 9⟩,
  ⟨some (49, true), .fad 51 50 0⟩,
  ⟨some (49, true), .load 52 51 1 false⟩,
  ⟨some (49, true), .bin 53 .eql (.t 52) (.k (.int .i64 0))⟩,
  ⟨none, .pick 54 (.t 49) (.t 53) (.k (.bool false))⟩,
  ⟨none, .mov 55 (.t 54)⟩,
  ⟨some (55, true), .fad 56 1 8⟩,
  ⟨some (55, true), .load 57 56 1 false⟩,
  ⟨some (55, true), .bin 58 .geq (.t 57) (.k (.int .i64 1))⟩,
  ⟨none, .pick 59 (.t 55) (.t 58) (.k (.bool false))⟩,
  ⟨none, .mov 60 (.t 59)⟩,
  ⟨some (60, true), .fad 61 1 8⟩,
  ⟨some (60, true), .load 62 61 1 false⟩,
  ⟨some (60, true), .bin 63 .leq (.t 62) (.k (.int .i64 6))⟩,
  ⟨none, .pick 64 (.t 60) (.t 63) (.k (.bool false))⟩,
  ⟨none, .mov 65 (.t 64)⟩,
  ⟨some (65, true), .fad 66 1 1⟩,
  ⟨some (65, true), .load 67 66 1 false⟩,
  ⟨some (65, true), .bin 68 .gtr (.t 67) (.k (.int .i64 0))⟩,
  ⟨none, .pick 69 (.t 65) (.t 68) (.k (.bool false))⟩,
  ⟨none, .mov 2 (.t 69)⟩])
 (.ret))))⟩
/-- impl.ClientStop -/
def r148 : RF :=
 ⟨1, [.cell 2 14 true, .tmp 3],
 .seq (.reg [⟨none, .locb 1 (.t 0)⟩,
  ⟨none, .loc 2 [.int .i64 0, .int .i64 0, .int .i64 0, .nil, .bool false, .int .u64 0, .int .i64 0, .bool false, .int .i64 0, .int .i64 0, .int .i64 0, .int .u64 0, .int .u64 0, .int .i64 0]⟩,
  ⟨none, .mov 3 (.k (.bool false))⟩])
 (.seq (.reg [⟨none, .load 5 1 14 true⟩,
  ⟨none, .call (some 6) 199 [(.t 5)] false⟩,
  ⟨none, .new 4 [.int .i64 0, .int .i64 0, .int .i64 0, .nil, .bool false, .int .u64 0, .int .i64 0, .bool false, .int .i64 0, .int .i64 0, .int .i64 0, .int .u64 0, .int .u64 0, .int .i64 0]⟩,
  ⟨none, .store 4 14 (.t 6)⟩])
 (.seq (.seq (.reg [⟨none, .load 7 1 14 true⟩,
   ⟨none, .call (some 8) 110 [(.t 7)] false⟩,
   ⟨none, .not 9 (.t 8)⟩,
   ⟨none, .mov 10 (.t 9)⟩,
   ⟨some (10, false), .fad 11 1 7⟩,
   ⟨some (10, false), .load 12 11 1 false⟩,
   ⟨some (10, false), .not 13 (.t 12)⟩,
   ⟨none, .pick 14 (.t 10) (.k (.bool true)) (.t 13)⟩])
  (.cond (.t 14)
  (.seq (.reg [⟨none, .load 15 4 14 true⟩,
    ⟨none, .store 2 14 (.t 15)⟩,
    ⟨none, .mov 3 (.k (.bool false))⟩])
   (.ret))
  (.skip)))
 (.seq (.reg [⟨none, .call (some 16) 200 [(.t 4)] false⟩])
 (.seq (.reg [⟨none, .load 17 4 14 true⟩,
  ⟨none, .store 2 14 (.t 17)⟩,
  ⟨none, .mov 3 (.k (.bool true))⟩])
 (.ret)))))⟩
/-- impl.ClientAgain -/
def r151 : RF :=
 ⟨1, [.cell 2 14 true, .cell 3 8 true, .tmp 4],
 .seq (.reg [⟨none, .locb 1 (.t 0)⟩,
  ⟨none, .loc 2 [.int .i64 0, .int .i64 0, .int .i64 0, .nil, .bool false, .int .u64 0, .int .i64 0, .bool false, .int .i64 0, .int .i64 0, .int .i64 0, .int .u64 0, .int .u64 0, .int .i64 0]⟩,
  ⟨none, .loc 3 [.int .i64 0, .int .i64 0, .int .i64 0, .int .i64 0, .int .i64 0, .int .u64 0, .int .u64 0, .int .i64 0]⟩,
  ⟨none, .mov 4 (.k (.bool false))⟩])
 (.seq (.reg [⟨none, .load 6 1 14 true⟩,
  ⟨none, .call (some 7) 199 [(.t 6)] false⟩,
  ⟨none, .loc 5 [.int .i64 0, .int .i64 0, .int .i64 0, .nil, .bool false, .int .u64 0, .int .i64 0, .bool false, .int .i64 0, .int .i64 0, .int .i64 0, .int .u64 0, .int .u64 0, .int .i64 0]⟩,
  ⟨none, .store 5 14 (.t 7)⟩])
 (.seq (.seq (.reg [⟨none, .load 8 1 14 true⟩,
   ⟨none, .call (some 9) 110 [(.t 8)] false⟩,
   ⟨none, .not 10 (.t 9)⟩,
   ⟨none, .mov 11 (.t 10)⟩,
   ⟨some (11, false), .fad 12 1 7⟩,
   ⟨some (11, false), .load 13 12 1 false⟩,
   ⟨some (11, false), .not 14 (.t 13)⟩,
   ⟨none, .pick 15 (.t 11) (.k (.bool true)) (.t 14)⟩,
   ⟨none, .mov 16 (.t 15)⟩,
   ⟨some (16, false), .fad 17 1 8⟩,
   ⟨some (16, false), .load 18 17 1 false⟩,
   ⟨some (16, false), .bin 19 .eql (.t 18) (.k (.int .i64 6))⟩,
   ⟨none, .pick 20 (.t 16) (.k (.bool true)) (.t 19)⟩])
  (.cond (.t 20)
  (.seq (.reg [⟨none, .load 21 5 14 true⟩,
    ⟨none, .build 22 [.int .i64 0, .int .i64 0, .int .i64 0, .int .i64 0, .int .i64 0, .int .u64 0, .int .u64 0, .int .i64 0] []⟩,
    ⟨none, .store 2 14 (.t 21)⟩,
    ⟨none, .store 3 8 (.t 22)⟩,
    ⟨none, .mov 4 (.k (.bool false))⟩])
   (.ret))
  (.skip)))
 (.seq (.reg [⟨none, .fad 23 5 8⟩,
  ⟨none, .load 24 23 1 false⟩,
  ⟨none, .bin 25 .add (.t 24) (.k (.int .i64 1))⟩,
  ⟨none, .fad 26 5 8⟩,
  ⟨none, .store 26 1 (.t 25)⟩])
 (.seq (.reg [⟨none, .chk []⟩,
  ⟨none, .load 27 5 14 true⟩,
  ⟨none, .load 28 5 14 true⟩,
  ⟨none, .call (some 29) 202 [(.t 28)] true⟩,
  ⟨none, .store 2 14 (.t 27)⟩,
  ⟨none, .store 3 8 (.t 29)⟩,
  ⟨none, .mov 4 (.k (.bool true))⟩])
 (.ret)))))⟩
/-- impl.ClientAsk -/
def r161 : RF :=
 ⟨2, [.cell 4 14 true, .cell 5 8 true, .tmp 6],
 .seq (.reg [⟨none, .locb 2 (.t 0)⟩,
  ⟨none, .locb 3 (.t 1)⟩,
  ⟨none, .loc 4 [.int .i64 0, .int .i64 0, .int .i64 0, .nil, .bool false, .int .u64 0, .int .i64 0, .bool false, .int .i64 0, .int .i64 0, .int .i64 0, .int .u64 0, .int .u64 0, .int .i64 0]⟩,
  ⟨none, .loc 5 [.int .i64 0, .int .i64 0, .int .i64 0, .int .i64 0, .int .i64 0, .int .u64 0, .int .u64 0, .int .i64 0]⟩,
  ⟨none, .mov 6 (.k (.bool false))⟩])
 (.seq (.reg [⟨none, .load 8 2 14 true⟩,
  ⟨none, .call (some 9) 199 [(.t 8)] false⟩,
  ⟨none, .loc 7 [.int .i64 0, .int .i64 0, .int .i64 0, .nil, .bool false, .int .u64 0, .int .i64 0, .bool false, .int .i64 0, .int .i64 0, .int .i64 0, .int .u64 0, .int .u64 0, .int .i64 0]⟩,
  ⟨none, .store 7 14 (.t 9)⟩])
 (.seq (.seq (.reg [⟨none, .load 10 2 14 true⟩,
   ⟨none, .call (some 11) 110 [(.t 10)] false⟩,
   ⟨none, .not 12 (.t 11)⟩,
   ⟨none, .mov 13 (.t 12)⟩,
   ⟨some (13, false), .fad 14 2 7⟩,
   ⟨some (13, false), .load 15 14 1 false⟩,
   ⟨none, .pick 16 (.t 13) (.k (.bool true)) (.t 15)⟩,
   ⟨none, .mov 17 (.t 16)⟩,
   ⟨some (17, false), .fad 18 3 1⟩,
   ⟨some (17, false), .load 19 18 1 false⟩,
   ⟨some (17, false), .bin 20 .lss (.t 19) (.k (.int .i64 0))⟩,
   ⟨none, .pick 21 (.t 17) (.k (.bool true)) (.t 20)⟩,
   ⟨none, .mov 22 (.t 21)⟩,
   ⟨some (22, false), .fad 23 3 1⟩,
   ⟨some (22, false), .load 24 23 1 false⟩,
   ⟨some (22, false), .bin 25 .gtr (.t 24) (.k (.int .i64 8))⟩,
   ⟨none, .pick 26 (.t 22) (.k (.bool true)) (.t 25)⟩,
   ⟨none, .mov 27 (.t 26)⟩,
   ⟨some (27, false), .fad 28 2 1⟩,
   ⟨some (27, false), .load 29 28 1 false⟩,
   ⟨some (27, false), .bin 30 .eql (.t 29) (.k (.int .i64 1000000))⟩,
   ⟨none, .pick 31 (.t 27) (.k (.bool true)) (.t 30)⟩])
  (.cond (.t 31)
  (.seq (.reg [⟨none, .load 32 7 14 true⟩,
    ⟨none, .build 33 [.int .i64 0, .int .i64 0, .int .i64 0, .int .i64 0, .int .i64 0, .int .u64 0, .int .u64 0, .int .i64 0] []⟩,
    ⟨none, .store 4 14 (.t 32)⟩,
    ⟨none, .store 5 8 (.t 33)⟩,
    ⟨none, .mov 6 (.k (.bool false))⟩])
   (.ret))
  (.skip)))
 (.seq (.reg [⟨none, .fad 34 3 0⟩,
  ⟨none, .store 34 1 (.k (.int .i64 0))⟩])
 (.seq (.reg [⟨none, .fad 35 7 7⟩,
  ⟨none, .store 35 1 (.k (.bool true))⟩])
 (.seq (.reg [⟨none, .load 36 3 5 true⟩,
  ⟨none, .fad 37 7 9⟩,
  ⟨none, .store 37 5 (.t 36)⟩])
 (.seq (.reg [⟨none, .fad 38 7 1⟩,
  ⟨none, .load 39 38 1 false⟩,
  ⟨none, .bin 40 .add (.t 39) (.k (.int .i64 1))⟩,
  ⟨none, .fad 41 7 1⟩,
  ⟨none, .store 41 1 (.t 40)⟩])
 (.seq (.reg [⟨none, .fad 42 7 8⟩,
  ⟨none, .store 42 1 (.k (.int .i64 1))⟩])
 (.seq (.reg [⟨none, .chk []⟩,
  ⟨none, .load 43 7 14 true⟩,
  ⟨none, .load 44 7 14 true⟩,
  ⟨none, .call (some 45) 202 [(.t 44)] true⟩,
  ⟨none, .store 4 14 (.t 43)⟩,
  ⟨none, .store 5 8 (.t 45)⟩,
  ⟨none, .mov 6 (.k (.bool true))⟩])
 (.ret)))))))))⟩
/-- impl.ClientHear -/
def r176 : RF :=
 ⟨2, [.cell 4 14 true, .tmp 5],
 .seq (.reg [⟨none, .locb 2 (.t 0)⟩,
  ⟨none, .locb 3 (.t 1)⟩,
  ⟨none, .loc 4 [.int .i64 0, .int .i64 0, .int .i64 0, .nil, .bool false, .int .u64 0, .int .i64 0, .bool false, .int .i64 0, .int .i64 0, .int .i64 0, .int .u64 0, .int .u64 0, .int .i64 0]⟩,
  ⟨none, .mov 5 (.k (.int .i64 0))⟩])
 (.seq (.reg [⟨none, .load 7 2 14 true⟩,
  ⟨none, .call (some 8) 199 [(.t 7)] false⟩,
  ⟨none, .new 6 [.int .i64 0, .int .i64 0, .int .i64 0, .nil, .bool false, .int .u64 0, .int .i64 0, .bool false, .int .i64 0, .int .i64 0, .int .i64 0, .int .u64 0, .int .u64 0, .int .i64 0]⟩,
  ⟨none, .store 6 14 (.t 8)⟩])
 (.seq (.seq (.reg [⟨none, .load 9 2 14 true⟩,
   ⟨none, .call (some 10) 110 [(.t 9)] false⟩,
   ⟨none, .not 11 (.t 10)⟩])
  (.cond (.t 11)
  (.seq (.reg [⟨none, .load 12 6 14 true⟩,
    ⟨none, .store 4 14 (.t 12)⟩,
    ⟨none, .mov 5 (.k (.int .i64 (-3)))⟩])
   (.ret))
  (.skip)))
 (.seq (.seq (.reg [⟨none, .fad 13 3 4⟩,
   ⟨none, .load 14 13 5 true⟩,
   ⟨none, .call (some 15) 106 [(.t 14)] false⟩,
   ⟨none, .mov 16 (.t 15)⟩,
   ⟨some (16, true), .fad 17 3 4⟩,
   ⟨some (16, true), .fad 18 17 0⟩,
   ⟨some (16, true), .load 19 18 1 false⟩,
   ⟨some (16, true), .fad 20 2 2⟩,
   ⟨some (16, true), .fad 21 20 0⟩,
   ⟨some (16, true), .load 22 21 1 false⟩,
   ⟨some (16, true), .bin 23 .gtr (.t 19) (.t 22)⟩,
   ⟨none, .pick 24 (.t 16) (.t 23) (.k (.bool false))⟩])
  (.cond (.t 24)
  (.reg [⟨none, .fad 25 3 4⟩,
   ⟨none, .load 26 25 5 true⟩,
   ⟨none, .call (some 27) 116 [(.t 26)] false⟩,
   ⟨none, .fad 28 6 2⟩,
   ⟨none, .store 28 5 (.t 27)⟩])
  (.skip)))
 (.seq (.block 0 (.seq (.reg [⟨none, .fad 30 3 0⟩,
    ⟨none, .load 31 30 1 false⟩,
    ⟨none, .fad 32 2 0⟩,
    ⟨none, .load 33 32 1 false⟩,
    ⟨none, .bin 34 .neq (.t 31) (.t 33)⟩,
    ⟨none, .mov 35 (.t 34)⟩,
    ⟨some (35, false), .fad 36 2 7⟩,
    ⟨some (35, false), .load 37 36 1 false⟩,
    ⟨some (35, false), .not 38 (.t 37)⟩,
    ⟨none, .pick 39 (.t 35) (.k (.bool true)) (.t 38)⟩,
    ⟨none, .mov 40 (.t 39)⟩,
    ⟨some (40, false), .fad 41 3 1⟩,
    ⟨some (40, false), .load 42 41 1 false⟩,
    ⟨some (40, false), .fad 43 2 1⟩,
    ⟨some (40, false), .load 44 43 1 false⟩,
    ⟨some (40, false), .bin 45 .neq (.t 42) (.t 44)⟩,
    ⟨none, .pick 46 (.t 40) (.k (.bool true)) (.t 45)⟩,
    ⟨none, .mov 29 (.t 46)⟩])
   (.cond (.t 29)
   (.seq (.reg [⟨none, .load 47 6 14 true⟩,
     ⟨none, .store 4 14 (.t 47)⟩,
     ⟨none, .mov 5 (.k (.int .i64 (-2)))⟩])
    (.ret))
   (.seq (.reg [⟨none, .fad 49 3 2⟩,
     ⟨none, .load 50 49 1 false⟩,
     ⟨none, .bin 51 .eql (.t 50) (.k (.int .i64 8))⟩,
     ⟨none, .mov 52 (.t 51)⟩,
     ⟨some (52, false), .fad 53 3 2⟩,
     ⟨some (52, false), .load 54 53 1 false⟩,
     ⟨some (52, false), .bin 55 .eql (.t 54) (.k (.int .i64 9))⟩,
     ⟨none, .pick 56 (.t 52) (.k (.bool true)) (.t 55)⟩,
     ⟨none, .mov 57 (.t 56)⟩,
     ⟨some (57, false), .fad 58 3 2⟩,
     ⟨some (57, false), .load 59 58 1 false⟩,
     ⟨some (57, false), .bin 60 .eql (.t 59) (.k (.int .i64 10))⟩,
     ⟨none, .pick 61 (.t 57) (.k (.bool true)) (.t 60)⟩,
     ⟨none, .mov 48 (.t 61)⟩])
    (.cond (.t 48)
    (.seq (.reg [⟨none, .load 62 6 14 true⟩,
      ⟨none, .store 4 14 (.t 62)⟩,
      ⟨none, .mov 5 (.k (.int .i64 (-1)))⟩])
     (.ret))
    (.skip))))))
 (.seq (.reg [⟨none, .call (some 63) 200 [(.t 6)] false⟩])
 (.seq (.seq (.reg [⟨none, .fad 64 3 2⟩,
   ⟨none, .load 65 64 1 false⟩,
   ⟨none, .bin 66 .lss (.t 65) (.k (.int .i64 0))⟩])
  (.cond (.t 66)
  (.seq (.reg [⟨none, .load 67 6 14 true⟩,
    ⟨none, .store 4 14 (.t 67)⟩,
    ⟨none, .mov 5 (.k (.int .i64 11))⟩])
   (.ret))
  (.skip)))
 (.seq (.reg [⟨none, .chk []⟩,
  ⟨none, .own [4]⟩,
  ⟨none, .load 68 6 14 true⟩,
  ⟨none, .fad 69 3 2⟩,
  ⟨none, .load 70 69 1 false⟩,
  ⟨none, .lst 4 14 (.t 68)⟩,
  ⟨none, .mov 5 (.t 70)⟩])
 (.ret))))))))⟩
/-- impl.copyClient -/
def r199 : RF :=
 ⟨1, [.cell 2 14 true],
 .seq (.reg [⟨none, .locb 1 (.t 0)⟩,
  ⟨none, .loc 2 [.int .i64 0, .int .i64 0, .int .i64 0, .nil, .bool false, .int .u64 0, .int .i64 0, .bool false, .int .i64 0, .int .i64 0, .int .i64 0, .int .u64 0, .int .u64 0, .int .i64 0]⟩])
 (.seq (.reg [⟨none, .fad 3 1 2⟩,
  ⟨none, .load 4 3 5 true⟩,
  ⟨none, .call (some 5) 116 [(.t 4)] false⟩,
  ⟨none, .fad 6 1 2⟩,
  ⟨none, .store 6 5 (.t 5)⟩])
 (.seq (.reg [⟨none, .load 7 1 14 true⟩,
  ⟨none, .store 2 14 (.t 7)⟩])
 (.ret)))⟩
/-- (*impl.Client).stop -/
def r200 : RF :=
 ⟨1, [],
 .seq (.reg [⟨none, .mov 2 (.t 0)⟩,
  ⟨none, .nilc 3 (.t 2)⟩,
  ⟨none, .fad 4 3 7⟩,
  ⟨none, .store 4 1 (.k (.bool false))⟩])
 (.seq (.reg [⟨none, .mov 5 (.t 0)⟩,
  ⟨none, .nilc 6 (.t 5)⟩,
  ⟨none, .fad 7 6 8⟩,
  ⟨none, .store 7 1 (.k (.int .i64 0))⟩])
 (.reg [⟨none, .mov 8 (.t 0)⟩,
 ⟨none, .build 9 [.int .i64 0, .int .i64 0, .int .u64 0, .int .u64 0, .int .i64 0] []⟩,
 ⟨none, .nilc 10 (.t 8)⟩,
 ⟨none, .fad 11 10 9⟩,
 ⟨none, .store 11 5 (.t 9)⟩]))⟩
/-- (impl.Client).message -/
def r202 : RF :=
 ⟨1, [.cell 2 8 true],
 .seq (.reg [⟨none, .locb 1 (.t 0)⟩,
  ⟨none, .loc 2 [.int .i64 0, .int .i64 0, .int .i64 0, .int .i64 0, .int .i64 0, .int .u64 0, .int .u64 0, .int .i64 0]⟩])
 (.seq (.reg [⟨none, .fad 4 1 9⟩,
  ⟨none, .load 5 4 5 true⟩,
  ⟨none, .loc 3 [.int .i64 0, .int .i64 0, .int .u64 0, .int .u64 0, .int .i64 0]⟩,
  ⟨none, .store 3 5 (.t 5)⟩])
 (.seq (.reg [⟨none, .fad 6 1 2⟩,
  ⟨none, .fad 7 6 0⟩,
  ⟨none, .load 8 7 1 false⟩,
  ⟨none, .fad 9 3 0⟩,
  ⟨none, .store 9 1 (.t 8)⟩])
 (.seq (.reg [⟨none, .chk []⟩,
  ⟨none, .fad 10 1 0⟩,
  ⟨none, .load 11 10 1 false⟩,
  ⟨none, .fad 12 1 1⟩,
  ⟨none, .load 13 12 1 false⟩,
  ⟨none, .fad 14 1 2⟩,
  ⟨none, .fad 15 14 1⟩,
  ⟨none, .load 16 15 1 false⟩,
  ⟨none, .fad 17 1 2⟩,
  ⟨none, .fad 18 17 1⟩,
  ⟨none, .load 19 18 1 false⟩,
  ⟨none, .fad 20 3 2⟩,
  ⟨none, .load 21 20 1 false⟩,
  ⟨none, .load 26 3 5 true⟩,
  ⟨none, .call (some 22) 107 [(.t 19), (.t 21)] true⟩,
  ⟨none, .idx 23 7 (.t 16) (.t 22)⟩,
  ⟨none, .fad 24 23 2⟩,
  ⟨none, .load 25 24 1 false⟩,
  ⟨none, .build 27 [.int .i64 0, .int .i64 0, .int .i64 0, .int .i64 0, .int .i64 0, .int .u64 0, .int .u64 0, .int .i64 0] [(0, 1, (.t 11)), (1, 1, (.t 13)), (2, 1, (.t 25)), (3, 5, (.t 26))]⟩,
  ⟨none, .store 2 8 (.t 27)⟩])
 (.ret))))⟩
/-- The functions of this text, with their numbers. -/
def tI16 : List (Nat × RF) := [(79, r79), (90, r90), (93, r93), (110, r110), (148, r148), (151, r151), (161, r161), (176, r176), (199, r199), (200, r200), (202, r202)]
end Go.Proofs.Ytlbagejkjkfkjaa.A
/- The compact code of some functions: laws.big, laws.at. -/
namespace Go.Proofs.Ytlbagejkjkfkjaa.A
open Go
/-- laws.big -/
def r144 : RF :=
 ⟨1, [.tmp 2],
 .seq (.reg [⟨none, .mov 2 (.k (.bool false))⟩])
 (.seq (.reg [⟨none, .mov 3 (.t 0)⟩,
  ⟨none, .len 4 (.t 3)⟩,
  ⟨none, .bin 5 .gtr (.t 4) (.k (.int .i64 1048576))⟩,
  ⟨none, .mov 2 (.t 5)⟩])
 (.ret))⟩
/-- laws.at -/
def r177 : RF :=
 ⟨2, [.tmp 4],
 .seq (.reg [⟨none, .mov 4 (.k (.int .i64 0))⟩])
 (.seq (.seq (.reg [⟨none, .mov 5 (.t 1)⟩,
   ⟨none, .mov 6 (.t 0)⟩,
   ⟨none, .len 7 (.t 6)⟩,
   ⟨none, .bin 8 .lss (.t 5) (.t 7)⟩])
  (.cond (.t 8)
  (.seq (.reg [⟨none, .mov 9 (.t 0)⟩,
    ⟨none, .mov 10 (.t 1)⟩,
    ⟨none, .idx 11 19 (.t 9) (.t 10)⟩,
    ⟨none, .load 12 11 1 false⟩,
    ⟨none, .conv 13 .i64 (.t 12)⟩,
    ⟨none, .mov 4 (.t 13)⟩])
   (.ret))
  (.skip)))
 (.seq (.reg [⟨none, .mov 14 (.t 1)⟩,
  ⟨none, .bin 15 .mul (.t 14) (.k (.int .i64 13))⟩,
  ⟨none, .mov 16 (.t 0)⟩,
  ⟨none, .len 17 (.t 16)⟩,
  ⟨none, .bin 18 .mul (.t 17) (.k (.int .i64 5))⟩,
  ⟨none, .bin 19 .add (.t 15) (.t 18)⟩,
  ⟨none, .bin 20 .rem (.t 19) (.k (.int .i64 256))⟩,
  ⟨none, .mov 4 (.t 20)⟩])
 (.ret)))⟩
/-- The functions of this text, with their numbers. -/
def tLaws : List (Nat × RF) := [(144, r144), (177, r177)]
end Go.Proofs.Ytlbagejkjkfkjaa.A
/- The compact code of some functions: slices.IndexFunc[[]impl.Range,impl.Range]. -/
namespace Go.Proofs.Ytlbagejkjkfkjaa.A
open Go
/-- A loop of slices.IndexFunc[[]impl.Range,impl.Range]. -/
def r126L0 : RC :=
 .seq (.reg [⟨none, .bin 9 .lss (.t 8) (.t 7)⟩])
    (.seq (.cond (.t 9)
     (.skip)
     (.exit 0))
    (.seq (.block 1 (.seq (.reg [⟨none, .mov 10 (.t 8)⟩,
       ⟨none, .mov 5 (.t 10)⟩])
      (.seq (.reg [⟨none, .mov 11 (.t 1)⟩,
       ⟨none, .mov 12 (.t 0)⟩,
       ⟨none, .mov 13 (.t 5)⟩,
       ⟨none, .idx 14 7 (.t 12) (.t 13)⟩,
       ⟨none, .load 15 14 3 true⟩,
       ⟨none, .calv (some 16) (.t 11) [(.t 15)] false⟩])
      (.cond (.t 16)
      (.seq (.reg [⟨none, .mov 17 (.t 5)⟩,
        ⟨none, .mov 4 (.t 17)⟩])
       (.ret))
      (.skip)))))
    (.reg [⟨none, .bin 18 .add (.t 8) (.k (.int .i64 1))⟩,
    ⟨none, .mov 8 (.t 18)⟩])))
/-- slices.IndexFunc[[]impl.Range,impl.Range] -/
def r126 : RF :=
 ⟨2, [.tmp 4],
 .seq (.reg [⟨none, .mov 4 (.k (.int .i64 0))⟩])
 (.seq (.seq (.reg [⟨none, .mov 6 (.t 0)⟩,
   ⟨none, .len 7 (.t 6)⟩,
   ⟨none, .mov 8 (.k (.int .i64 0))⟩])
  (.block 0 (.loop [0, 1, 7, 8]
   r126L0)))
 (.seq (.reg [⟨none, .mov 4 (.k (.int .i64 (-1)))⟩])
 (.ret)))⟩
/-- The functions of this text, with their numbers. -/
def tLibslicesIndexFuncimplRangeimplRange : List (Nat × RF) := [(126, r126)]
end Go.Proofs.Ytlbagejkjkfkjaa.A
/- The compact code of some functions: spec.l01In, spec.l01New, spec.l01Below, spec.l01Size, spec.l01PickInt, spec.l01Once, spec.l01Byte, spec.l01Big, spec.l01Has. -/
namespace Go.Proofs.Ytlbagejkjkfkjaa.A
open Go
/-- spec.l01In -/
def r5 : RF :=
 ⟨3, [.tmp 6],
 .seq (.reg [⟨none, .mov 6 (.k (.bool false))⟩])
 (.seq (.reg [⟨none, .mov 7 (.t 1)⟩,
  ⟨none, .mov 8 (.t 0)⟩,
  ⟨none, .bin 9 .leq (.t 7) (.t 8)⟩,
  ⟨none, .mov 10 (.t 9)⟩,
  ⟨some (10, true), .mov 11 (.t 0)⟩,
  ⟨some (10, true), .mov 12 (.t 2)⟩,
  ⟨some (10, true), .bin 13 .leq (.t 11) (.t 12)⟩,
  ⟨none, .pick 14 (.t 10) (.t 13) (.k (.bool false))⟩,
  ⟨none, .mov 6 (.t 14)⟩])
 (.ret))⟩
/-- A loop of spec.l01New. -/
def r194L0 : RC :=
 .seq (.seq (.reg [⟨none, .mov 8 (.t 4)⟩,
      ⟨none, .mov 9 (.t 0)⟩,
      ⟨none, .len 10 (.t 9)⟩,
      ⟨none, .bin 11 .lss (.t 8) (.t 10)⟩,
      ⟨none, .mov 12 (.t 11)⟩,
      ⟨some (12, true), .mov 13 (.t 4)⟩,
      ⟨some (12, true), .bin 14 .lss (.t 13) (.k (.int .i64 4000))⟩,
      ⟨none, .pick 15 (.t 12) (.t 14) (.k (.bool false))⟩])
     (.cond (.t 15)
     (.skip)
     (.exit 0)))
    (.seq (.block 1 (.reg [⟨none, .mov 18 (.t 3)⟩,
      ⟨none, .bin 19 .mul (.t 18) (.k (.int .i64 149))⟩,
      ⟨none, .mov 20 (.t 0)⟩,
      ⟨none, .mov 21 (.t 4)⟩,
      ⟨none, .idx 22 19 (.t 20) (.t 21)⟩,
      ⟨none, .load 23 22 1 false⟩,
      ⟨none, .conv 24 .i64 (.t 23)⟩,
      ⟨none, .bin 25 .add (.t 19) (.t 24)⟩,
      ⟨none, .bin 26 .add (.t 25) (.k (.int .i64 11))⟩,
      ⟨none, .bin 27 .and (.t 26) (.k (.int .i64 1073741823))⟩,
      ⟨none, .mov 3 (.t 27)⟩]))
    (.reg [⟨none, .mov 16 (.t 4)⟩,
    ⟨none, .bin 17 .add (.t 16) (.k (.int .i64 1))⟩,
    ⟨none, .mov 4 (.t 17)⟩]))
/-- spec.l01New -/
def r194 : RF :=
 ⟨1, [.tmp 2],
 .seq (.reg [⟨none, .mov 2 (.k (.nilp))⟩])
 (.seq (.reg [⟨none, .mov 5 (.t 0)⟩,
  ⟨none, .len 6 (.t 5)⟩,
  ⟨none, .bin 7 .add (.k (.int .i64 138138)) (.t 6)⟩,
  ⟨none, .mov 3 (.t 7)⟩])
 (.seq (.seq (.reg [⟨none, .mov 4 (.k (.int .i64 0))⟩])
  (.block 0 (.loop [0, 3, 4]
   r194L0)))
 (.seq (.reg [⟨none, .mov 28 (.t 0)⟩,
  ⟨none, .mov 29 (.t 3)⟩,
  ⟨none, .build 30 [.nil, .int .i64 0, .int .i64 0] [(0, 1, (.t 28)), (2, 1, (.t 29))]⟩,
  ⟨none, .newb 31 (.t 30)⟩,
  ⟨none, .mov 2 (.t 31)⟩])
 (.ret))))⟩
/-- spec.l01Below -/
def r236 : RF :=
 ⟨2, [.tmp 4],
 .seq (.reg [⟨none, .mov 4 (.k (.int .i64 0))⟩])
 (.seq (.seq (.reg [⟨none, .mov 8 (.t 1)⟩,
   ⟨none, .bin 9 .leq (.t 8) (.k (.int .i64 0))⟩])
  (.cond (.t 9)
  (.seq (.reg [⟨none, .mov 4 (.k (.int .i64 0))⟩])
   (.ret))
  (.skip)))
 (.seq (.seq (.reg [⟨none, .mov 10 (.t 1)⟩,
   ⟨none, .bin 11 .leq (.t 10) (.k (.int .i64 256))⟩])
  (.cond (.t 11)
  (.seq (.reg [⟨none, .mov 12 (.t 0)⟩,
    ⟨none, .call (some 13) 263 [(.t 12)] false⟩,
    ⟨none, .mov 14 (.t 1)⟩,
    ⟨none, .bin 15 .rem (.t 13) (.t 14)⟩,
    ⟨none, .mov 4 (.t 15)⟩])
   (.ret))
  (.skip)))
 (.seq (.reg [⟨none, .mov 16 (.t 0)⟩,
  ⟨none, .call (some 17) 263 [(.t 16)] false⟩,
  ⟨none, .mov 5 (.t 17)⟩])
 (.seq (.reg [⟨none, .mov 18 (.t 0)⟩,
  ⟨none, .call (some 19) 263 [(.t 18)] false⟩,
  ⟨none, .mov 6 (.t 19)⟩])
 (.seq (.reg [⟨none, .mov 20 (.t 0)⟩,
  ⟨none, .call (some 21) 263 [(.t 20)] false⟩,
  ⟨none, .mov 7 (.t 21)⟩])
 (.seq (.reg [⟨none, .mov 22 (.t 5)⟩,
  ⟨none, .bin 23 .mul (.t 22) (.k (.int .i64 65536))⟩,
  ⟨none, .mov 24 (.t 6)⟩,
  ⟨none, .bin 25 .mul (.t 24) (.k (.int .i64 256))⟩,
  ⟨none, .bin 26 .add (.t 23) (.t 25)⟩,
  ⟨none, .mov 27 (.t 7)⟩,
  ⟨none, .bin 28 .add (.t 26) (.t 27)⟩,
  ⟨none, .mov 29 (.t 1)⟩,
  ⟨none, .bin 30 .rem (.t 28) (.t 29)⟩,
  ⟨none, .mov 4 (.t 30)⟩])
 (.ret)))))))⟩
/-- spec.l01Size -/
def r238 : RF :=
 ⟨2, [.tmp 4],
 .seq (.reg [⟨none, .mov 4 (.k (.int .i64 0))⟩])
 (.seq (.reg [⟨none, .mov 6 (.t 0)⟩,
  ⟨none, .len 7 (.t 6)⟩,
  ⟨none, .bin 8 .quo (.t 7) (.k (.int .i64 16))⟩,
  ⟨none, .bin 9 .add (.k (.int .i64 2)) (.t 8)⟩,
  ⟨none, .mov 5 (.t 9)⟩])
 (.seq (.seq (.reg [⟨none, .mov 10 (.t 5)⟩,
   ⟨none, .mov 11 (.t 1)⟩,
   ⟨none, .bin 12 .gtr (.t 10) (.t 11)⟩])
  (.cond (.t 12)
  (.seq (.reg [⟨none, .mov 13 (.t 1)⟩,
    ⟨none, .mov 4 (.t 13)⟩])
   (.ret))
  (.skip)))
 (.seq (.reg [⟨none, .mov 14 (.t 5)⟩,
  ⟨none, .mov 4 (.t 14)⟩])
 (.ret))))⟩
/-- spec.l01PickInt -/
def r239 : RF :=
 ⟨2, [.tmp 4],
 .seq (.reg [⟨none, .mov 4 (.k (.int .i64 0))⟩])
 (.seq (.reg [⟨none, .mov 5 (.t 1)⟩,
  ⟨none, .mov 6 (.t 0)⟩,
  ⟨none, .mov 7 (.t 1)⟩,
  ⟨none, .len 8 (.t 7)⟩,
  ⟨none, .call (some 9) 236 [(.t 6), (.t 8)] false⟩,
  ⟨none, .idx 10 15 (.t 5) (.t 9)⟩,
  ⟨none, .load 11 10 1 false⟩,
  ⟨none, .mov 4 (.t 11)⟩])
 (.ret))⟩
/-- spec.l01Once -/
def r240 : RF :=
 ⟨2, [.tmp 4],
 .seq (.reg [⟨none, .mov 4 (.k (.bool false))⟩])
 (.seq (.reg [⟨none, .mov 5 (.t 0)⟩,
  ⟨none, .mov 6 (.t 1)⟩,
  ⟨none, .call (some 7) 236 [(.t 5), (.t 6)] false⟩,
  ⟨none, .bin 8 .eql (.t 7) (.k (.int .i64 0))⟩,
  ⟨none, .mov 4 (.t 8)⟩])
 (.ret))⟩
/-- spec.l01Byte -/
def r263 : RF :=
 ⟨1, [.tmp 2],
 .seq (.reg [⟨none, .mov 2 (.k (.int .i64 0))⟩])
 (.seq (.reg [⟨none, .mov 4 (.t 0)⟩,
  ⟨none, .mov 5 (.t 0)⟩,
  ⟨none, .nilc 6 (.t 5)⟩,
  ⟨none, .fad 7 6 2⟩,
  ⟨none, .load 8 7 1 false⟩,
  ⟨none, .bin 9 .mul (.t 8) (.k (.int .i64 6364136223846793005))⟩,
  ⟨none, .bin 10 .add (.t 9) (.k (.int .i64 1442695040888963407))⟩,
  ⟨none, .nilc 11 (.t 4)⟩,
  ⟨none, .fad 12 11 2⟩,
  ⟨none, .store 12 1 (.t 10)⟩])
 (.seq (.reg [⟨none, .chk []⟩,
  ⟨none, .mov 13 (.t 0)⟩,
  ⟨none, .nilc 14 (.t 13)⟩,
  ⟨none, .mov 18 (.t 0)⟩,
  ⟨none, .nilc 19 (.t 18)⟩,
  ⟨none, .fad 15 14 2⟩,
  ⟨none, .load 16 15 1 false⟩,
  ⟨none, .bin 17 .shr (.t 16) (.k (.int .u64 33))⟩,
  ⟨none, .fad 20 19 2⟩,
  ⟨none, .load 21 20 1 false⟩,
  ⟨none, .bin 22 .shr (.t 21) (.k (.int .u64 45))⟩,
  ⟨none, .bin 23 .xor (.t 17) (.t 22)⟩,
  ⟨none, .bin 24 .and (.t 23) (.k (.int .i64 255))⟩,
  ⟨none, .mov 3 (.t 24)⟩])
 (.seq (.seq (.reg [⟨none, .chk []⟩,
   ⟨none, .mov 25 (.t 0)⟩,
   ⟨none, .nilc 26 (.t 25)⟩,
   ⟨none, .mov 29 (.t 0)⟩,
   ⟨none, .nilc 30 (.t 29)⟩,
   ⟨none, .fad 27 26 1⟩,
   ⟨none, .load 28 27 1 false⟩,
   ⟨none, .fad 31 30 0⟩,
   ⟨none, .load 32 31 1 false⟩,
   ⟨none, .len 33 (.t 32)⟩,
   ⟨none, .bin 34 .lss (.t 28) (.t 33)⟩])
  (.cond (.t 34)
  (.seq (.reg [⟨none, .chk []⟩,
    ⟨none, .mov 35 (.t 3)⟩,
    ⟨none, .mov 36 (.t 0)⟩,
    ⟨none, .nilc 37 (.t 36)⟩,
    ⟨none, .mov 40 (.t 0)⟩,
    ⟨none, .nilc 41 (.t 40)⟩,
    ⟨none, .fad 38 37 0⟩,
    ⟨none, .load 39 38 1 false⟩,
    ⟨none, .fad 42 41 1⟩,
    ⟨none, .load 43 42 1 false⟩,
    ⟨none, .idx 44 19 (.t 39) (.t 43)⟩,
    ⟨none, .load 45 44 1 false⟩,
    ⟨none, .conv 46 .i64 (.t 45)⟩,
    ⟨none, .bin 47 .add (.t 35) (.t 46)⟩,
    ⟨none, .bin 48 .and (.t 47) (.k (.int .i64 255))⟩,
    ⟨none, .mov 3 (.t 48)⟩])
   (.reg [⟨none, .mov 49 (.t 0)⟩,
   ⟨none, .mov 50 (.t 0)⟩,
   ⟨none, .nilc 51 (.t 50)⟩,
   ⟨none, .fad 52 51 1⟩,
   ⟨none, .load 53 52 1 false⟩,
   ⟨none, .bin 54 .add (.t 53) (.k (.int .i64 1))⟩,
   ⟨none, .nilc 55 (.t 49)⟩,
   ⟨none, .fad 56 55 1⟩,
   ⟨none, .store 56 1 (.t 54)⟩]))
  (.skip)))
 (.seq (.reg [⟨none, .mov 57 (.t 3)⟩,
  ⟨none, .mov 2 (.t 57)⟩])
 (.ret)))))⟩
/-- A loop of spec.l01Big. -/
def r264L0 : RC :=
 .seq (.seq (.reg [⟨none, .mov 28 (.t 4)⟩,
      ⟨none, .bin 29 .lss (.t 28) (.k (.int .i64 8))⟩])
     (.cond (.t 29)
     (.skip)
     (.exit 1)))
    (.seq (.block 2 (.reg [⟨none, .mov 32 (.t 3)⟩,
      ⟨none, .bin 33 .mul (.t 32) (.k (.int .u64 256))⟩,
      ⟨none, .mov 34 (.t 0)⟩,
      ⟨none, .call (some 35) 236 [(.t 34), (.k (.int .i64 256))] false⟩,
      ⟨none, .conv 36 .u64 (.t 35)⟩,
      ⟨none, .bin 37 .add (.t 33) (.t 36)⟩,
      ⟨none, .mov 3 (.t 37)⟩]))
    (.reg [⟨none, .mov 30 (.t 4)⟩,
    ⟨none, .bin 31 .add (.t 30) (.k (.int .i64 1))⟩,
    ⟨none, .mov 4 (.t 31)⟩]))
/-- spec.l01Big -/
def r264 : RF :=
 ⟨1, [.tmp 2],
 .seq (.reg [⟨none, .mov 2 (.k (.int .u64 0))⟩])
 (.seq (.reg [⟨none, .mov 3 (.k (.int .u64 0))⟩])
 (.seq (.seq (.reg [⟨none, .mov 5 (.t 0)⟩,
   ⟨none, .call (some 6) 236 [(.t 5), (.k (.int .i64 8))] false⟩])
  (.block 0 (.seq (.reg [⟨none, .bin 8 .eql (.t 6) (.k (.int .i64 0))⟩,
    ⟨none, .mov 7 (.t 8)⟩])
   (.cond (.t 7)
   (.seq (.reg [⟨none, .mov 2 (.k (.int .u64 0))⟩])
    (.ret))
   (.seq (.reg [⟨none, .bin 10 .eql (.t 6) (.k (.int .i64 1))⟩,
     ⟨none, .mov 9 (.t 10)⟩])
    (.cond (.t 9)
    (.seq (.reg [⟨none, .mov 2 (.k (.int .u64 18446744073709551615))⟩])
     (.ret))
    (.seq (.reg [⟨none, .bin 12 .eql (.t 6) (.k (.int .i64 2))⟩,
      ⟨none, .mov 11 (.t 12)⟩])
     (.cond (.t 11)
     (.seq (.reg [⟨none, .mov 13 (.t 0)⟩,
       ⟨none, .call (some 14) 236 [(.t 13), (.k (.int .i64 300))] false⟩,
       ⟨none, .conv 15 .u64 (.t 14)⟩,
       ⟨none, .mov 2 (.t 15)⟩])
      (.ret))
     (.seq (.reg [⟨none, .bin 17 .eql (.t 6) (.k (.int .i64 3))⟩,
       ⟨none, .mov 16 (.t 17)⟩])
      (.cond (.t 16)
      (.seq (.reg [⟨none, .mov 18 (.t 0)⟩,
        ⟨none, .call (some 19) 236 [(.t 18), (.k (.int .i64 300))] false⟩,
        ⟨none, .conv 20 .u64 (.t 19)⟩,
        ⟨none, .bin 21 .sub (.k (.int .u64 18446744073709551615)) (.t 20)⟩,
        ⟨none, .mov 2 (.t 21)⟩])
       (.ret))
      (.seq (.reg [⟨none, .bin 23 .eql (.t 6) (.k (.int .i64 4))⟩,
        ⟨none, .mov 22 (.t 23)⟩])
       (.cond (.t 22)
       (.seq (.reg [⟨none, .mov 24 (.t 0)⟩,
         ⟨none, .call (some 25) 236 [(.t 24), (.k (.int .i64 64))] false⟩,
         ⟨none, .conv 26 .u64 (.t 25)⟩,
         ⟨none, .bin 27 .shl (.k (.int .u64 1)) (.t 26)⟩,
         ⟨none, .mov 2 (.t 27)⟩])
        (.ret))
       (.skip)))))))))))))
 (.seq (.seq (.reg [⟨none, .mov 4 (.k (.int .i64 0))⟩])
  (.block 1 (.loop [0, 3, 4]
   r264L0)))
 (.seq (.reg [⟨none, .mov 38 (.t 3)⟩,
  ⟨none, .mov 39 (.t 0)⟩,
  ⟨none, .call (some 40) 236 [(.t 39), (.k (.int .i64 64))] false⟩,
  ⟨none, .conv 41 .u64 (.t 40)⟩,
  ⟨none, .bin 42 .shr (.t 38) (.t 41)⟩,
  ⟨none, .mov 2 (.t 42)⟩])
 (.ret)))))⟩
/-- A loop of spec.l01Has. -/
def r377L0 : RC :=
 .seq (.seq (.reg [⟨none, .mov 6 (.t 5)⟩,
      ⟨none, .mov 7 (.t 0)⟩,
      ⟨none, .len 8 (.t 7)⟩,
      ⟨none, .bin 9 .lss (.t 6) (.t 8)⟩])
     (.cond (.t 9)
     (.skip)
     (.exit 0)))
    (.seq (.block 1 (.seq (.reg [⟨none, .mov 12 (.t 0)⟩,
       ⟨none, .mov 13 (.t 5)⟩,
       ⟨none, .idx 14 15 (.t 12) (.t 13)⟩,
       ⟨none, .load 15 14 1 false⟩,
       ⟨none, .mov 16 (.t 1)⟩,
       ⟨none, .bin 17 .eql (.t 15) (.t 16)⟩])
      (.cond (.t 17)
      (.seq (.reg [⟨none, .mov 4 (.k (.bool true))⟩])
       (.ret))
      (.skip))))
    (.reg [⟨none, .mov 10 (.t 5)⟩,
    ⟨none, .bin 11 .add (.t 10) (.k (.int .i64 1))⟩,
    ⟨none, .mov 5 (.t 11)⟩]))
/-- spec.l01Has -/
def r377 : RF :=
 ⟨2, [.tmp 4],
 .seq (.reg [⟨none, .mov 4 (.k (.bool false))⟩])
 (.seq (.seq (.reg [⟨none, .mov 5 (.k (.int .i64 0))⟩])
  (.block 0 (.loop [0, 1, 5]
   r377L0)))
 (.seq (.reg [⟨none, .mov 4 (.k (.bool false))⟩])
 (.ret)))⟩
/-- The functions of this text, with their numbers. -/
def tS01d : List (Nat × RF) := [(5, r5), (194, r194), (236, r236), (238, r238), (239, r239), (240, r240), (263, r263), (264, r264), (377, r377)]
end Go.Proofs.Ytlbagejkjkfkjaa.A
/- The compact code of some functions: spec.l10DrawId, spec.l10DrawAmount, spec.BookOk, spec.TotalOf, spec.l10Copy, spec.OpenAccount, spec.CloseAccount, spec.Deposit, spec.Withdraw, spec.MoveMoney, spec.l10Find, spec.l10Of, spec.l10With. -/
namespace Go.Proofs.Ytlbagejkjkfkjaa.A
open Go
/-- spec.l10DrawId -/
def r235 : RF :=
 ⟨1, [.tmp 2],
 .seq (.reg [⟨none, .mov 2 (.k (.int .u64 0))⟩])
 (.seq (.reg [⟨none, .lit 3 13 8 [.int .u64 0] [(0, (.k (.int .u64 0))), (1, (.k (.int .u64 1))), (2, (.k (.int .u64 2))), (3, (.k (.int .u64 5))), (4, (.k (.int .u64 9))), (5, (.k (.int .u64 100))), (6, (.k (.int .u64 9223372036854775808))), (7, (.k (.int .u64 18446744073709551615)))]⟩,
  ⟨none, .mov 4 (.t 0)⟩,
  ⟨none, .call (some 5) 236 [(.t 4), (.k (.int .i64 8))] false⟩,
  ⟨none, .idx 6 13 (.t 3) (.t 5)⟩,
  ⟨none, .load 7 6 1 false⟩,
  ⟨none, .mov 2 (.t 7)⟩])
 (.ret))⟩
/-- spec.l10DrawAmount -/
def r237 : RF :=
 ⟨1, [.tmp 2],
 .seq (.reg [⟨none, .mov 2 (.k (.int .u64 0))⟩])
 (.seq (.seq (.reg [⟨none, .mov 3 (.t 0)⟩,
   ⟨none, .call (some 4) 240 [(.t 3), (.k (.int .i64 5))] false⟩])
  (.cond (.t 4)
  (.seq (.reg [⟨none, .mov 5 (.t 0)⟩,
    ⟨none, .call (some 6) 264 [(.t 5)] false⟩,
    ⟨none, .mov 2 (.t 6)⟩])
   (.ret))
  (.skip)))
 (.seq (.reg [⟨none, .mov 7 (.t 0)⟩,
  ⟨none, .call (some 8) 236 [(.t 7), (.k (.int .i64 60))] false⟩,
  ⟨none, .conv 9 .u64 (.t 8)⟩,
  ⟨none, .mov 2 (.t 9)⟩])
 (.ret)))⟩
/-- A loop of spec.BookOk. -/
def r241L0 : RC :=
 .seq (.seq (.reg [⟨none, .mov 9 (.t 3)⟩,
      ⟨none, .fad 10 1 0⟩,
      ⟨none, .load 11 10 1 false⟩,
      ⟨none, .len 12 (.t 11)⟩,
      ⟨none, .bin 13 .lss (.t 9) (.t 12)⟩])
     (.cond (.t 13)
     (.skip)
     (.exit 0)))
    (.seq (.block 1 (.seq (.reg [⟨none, .fad 16 1 0⟩,
       ⟨none, .load 17 16 1 false⟩,
       ⟨none, .mov 18 (.t 3)⟩,
       ⟨none, .idx 19 11 (.t 17) (.t 18)⟩,
       ⟨none, .load 20 19 5 true⟩,
       ⟨none, .loc 4 [.int .u64 0, .int .u64 0, .int .u64 0, .int .u64 0, .int .i64 0]⟩,
       ⟨none, .store 4 5 (.t 20)⟩])
      (.seq (.seq (.reg [⟨none, .chk []⟩,
        ⟨none, .mov 21 (.t 3)⟩,
        ⟨none, .bin 22 .gtr (.t 21) (.k (.int .i64 0))⟩,
        ⟨none, .mov 23 (.t 22)⟩,
        ⟨some (23, true), .mov 26 (.t 3)⟩,
        ⟨some (23, true), .bin 27 .sub (.t 26) (.k (.int .i64 1))⟩,
        ⟨some (23, true), .fad 24 1 0⟩,
        ⟨some (23, true), .load 25 24 1 false⟩,
        ⟨some (23, true), .idx 28 11 (.t 25) (.t 27)⟩,
        ⟨some (23, true), .fad 29 28 0⟩,
        ⟨some (23, true), .load 30 29 1 false⟩,
        ⟨some (23, true), .fad 31 4 0⟩,
        ⟨some (23, true), .load 32 31 1 false⟩,
        ⟨some (23, true), .bin 33 .geq (.t 30) (.t 32)⟩,
        ⟨none, .pick 34 (.t 23) (.t 33) (.k (.bool false))⟩,
        ⟨none, .mov 35 (.t 34)⟩,
        ⟨some (35, false), .fad 36 4 4⟩,
        ⟨some (35, false), .load 37 36 1 false⟩,
        ⟨some (35, false), .bin 38 .lss (.t 37) (.k (.int .i64 0))⟩,
        ⟨none, .pick 39 (.t 35) (.k (.bool true)) (.t 38)⟩,
        ⟨none, .mov 40 (.t 39)⟩,
        ⟨some (40, false), .fad 41 4 4⟩,
        ⟨some (40, false), .load 42 41 1 false⟩,
        ⟨some (40, false), .bin 43 .eql (.t 42) (.k (.int .i64 0))⟩,
        ⟨some (40, false), .mov 44 (.t 43)⟩,
        ⟨some (44, true), .fad 45 4 2⟩,
        ⟨some (44, true), .load 46 45 1 false⟩,
        ⟨some (44, true), .bin 47 .neq (.t 46) (.k (.int .u64 0))⟩,
        ⟨some (44, true), .mov 48 (.t 47)⟩,
        ⟨some (48, false), .fad 49 4 3⟩,
        ⟨some (48, false), .load 50 49 1 false⟩,
        ⟨some (48, false), .bin 51 .neq (.t 50) (.k (.int .u64 0))⟩,
        ⟨some (44, true), .pick 52 (.t 48) (.k (.bool true)) (.t 51)⟩,
        ⟨some (40, false), .pick 53 (.t 44) (.t 52) (.k (.bool false))⟩,
        ⟨none, .pick 54 (.t 40) (.k (.bool true)) (.t 53)⟩])
       (.cond (.t 54)
       (.seq (.reg [⟨none, .mov 2 (.k (.bool false))⟩])
        (.ret))
       (.skip)))
      (.seq (.reg [⟨none, .fad 55 4 2⟩,
       ⟨none, .load 56 55 1 false⟩,
       ⟨none, .fad 57 4 1⟩,
       ⟨none, .load 58 57 1 false⟩,
       ⟨none, .bin 59 .sub (.k (.int .u64 18446744073709551615)) (.t 58)⟩,
       ⟨none, .bin 60 .gtr (.t 56) (.t 59)⟩,
       ⟨none, .mov 61 (.t 60)⟩,
       ⟨some (61, false), .fad 62 4 3⟩,
       ⟨some (61, false), .load 63 62 1 false⟩,
       ⟨some (61, false), .fad 64 4 1⟩,
       ⟨some (61, false), .load 65 64 1 false⟩,
       ⟨some (61, false), .bin 66 .sub (.k (.int .u64 18446744073709551615)) (.t 65)⟩,
       ⟨some (61, false), .fad 67 4 2⟩,
       ⟨some (61, false), .load 68 67 1 false⟩,
       ⟨some (61, false), .bin 69 .sub (.t 66) (.t 68)⟩,
       ⟨some (61, false), .bin 70 .gtr (.t 63) (.t 69)⟩,
       ⟨none, .pick 71 (.t 61) (.k (.bool true)) (.t 70)⟩])
      (.cond (.t 71)
      (.seq (.reg [⟨none, .mov 2 (.k (.bool false))⟩])
       (.ret))
      (.skip))))))
    (.reg [⟨none, .mov 14 (.t 3)⟩,
    ⟨none, .bin 15 .add (.t 14) (.k (.int .i64 1))⟩,
    ⟨none, .mov 3 (.t 15)⟩]))
/-- spec.BookOk -/
def r241 : RF :=
 ⟨1, [.tmp 2],
 .seq (.reg [⟨none, .locb 1 (.t 0)⟩,
  ⟨none, .mov 2 (.k (.bool false))⟩])
 (.seq (.seq (.reg [⟨none, .fad 5 1 0⟩,
   ⟨none, .load 6 5 1 false⟩,
   ⟨none, .len 7 (.t 6)⟩,
   ⟨none, .bin 8 .gtr (.t 7) (.k (.int .i64 40))⟩])
  (.cond (.t 8)
  (.seq (.reg [⟨none, .mov 2 (.k (.bool false))⟩])
   (.ret))
  (.skip)))
 (.seq (.seq (.reg [⟨none, .mov 3 (.k (.int .i64 0))⟩])
  (.block 0 (.loop [1, 3]
   r241L0)))
 (.seq (.reg [⟨none, .mov 2 (.k (.bool true))⟩])
 (.ret))))⟩
/-- A loop of spec.TotalOf. -/
def r245L0 : RC :=
 .seq (.seq (.reg [⟨none, .mov 11 (.t 6)⟩,
      ⟨none, .fad 12 1 0⟩,
      ⟨none, .load 13 12 1 false⟩,
      ⟨none, .len 14 (.t 13)⟩,
      ⟨none, .bin 15 .lss (.t 11) (.t 14)⟩])
     (.cond (.t 15)
     (.skip)
     (.exit 0)))
    (.seq (.block 1 (.seq (.reg [⟨none, .chk []⟩,
       ⟨none, .mov 20 (.t 6)⟩,
       ⟨none, .mov 26 (.t 6)⟩,
       ⟨none, .fad 18 1 0⟩,
       ⟨none, .load 19 18 1 false⟩,
       ⟨none, .idx 21 11 (.t 19) (.t 20)⟩,
       ⟨none, .fad 22 21 1⟩,
       ⟨none, .load 23 22 1 false⟩,
       ⟨none, .fad 24 1 0⟩,
       ⟨none, .load 25 24 1 false⟩,
       ⟨none, .idx 27 11 (.t 25) (.t 26)⟩,
       ⟨none, .fad 28 27 2⟩,
       ⟨none, .load 29 28 1 false⟩,
       ⟨none, .bin 30 .add (.t 23) (.t 29)⟩,
       ⟨none, .mov 7 (.t 30)⟩])
      (.seq (.seq (.reg [⟨none, .mov 31 (.t 7)⟩,
        ⟨none, .mov 32 (.t 5)⟩,
        ⟨none, .bin 33 .sub (.k (.int .u64 18446744073709551615)) (.t 32)⟩,
        ⟨none, .bin 34 .gtr (.t 31) (.t 33)⟩])
       (.cond (.t 34)
       (.reg [⟨none, .mov 35 (.t 4)⟩,
        ⟨none, .bin 36 .add (.t 35) (.k (.int .u64 1))⟩,
        ⟨none, .mov 4 (.t 36)⟩])
       (.skip)))
      (.reg [⟨none, .mov 37 (.t 5)⟩,
      ⟨none, .mov 38 (.t 7)⟩,
      ⟨none, .bin 39 .add (.t 37) (.t 38)⟩,
      ⟨none, .mov 5 (.t 39)⟩]))))
    (.reg [⟨none, .mov 16 (.t 6)⟩,
    ⟨none, .bin 17 .add (.t 16) (.k (.int .i64 1))⟩,
    ⟨none, .mov 6 (.t 17)⟩]))
/-- spec.TotalOf -/
def r245 : RF :=
 ⟨1, [.tmp 2, .tmp 3],
 .seq (.reg [⟨none, .locb 1 (.t 0)⟩,
  ⟨none, .mov 2 (.k (.int .u64 0))⟩,
  ⟨none, .mov 3 (.k (.int .u64 0))⟩])
 (.seq (.reg [⟨none, .mov 4 (.k (.int .u64 0))⟩,
  ⟨none, .mov 5 (.k (.int .u64 0))⟩])
 (.seq (.seq (.reg [⟨none, .load 8 1 1 true⟩,
   ⟨none, .call (some 9) 241 [(.t 8)] false⟩,
   ⟨none, .not 10 (.t 9)⟩])
  (.cond (.t 10)
  (.seq (.reg [⟨none, .mov 2 (.k (.int .u64 0))⟩,
    ⟨none, .mov 3 (.k (.int .u64 0))⟩])
   (.ret))
  (.skip)))
 (.seq (.seq (.reg [⟨none, .mov 6 (.k (.int .i64 0))⟩])
  (.block 0 (.loop [1, 4, 5, 6]
   r245L0)))
 (.seq (.reg [⟨none, .mov 40 (.t 4)⟩,
  ⟨none, .mov 41 (.t 5)⟩,
  ⟨none, .mov 2 (.t 40)⟩,
  ⟨none, .mov 3 (.t 41)⟩])
 (.ret)))))⟩
/-- A loop of spec.l10Copy. -/
def r259L0 : RC :=
 .seq (.seq (.reg [⟨none, .mov 6 (.t 4)⟩,
      ⟨none, .fad 7 1 0⟩,
      ⟨none, .load 8 7 1 false⟩,
      ⟨none, .len 9 (.t 8)⟩,
      ⟨none, .bin 10 .lss (.t 6) (.t 9)⟩])
     (.cond (.t 10)
     (.skip)
     (.exit 0)))
    (.seq (.block 1 (.reg [⟨none, .chk []⟩,
      ⟨none, .mov 17 (.t 4)⟩,
      ⟨none, .fad 13 3 0⟩,
      ⟨none, .load 14 13 1 false⟩,
      ⟨none, .fad 15 1 0⟩,
      ⟨none, .load 16 15 1 false⟩,
      ⟨none, .idx 18 11 (.t 16) (.t 17)⟩,
      ⟨none, .load 19 18 5 true⟩,
      ⟨none, .lit 20 11 1 [.int .u64 0, .int .u64 0, .int .u64 0, .int .u64 0, .int .i64 0] [(0, (.t 19))]⟩,
      ⟨none, .app 21 11 40 (.t 14) (.t 20)⟩,
      ⟨none, .fad 22 3 0⟩,
      ⟨none, .store 22 1 (.t 21)⟩]))
    (.reg [⟨none, .mov 11 (.t 4)⟩,
    ⟨none, .bin 12 .add (.t 11) (.k (.int .i64 1))⟩,
    ⟨none, .mov 4 (.t 12)⟩]))
/-- spec.l10Copy -/
def r259 : RF :=
 ⟨1, [.cell 2 1 true],
 .seq (.reg [⟨none, .locb 1 (.t 0)⟩,
  ⟨none, .loc 2 [.nil]⟩])
 (.seq (.reg [⟨none, .build 5 [.nil] []⟩,
  ⟨none, .loc 3 [.nil]⟩,
  ⟨none, .store 3 1 (.t 5)⟩])
 (.seq (.seq (.reg [⟨none, .mov 4 (.k (.int .i64 0))⟩])
  (.block 0 (.loop [1, 2, 3, 4]
   r259L0)))
 (.seq (.reg [⟨none, .load 23 3 1 true⟩,
  ⟨none, .store 2 1 (.t 23)⟩])
 (.ret))))⟩
/-- A loop of spec.OpenAccount. -/
def r323L0 : RC :=
 .seq (.seq (.reg [⟨none, .mov 27 (.t 8)⟩,
      ⟨none, .fad 28 2 0⟩,
      ⟨none, .load 29 28 1 false⟩,
      ⟨none, .len 30 (.t 29)⟩,
      ⟨none, .bin 31 .lss (.t 27) (.t 30)⟩])
     (.cond (.t 31)
     (.skip)
     (.exit 0)))
    (.seq (.block 1 (.seq (.seq (.reg [⟨none, .mov 34 (.t 7)⟩,
        ⟨none, .not 35 (.t 34)⟩,
        ⟨none, .mov 36 (.t 35)⟩,
        ⟨some (36, true), .fad 37 2 0⟩,
        ⟨some (36, true), .load 38 37 1 false⟩,
        ⟨some (36, true), .mov 39 (.t 8)⟩,
        ⟨some (36, true), .idx 40 11 (.t 38) (.t 39)⟩,
        ⟨some (36, true), .fad 41 40 0⟩,
        ⟨some (36, true), .load 42 41 1 false⟩,
        ⟨some (36, true), .mov 43 (.t 1)⟩,
        ⟨some (36, true), .bin 44 .gtr (.t 42) (.t 43)⟩,
        ⟨none, .pick 45 (.t 36) (.t 44) (.k (.bool false))⟩])
       (.cond (.t 45)
       (.seq (.reg [⟨none, .fad 46 6 0⟩,
         ⟨none, .load 47 46 1 false⟩,
         ⟨none, .mov 48 (.t 1)⟩,
         ⟨none, .build 49 [.int .u64 0, .int .u64 0, .int .u64 0, .int .u64 0, .int .i64 0] [(0, 1, (.t 48))]⟩,
         ⟨none, .lit 50 11 1 [.int .u64 0, .int .u64 0, .int .u64 0, .int .u64 0, .int .i64 0] [(0, (.t 49))]⟩,
         ⟨none, .app 51 11 40 (.t 47) (.t 50)⟩,
         ⟨none, .fad 52 6 0⟩,
         ⟨none, .store 52 1 (.t 51)⟩])
        (.reg [⟨none, .mov 7 (.k (.bool true))⟩]))
       (.skip)))
      (.reg [⟨none, .chk []⟩,
      ⟨none, .mov 57 (.t 8)⟩,
      ⟨none, .fad 53 6 0⟩,
      ⟨none, .load 54 53 1 false⟩,
      ⟨none, .fad 55 2 0⟩,
      ⟨none, .load 56 55 1 false⟩,
      ⟨none, .idx 58 11 (.t 56) (.t 57)⟩,
      ⟨none, .load 59 58 5 true⟩,
      ⟨none, .lit 60 11 1 [.int .u64 0, .int .u64 0, .int .u64 0, .int .u64 0, .int .i64 0] [(0, (.t 59))]⟩,
      ⟨none, .app 61 11 40 (.t 54) (.t 60)⟩,
      ⟨none, .fad 62 6 0⟩,
      ⟨none, .store 62 1 (.t 61)⟩])))
    (.reg [⟨none, .mov 32 (.t 8)⟩,
    ⟨none, .bin 33 .add (.t 32) (.k (.int .i64 1))⟩,
    ⟨none, .mov 8 (.t 33)⟩]))
/-- spec.OpenAccount -/
def r323 : RF :=
 ⟨2, [.cell 4 1 true, .tmp 5],
 .seq (.reg [⟨none, .locb 2 (.t 0)⟩,
  ⟨none, .loc 4 [.nil]⟩,
  ⟨none, .mov 5 (.k (.int .i64 0))⟩])
 (.seq (.seq (.reg [⟨none, .load 9 2 1 true⟩,
   ⟨none, .call (some 10) 241 [(.t 9)] false⟩,
   ⟨none, .not 11 (.t 10)⟩])
  (.cond (.t 11)
  (.seq (.reg [⟨none, .load 12 2 1 true⟩,
    ⟨none, .call (some 13) 259 [(.t 12)] false⟩,
    ⟨none, .store 4 1 (.t 13)⟩,
    ⟨none, .mov 5 (.k (.int .i64 1))⟩])
   (.ret))
  (.skip)))
 (.seq (.seq (.reg [⟨none, .load 14 2 1 true⟩,
   ⟨none, .mov 15 (.t 1)⟩,
   ⟨none, .call (some 16) 328 [(.t 14), (.t 15)] false⟩,
   ⟨none, .bin 17 .geq (.t 16) (.k (.int .i64 0))⟩])
  (.cond (.t 17)
  (.seq (.reg [⟨none, .load 18 2 1 true⟩,
    ⟨none, .call (some 19) 259 [(.t 18)] false⟩,
    ⟨none, .store 4 1 (.t 19)⟩,
    ⟨none, .mov 5 (.k (.int .i64 3))⟩])
   (.ret))
  (.skip)))
 (.seq (.seq (.reg [⟨none, .fad 20 2 0⟩,
   ⟨none, .load 21 20 1 false⟩,
   ⟨none, .len 22 (.t 21)⟩,
   ⟨none, .bin 23 .eql (.t 22) (.k (.int .i64 40))⟩])
  (.cond (.t 23)
  (.seq (.reg [⟨none, .load 24 2 1 true⟩,
    ⟨none, .call (some 25) 259 [(.t 24)] false⟩,
    ⟨none, .store 4 1 (.t 25)⟩,
    ⟨none, .mov 5 (.k (.int .i64 1))⟩])
   (.ret))
  (.skip)))
 (.seq (.reg [⟨none, .build 26 [.nil] []⟩,
  ⟨none, .loc 6 [.nil]⟩,
  ⟨none, .store 6 1 (.t 26)⟩])
 (.seq (.reg [⟨none, .mov 7 (.k (.bool false))⟩])
 (.seq (.seq (.reg [⟨none, .mov 8 (.k (.int .i64 0))⟩])
  (.block 0 (.loop [1, 2, 4, 6, 7, 8]
   r323L0)))
 (.seq (.seq (.reg [⟨none, .mov 63 (.t 7)⟩,
   ⟨none, .not 64 (.t 63)⟩])
  (.cond (.t 64)
  (.reg [⟨none, .fad 65 6 0⟩,
   ⟨none, .load 66 65 1 false⟩,
   ⟨none, .mov 67 (.t 1)⟩,
   ⟨none, .build 68 [.int .u64 0, .int .u64 0, .int .u64 0, .int .u64 0, .int .i64 0] [(0, 1, (.t 67))]⟩,
   ⟨none, .lit 69 11 1 [.int .u64 0, .int .u64 0, .int .u64 0, .int .u64 0, .int .i64 0] [(0, (.t 68))]⟩,
   ⟨none, .app 70 11 40 (.t 66) (.t 69)⟩,
   ⟨none, .fad 71 6 0⟩,
   ⟨none, .store 71 1 (.t 70)⟩])
  (.skip)))
 (.seq (.reg [⟨none, .load 72 6 1 true⟩,
  ⟨none, .store 4 1 (.t 72)⟩,
  ⟨none, .mov 5 (.k (.int .i64 0))⟩])
 (.ret)))))))))⟩
/-- A loop of spec.CloseAccount. -/
def r324L0 : RC :=
 .seq (.seq (.reg [⟨none, .mov 35 (.t 9)⟩,
      ⟨none, .fad 36 2 0⟩,
      ⟨none, .load 37 36 1 false⟩,
      ⟨none, .len 38 (.t 37)⟩,
      ⟨none, .bin 39 .lss (.t 35) (.t 38)⟩])
     (.cond (.t 39)
     (.skip)
     (.exit 1)))
    (.seq (.block 2 (.seq (.reg [⟨none, .fad 42 2 0⟩,
       ⟨none, .load 43 42 1 false⟩,
       ⟨none, .mov 44 (.t 9)⟩,
       ⟨none, .idx 45 11 (.t 43) (.t 44)⟩,
       ⟨none, .fad 46 45 0⟩,
       ⟨none, .load 47 46 1 false⟩,
       ⟨none, .mov 48 (.t 1)⟩,
       ⟨none, .bin 49 .neq (.t 47) (.t 48)⟩])
      (.cond (.t 49)
      (.reg [⟨none, .chk []⟩,
       ⟨none, .mov 54 (.t 9)⟩,
       ⟨none, .fad 50 8 0⟩,
       ⟨none, .load 51 50 1 false⟩,
       ⟨none, .fad 52 2 0⟩,
       ⟨none, .load 53 52 1 false⟩,
       ⟨none, .idx 55 11 (.t 53) (.t 54)⟩,
       ⟨none, .load 56 55 5 true⟩,
       ⟨none, .lit 57 11 1 [.int .u64 0, .int .u64 0, .int .u64 0, .int .u64 0, .int .i64 0] [(0, (.t 56))]⟩,
       ⟨none, .app 58 11 40 (.t 51) (.t 57)⟩,
       ⟨none, .fad 59 8 0⟩,
       ⟨none, .store 59 1 (.t 58)⟩])
      (.skip))))
    (.reg [⟨none, .mov 40 (.t 9)⟩,
    ⟨none, .bin 41 .add (.t 40) (.k (.int .i64 1))⟩,
    ⟨none, .mov 9 (.t 41)⟩]))
/-- spec.CloseAccount -/
def r324 : RF :=
 ⟨2, [.cell 4 1 true, .tmp 5],
 .seq (.reg [⟨none, .locb 2 (.t 0)⟩,
  ⟨none, .loc 4 [.nil]⟩,
  ⟨none, .mov 5 (.k (.int .i64 0))⟩])
 (.seq (.reg [⟨none, .load 11 2 1 true⟩,
  ⟨none, .mov 12 (.t 1)⟩,
  ⟨none, .call (some 13) 335 [(.t 11), (.t 12), (.k (.int .i64 1))] false⟩,
  ⟨none, .mov 10 (.t 13)⟩,
  ⟨none, .ext 14 (.t 10) 0⟩,
  ⟨none, .ext 15 (.t 10) 1⟩,
  ⟨none, .loc 6 [.int .u64 0, .int .u64 0, .int .u64 0, .int .u64 0, .int .i64 0]⟩,
  ⟨none, .store 6 5 (.t 14)⟩,
  ⟨none, .mov 7 (.t 15)⟩])
 (.seq (.block 0 (.seq (.reg [⟨none, .mov 17 (.t 7)⟩,
    ⟨none, .bin 18 .neq (.t 17) (.k (.int .i64 0))⟩,
    ⟨none, .mov 16 (.t 18)⟩])
   (.cond (.t 16)
   (.seq (.reg [⟨none, .load 19 2 1 true⟩,
     ⟨none, .call (some 20) 259 [(.t 19)] false⟩,
     ⟨none, .mov 21 (.t 7)⟩,
     ⟨none, .store 4 1 (.t 20)⟩,
     ⟨none, .mov 5 (.t 21)⟩])
    (.ret))
   (.seq (.reg [⟨none, .fad 23 6 4⟩,
     ⟨none, .load 24 23 1 false⟩,
     ⟨none, .bin 25 .neq (.t 24) (.k (.int .i64 0))⟩,
     ⟨none, .mov 22 (.t 25)⟩])
    (.cond (.t 22)
    (.seq (.reg [⟨none, .load 26 2 1 true⟩,
      ⟨none, .call (some 27) 259 [(.t 26)] false⟩,
      ⟨none, .store 4 1 (.t 27)⟩,
      ⟨none, .mov 5 (.k (.int .i64 6))⟩])
     (.ret))
    (.seq (.reg [⟨none, .fad 29 6 1⟩,
      ⟨none, .load 30 29 1 false⟩,
      ⟨none, .bin 31 .neq (.t 30) (.k (.int .u64 0))⟩,
      ⟨none, .mov 28 (.t 31)⟩])
     (.cond (.t 28)
     (.seq (.reg [⟨none, .load 32 2 1 true⟩,
       ⟨none, .call (some 33) 259 [(.t 32)] false⟩,
       ⟨none, .store 4 1 (.t 33)⟩,
       ⟨none, .mov 5 (.k (.int .i64 4))⟩])
      (.ret))
     (.skip))))))))
 (.seq (.reg [⟨none, .build 34 [.nil] []⟩,
  ⟨none, .loc 8 [.nil]⟩,
  ⟨none, .store 8 1 (.t 34)⟩])
 (.seq (.seq (.reg [⟨none, .mov 9 (.k (.int .i64 0))⟩])
  (.block 1 (.loop [1, 2, 4, 8, 9]
   r324L0)))
 (.seq (.reg [⟨none, .load 60 8 1 true⟩,
  ⟨none, .store 4 1 (.t 60)⟩,
  ⟨none, .mov 5 (.k (.int .i64 0))⟩])
 (.ret))))))⟩
/-- spec.Deposit -/
def r325 : RF :=
 ⟨3, [.cell 6 1 true, .tmp 7],
 .seq (.reg [⟨none, .locb 3 (.t 0)⟩,
  ⟨none, .loc 6 [.nil]⟩,
  ⟨none, .mov 7 (.k (.int .i64 0))⟩])
 (.seq (.reg [⟨none, .load 11 3 1 true⟩,
  ⟨none, .mov 12 (.t 1)⟩,
  ⟨none, .call (some 13) 335 [(.t 11), (.t 12), (.k (.int .i64 1))] false⟩,
  ⟨none, .mov 10 (.t 13)⟩,
  ⟨none, .ext 14 (.t 10) 0⟩,
  ⟨none, .ext 15 (.t 10) 1⟩,
  ⟨none, .loc 8 [.int .u64 0, .int .u64 0, .int .u64 0, .int .u64 0, .int .i64 0]⟩,
  ⟨none, .store 8 5 (.t 14)⟩,
  ⟨none, .mov 9 (.t 15)⟩])
 (.seq (.block 0 (.seq (.reg [⟨none, .mov 17 (.t 9)⟩,
    ⟨none, .bin 18 .neq (.t 17) (.k (.int .i64 0))⟩,
    ⟨none, .mov 16 (.t 18)⟩])
   (.cond (.t 16)
   (.seq (.reg [⟨none, .load 19 3 1 true⟩,
     ⟨none, .call (some 20) 259 [(.t 19)] false⟩,
     ⟨none, .mov 21 (.t 9)⟩,
     ⟨none, .store 6 1 (.t 20)⟩,
     ⟨none, .mov 7 (.t 21)⟩])
    (.ret))
   (.seq (.reg [⟨none, .fad 23 8 4⟩,
     ⟨none, .load 24 23 1 false⟩,
     ⟨none, .bin 25 .neq (.t 24) (.k (.int .i64 0))⟩,
     ⟨none, .mov 22 (.t 25)⟩])
    (.cond (.t 22)
    (.seq (.reg [⟨none, .load 26 3 1 true⟩,
      ⟨none, .call (some 27) 259 [(.t 26)] false⟩,
      ⟨none, .store 6 1 (.t 27)⟩,
      ⟨none, .mov 7 (.k (.int .i64 6))⟩])
     (.ret))
    (.seq (.reg [⟨none, .mov 29 (.t 2)⟩,
      ⟨none, .fad 30 8 1⟩,
      ⟨none, .load 31 30 1 false⟩,
      ⟨none, .bin 32 .sub (.k (.int .u64 18446744073709551615)) (.t 31)⟩,
      ⟨none, .bin 33 .gtr (.t 29) (.t 32)⟩,
      ⟨none, .mov 28 (.t 33)⟩])
     (.cond (.t 28)
     (.seq (.reg [⟨none, .load 34 3 1 true⟩,
       ⟨none, .call (some 35) 259 [(.t 34)] false⟩,
       ⟨none, .store 6 1 (.t 35)⟩,
       ⟨none, .mov 7 (.k (.int .i64 5))⟩])
      (.ret))
     (.skip))))))))
 (.seq (.reg [⟨none, .fad 36 8 1⟩,
  ⟨none, .load 37 36 1 false⟩,
  ⟨none, .mov 38 (.t 2)⟩,
  ⟨none, .bin 39 .add (.t 37) (.t 38)⟩,
  ⟨none, .fad 40 8 1⟩,
  ⟨none, .store 40 1 (.t 39)⟩])
 (.seq (.reg [⟨none, .load 41 3 1 true⟩,
  ⟨none, .load 42 8 5 true⟩,
  ⟨none, .call (some 43) 336 [(.t 41), (.t 42)] false⟩,
  ⟨none, .store 6 1 (.t 43)⟩,
  ⟨none, .mov 7 (.k (.int .i64 0))⟩])
 (.ret)))))⟩
/-- spec.Withdraw -/
def r326 : RF :=
 ⟨3, [.cell 6 1 true, .tmp 7],
 .seq (.reg [⟨none, .locb 3 (.t 0)⟩,
  ⟨none, .loc 6 [.nil]⟩,
  ⟨none, .mov 7 (.k (.int .i64 0))⟩])
 (.seq (.reg [⟨none, .load 11 3 1 true⟩,
  ⟨none, .mov 12 (.t 1)⟩,
  ⟨none, .call (some 13) 335 [(.t 11), (.t 12), (.k (.int .i64 1))] false⟩,
  ⟨none, .mov 10 (.t 13)⟩,
  ⟨none, .ext 14 (.t 10) 0⟩,
  ⟨none, .ext 15 (.t 10) 1⟩,
  ⟨none, .loc 8 [.int .u64 0, .int .u64 0, .int .u64 0, .int .u64 0, .int .i64 0]⟩,
  ⟨none, .store 8 5 (.t 14)⟩,
  ⟨none, .mov 9 (.t 15)⟩])
 (.seq (.block 0 (.seq (.reg [⟨none, .mov 17 (.t 9)⟩,
    ⟨none, .bin 18 .neq (.t 17) (.k (.int .i64 0))⟩,
    ⟨none, .mov 16 (.t 18)⟩])
   (.cond (.t 16)
   (.seq (.reg [⟨none, .load 19 3 1 true⟩,
     ⟨none, .call (some 20) 259 [(.t 19)] false⟩,
     ⟨none, .mov 21 (.t 9)⟩,
     ⟨none, .store 6 1 (.t 20)⟩,
     ⟨none, .mov 7 (.t 21)⟩])
    (.ret))
   (.seq (.reg [⟨none, .fad 23 8 4⟩,
     ⟨none, .load 24 23 1 false⟩,
     ⟨none, .bin 25 .neq (.t 24) (.k (.int .i64 0))⟩,
     ⟨none, .mov 22 (.t 25)⟩])
    (.cond (.t 22)
    (.seq (.reg [⟨none, .load 26 3 1 true⟩,
      ⟨none, .call (some 27) 259 [(.t 26)] false⟩,
      ⟨none, .store 6 1 (.t 27)⟩,
      ⟨none, .mov 7 (.k (.int .i64 6))⟩])
     (.ret))
    (.seq (.reg [⟨none, .mov 29 (.t 2)⟩,
      ⟨none, .fad 30 8 1⟩,
      ⟨none, .load 31 30 1 false⟩,
      ⟨none, .bin 32 .gtr (.t 29) (.t 31)⟩,
      ⟨none, .mov 28 (.t 32)⟩])
     (.cond (.t 28)
     (.seq (.reg [⟨none, .load 33 3 1 true⟩,
       ⟨none, .call (some 34) 259 [(.t 33)] false⟩,
       ⟨none, .store 6 1 (.t 34)⟩,
       ⟨none, .mov 7 (.k (.int .i64 4))⟩])
      (.ret))
     (.skip))))))))
 (.seq (.reg [⟨none, .fad 35 8 1⟩,
  ⟨none, .load 36 35 1 false⟩,
  ⟨none, .mov 37 (.t 2)⟩,
  ⟨none, .bin 38 .sub (.t 36) (.t 37)⟩,
  ⟨none, .fad 39 8 1⟩,
  ⟨none, .store 39 1 (.t 38)⟩])
 (.seq (.reg [⟨none, .load 40 3 1 true⟩,
  ⟨none, .load 41 8 5 true⟩,
  ⟨none, .call (some 42) 336 [(.t 40), (.t 41)] false⟩,
  ⟨none, .store 6 1 (.t 42)⟩,
  ⟨none, .mov 7 (.k (.int .i64 0))⟩])
 (.ret)))))⟩
/-- spec.MoveMoney -/
def r327 : RF :=
 ⟨4, [.cell 8 1 true, .tmp 9],
 .seq (.reg [⟨none, .locb 4 (.t 0)⟩,
  ⟨none, .loc 8 [.nil]⟩,
  ⟨none, .mov 9 (.k (.int .i64 0))⟩])
 (.seq (.reg [⟨none, .load 15 4 1 true⟩,
  ⟨none, .mov 16 (.t 1)⟩,
  ⟨none, .call (some 17) 335 [(.t 15), (.t 16), (.k (.int .i64 1))] false⟩,
  ⟨none, .mov 14 (.t 17)⟩,
  ⟨none, .ext 18 (.t 14) 0⟩,
  ⟨none, .ext 19 (.t 14) 1⟩,
  ⟨none, .loc 10 [.int .u64 0, .int .u64 0, .int .u64 0, .int .u64 0, .int .i64 0]⟩,
  ⟨none, .store 10 5 (.t 18)⟩,
  ⟨none, .mov 11 (.t 19)⟩])
 (.seq (.reg [⟨none, .load 21 4 1 true⟩,
  ⟨none, .mov 22 (.t 2)⟩,
  ⟨none, .call (some 23) 335 [(.t 21), (.t 22), (.k (.int .i64 1))] false⟩,
  ⟨none, .mov 20 (.t 23)⟩,
  ⟨none, .ext 24 (.t 20) 0⟩,
  ⟨none, .ext 25 (.t 20) 1⟩,
  ⟨none, .loc 12 [.int .u64 0, .int .u64 0, .int .u64 0, .int .u64 0, .int .i64 0]⟩,
  ⟨none, .store 12 5 (.t 24)⟩,
  ⟨none, .mov 13 (.t 25)⟩])
 (.seq (.block 0 (.seq (.reg [⟨none, .mov 27 (.t 11)⟩,
    ⟨none, .bin 28 .eql (.t 27) (.k (.int .i64 1))⟩,
    ⟨none, .mov 29 (.t 28)⟩,
    ⟨some (29, false), .mov 30 (.t 1)⟩,
    ⟨some (29, false), .mov 31 (.t 2)⟩,
    ⟨some (29, false), .bin 32 .eql (.t 30) (.t 31)⟩,
    ⟨none, .pick 33 (.t 29) (.k (.bool true)) (.t 32)⟩,
    ⟨none, .mov 26 (.t 33)⟩])
   (.cond (.t 26)
   (.seq (.reg [⟨none, .load 34 4 1 true⟩,
     ⟨none, .call (some 35) 259 [(.t 34)] false⟩,
     ⟨none, .store 8 1 (.t 35)⟩,
     ⟨none, .mov 9 (.k (.int .i64 1))⟩])
    (.ret))
   (.seq (.reg [⟨none, .mov 37 (.t 11)⟩,
     ⟨none, .bin 38 .neq (.t 37) (.k (.int .i64 0))⟩,
     ⟨none, .mov 39 (.t 38)⟩,
     ⟨some (39, false), .mov 40 (.t 13)⟩,
     ⟨some (39, false), .bin 41 .neq (.t 40) (.k (.int .i64 0))⟩,
     ⟨none, .pick 42 (.t 39) (.k (.bool true)) (.t 41)⟩,
     ⟨none, .mov 36 (.t 42)⟩])
    (.cond (.t 36)
    (.seq (.reg [⟨none, .load 43 4 1 true⟩,
      ⟨none, .call (some 44) 259 [(.t 43)] false⟩,
      ⟨none, .store 8 1 (.t 44)⟩,
      ⟨none, .mov 9 (.k (.int .i64 2))⟩])
     (.ret))
    (.seq (.reg [⟨none, .fad 46 10 4⟩,
      ⟨none, .load 47 46 1 false⟩,
      ⟨none, .bin 48 .neq (.t 47) (.k (.int .i64 0))⟩,
      ⟨none, .mov 49 (.t 48)⟩,
      ⟨some (49, false), .fad 50 12 4⟩,
      ⟨some (49, false), .load 51 50 1 false⟩,
      ⟨some (49, false), .bin 52 .neq (.t 51) (.k (.int .i64 0))⟩,
      ⟨none, .pick 53 (.t 49) (.k (.bool true)) (.t 52)⟩,
      ⟨none, .mov 45 (.t 53)⟩])
     (.cond (.t 45)
     (.seq (.reg [⟨none, .load 54 4 1 true⟩,
       ⟨none, .call (some 55) 259 [(.t 54)] false⟩,
       ⟨none, .store 8 1 (.t 55)⟩,
       ⟨none, .mov 9 (.k (.int .i64 6))⟩])
      (.ret))
     (.seq (.reg [⟨none, .mov 57 (.t 3)⟩,
       ⟨none, .fad 58 10 1⟩,
       ⟨none, .load 59 58 1 false⟩,
       ⟨none, .bin 60 .gtr (.t 57) (.t 59)⟩,
       ⟨none, .mov 56 (.t 60)⟩])
      (.cond (.t 56)
      (.seq (.reg [⟨none, .load 61 4 1 true⟩,
        ⟨none, .call (some 62) 259 [(.t 61)] false⟩,
        ⟨none, .store 8 1 (.t 62)⟩,
        ⟨none, .mov 9 (.k (.int .i64 4))⟩])
       (.ret))
      (.seq (.reg [⟨none, .mov 64 (.t 3)⟩,
        ⟨none, .fad 65 12 1⟩,
        ⟨none, .load 66 65 1 false⟩,
        ⟨none, .bin 67 .sub (.k (.int .u64 18446744073709551615)) (.t 66)⟩,
        ⟨none, .bin 68 .gtr (.t 64) (.t 67)⟩,
        ⟨none, .mov 63 (.t 68)⟩])
       (.cond (.t 63)
       (.seq (.reg [⟨none, .load 69 4 1 true⟩,
         ⟨none, .call (some 70) 259 [(.t 69)] false⟩,
         ⟨none, .store 8 1 (.t 70)⟩,
         ⟨none, .mov 9 (.k (.int .i64 5))⟩])
        (.ret))
       (.skip))))))))))))
 (.seq (.reg [⟨none, .fad 71 10 1⟩,
  ⟨none, .load 72 71 1 false⟩,
  ⟨none, .mov 73 (.t 3)⟩,
  ⟨none, .bin 74 .sub (.t 72) (.t 73)⟩,
  ⟨none, .fad 75 10 1⟩,
  ⟨none, .store 75 1 (.t 74)⟩])
 (.seq (.reg [⟨none, .fad 76 12 1⟩,
  ⟨none, .load 77 76 1 false⟩,
  ⟨none, .mov 78 (.t 3)⟩,
  ⟨none, .bin 79 .add (.t 77) (.t 78)⟩,
  ⟨none, .fad 80 12 1⟩,
  ⟨none, .store 80 1 (.t 79)⟩])
 (.seq (.reg [⟨none, .chk []⟩,
  ⟨none, .load 81 4 1 true⟩,
  ⟨none, .load 82 10 5 true⟩,
  ⟨none, .load 84 12 5 true⟩,
  ⟨none, .call (some 83) 336 [(.t 81), (.t 82)] true⟩,
  ⟨none, .call (some 85) 336 [(.t 83), (.t 84)] true⟩,
  ⟨none, .store 8 1 (.t 85)⟩,
  ⟨none, .mov 9 (.k (.int .i64 0))⟩])
 (.ret)))))))⟩
/-- A loop of spec.l10Find. -/
def r328L0 : RC :=
 .seq (.seq (.reg [⟨none, .mov 6 (.t 5)⟩,
      ⟨none, .fad 7 2 0⟩,
      ⟨none, .load 8 7 1 false⟩,
      ⟨none, .len 9 (.t 8)⟩,
      ⟨none, .bin 10 .lss (.t 6) (.t 9)⟩])
     (.cond (.t 10)
     (.skip)
     (.exit 0)))
    (.seq (.block 1 (.seq (.reg [⟨none, .fad 13 2 0⟩,
       ⟨none, .load 14 13 1 false⟩,
       ⟨none, .mov 15 (.t 5)⟩,
       ⟨none, .idx 16 11 (.t 14) (.t 15)⟩,
       ⟨none, .fad 17 16 0⟩,
       ⟨none, .load 18 17 1 false⟩,
       ⟨none, .mov 19 (.t 1)⟩,
       ⟨none, .bin 20 .eql (.t 18) (.t 19)⟩])
      (.cond (.t 20)
      (.seq (.reg [⟨none, .mov 21 (.t 5)⟩,
        ⟨none, .mov 4 (.t 21)⟩])
       (.ret))
      (.skip))))
    (.reg [⟨none, .mov 11 (.t 5)⟩,
    ⟨none, .bin 12 .add (.t 11) (.k (.int .i64 1))⟩,
    ⟨none, .mov 5 (.t 12)⟩]))
/-- spec.l10Find -/
def r328 : RF :=
 ⟨2, [.tmp 4],
 .seq (.reg [⟨none, .locb 2 (.t 0)⟩,
  ⟨none, .mov 4 (.k (.int .i64 0))⟩])
 (.seq (.seq (.reg [⟨none, .mov 5 (.k (.int .i64 0))⟩])
  (.block 0 (.loop [1, 2, 5]
   r328L0)))
 (.seq (.reg [⟨none, .mov 4 (.k (.int .i64 (-1)))⟩])
 (.ret)))⟩
/-- spec.l10Of -/
def r335 : RF :=
 ⟨3, [.cell 6 5 true, .tmp 7],
 .seq (.reg [⟨none, .locb 3 (.t 0)⟩,
  ⟨none, .loc 6 [.int .u64 0, .int .u64 0, .int .u64 0, .int .u64 0, .int .i64 0]⟩,
  ⟨none, .mov 7 (.k (.int .i64 0))⟩])
 (.seq (.seq (.reg [⟨none, .load 9 3 1 true⟩,
   ⟨none, .call (some 10) 241 [(.t 9)] false⟩,
   ⟨none, .not 11 (.t 10)⟩,
   ⟨none, .mov 12 (.t 11)⟩,
   ⟨some (12, false), .mov 13 (.t 2)⟩,
   ⟨some (12, false), .bin 14 .lss (.t 13) (.k (.int .i64 1))⟩,
   ⟨none, .pick 15 (.t 12) (.k (.bool true)) (.t 14)⟩])
  (.cond (.t 15)
  (.seq (.reg [⟨none, .build 16 [.int .u64 0, .int .u64 0, .int .u64 0, .int .u64 0, .int .i64 0] []⟩,
    ⟨none, .store 6 5 (.t 16)⟩,
    ⟨none, .mov 7 (.k (.int .i64 1))⟩])
   (.ret))
  (.skip)))
 (.seq (.reg [⟨none, .load 17 3 1 true⟩,
  ⟨none, .mov 18 (.t 1)⟩,
  ⟨none, .call (some 19) 328 [(.t 17), (.t 18)] false⟩,
  ⟨none, .mov 8 (.t 19)⟩])
 (.seq (.seq (.reg [⟨none, .mov 20 (.t 8)⟩,
   ⟨none, .bin 21 .lss (.t 20) (.k (.int .i64 0))⟩])
  (.cond (.t 21)
  (.seq (.reg [⟨none, .build 22 [.int .u64 0, .int .u64 0, .int .u64 0, .int .u64 0, .int .i64 0] []⟩,
    ⟨none, .store 6 5 (.t 22)⟩,
    ⟨none, .mov 7 (.k (.int .i64 2))⟩])
   (.ret))
  (.skip)))
 (.seq (.reg [⟨none, .fad 23 3 0⟩,
  ⟨none, .load 24 23 1 false⟩,
  ⟨none, .mov 25 (.t 8)⟩,
  ⟨none, .idx 26 11 (.t 24) (.t 25)⟩,
  ⟨none, .load 27 26 5 true⟩,
  ⟨none, .store 6 5 (.t 27)⟩,
  ⟨none, .mov 7 (.k (.int .i64 0))⟩])
 (.ret)))))⟩
/-- A loop of spec.l10With. -/
def r336L0 : RC :=
 .seq (.seq (.reg [⟨none, .mov 9 (.t 6)⟩,
      ⟨none, .fad 10 5 0⟩,
      ⟨none, .load 11 10 1 false⟩,
      ⟨none, .len 12 (.t 11)⟩,
      ⟨none, .bin 13 .lss (.t 9) (.t 12)⟩])
     (.cond (.t 13)
     (.skip)
     (.exit 0)))
    (.seq (.block 1 (.seq (.reg [⟨none, .chk []⟩,
       ⟨none, .mov 18 (.t 6)⟩,
       ⟨none, .fad 16 5 0⟩,
       ⟨none, .load 17 16 1 false⟩,
       ⟨none, .idx 19 11 (.t 17) (.t 18)⟩,
       ⟨none, .fad 20 19 0⟩,
       ⟨none, .load 21 20 1 false⟩,
       ⟨none, .fad 22 3 0⟩,
       ⟨none, .load 23 22 1 false⟩,
       ⟨none, .bin 24 .eql (.t 21) (.t 23)⟩])
      (.cond (.t 24)
      (.reg [⟨none, .fad 25 5 0⟩,
       ⟨none, .load 26 25 1 false⟩,
       ⟨none, .mov 27 (.t 6)⟩,
       ⟨none, .load 28 3 5 true⟩,
       ⟨none, .idx 29 11 (.t 26) (.t 27)⟩,
       ⟨none, .store 29 5 (.t 28)⟩])
      (.skip))))
    (.reg [⟨none, .mov 14 (.t 6)⟩,
    ⟨none, .bin 15 .add (.t 14) (.k (.int .i64 1))⟩,
    ⟨none, .mov 6 (.t 15)⟩]))
/-- spec.l10With -/
def r336 : RF :=
 ⟨2, [.cell 4 1 true],
 .seq (.reg [⟨none, .locb 2 (.t 0)⟩,
  ⟨none, .locb 3 (.t 1)⟩,
  ⟨none, .loc 4 [.nil]⟩])
 (.seq (.reg [⟨none, .load 7 2 1 true⟩,
  ⟨none, .call (some 8) 259 [(.t 7)] false⟩,
  ⟨none, .loc 5 [.nil]⟩,
  ⟨none, .store 5 1 (.t 8)⟩])
 (.seq (.seq (.reg [⟨none, .mov 6 (.k (.int .i64 0))⟩])
  (.block 0 (.loop [3, 4, 5, 6]
   r336L0)))
 (.seq (.reg [⟨none, .load 30 5 1 true⟩,
  ⟨none, .store 4 1 (.t 30)⟩])
 (.ret))))⟩
/-- The functions of this text, with their numbers. -/
def tS10 : List (Nat × RF) := [(235, r235), (237, r237), (241, r241), (245, r245), (259, r259), (323, r323), (324, r324), (325, r325), (326, r326), (327, r327), (328, r328), (335, r335), (336, r336)]
end Go.Proofs.Ytlbagejkjkfkjaa.A
/- The compact code of some functions: spec.FindRange, spec.RangesOk, spec.Covers, spec.SplitRange, spec.MergeRange, spec.MoveRange, spec.l11DrawAt. -/
namespace Go.Proofs.Ytlbagejkjkfkjaa.A
open Go
/-- A loop of spec.FindRange. -/
def r104L0 : RC :=
 .seq (.seq (.reg [⟨none, .mov 6 (.t 5)⟩,
      ⟨none, .mov 7 (.t 0)⟩,
      ⟨none, .len 8 (.t 7)⟩,
      ⟨none, .bin 9 .lss (.t 6) (.t 8)⟩,
      ⟨none, .mov 10 (.t 9)⟩,
      ⟨some (10, true), .mov 11 (.t 0)⟩,
      ⟨some (10, true), .call (some 12) 120 [(.t 11)] false⟩,
      ⟨none, .pick 13 (.t 10) (.t 12) (.k (.bool false))⟩])
     (.cond (.t 13)
     (.skip)
     (.exit 0)))
    (.seq (.block 1 (.seq (.reg [⟨none, .mov 16 (.t 0)⟩,
       ⟨none, .mov 17 (.t 5)⟩,
       ⟨none, .idx 18 7 (.t 16) (.t 17)⟩,
       ⟨none, .load 19 18 3 true⟩,
       ⟨none, .mov 20 (.t 1)⟩,
       ⟨none, .call (some 21) 122 [(.t 19), (.t 20)] false⟩])
      (.cond (.t 21)
      (.seq (.reg [⟨none, .mov 22 (.t 5)⟩,
        ⟨none, .mov 4 (.t 22)⟩])
       (.ret))
      (.skip))))
    (.reg [⟨none, .mov 14 (.t 5)⟩,
    ⟨none, .bin 15 .add (.t 14) (.k (.int .i64 1))⟩,
    ⟨none, .mov 5 (.t 15)⟩]))
/-- spec.FindRange -/
def r104 : RF :=
 ⟨2, [.tmp 4],
 .seq (.reg [⟨none, .mov 4 (.k (.int .i64 0))⟩])
 (.seq (.seq (.reg [⟨none, .mov 5 (.k (.int .i64 0))⟩])
  (.block 0 (.loop [0, 1, 5]
   r104L0)))
 (.seq (.reg [⟨none, .mov 4 (.k (.int .i64 (-1)))⟩])
 (.ret)))⟩
/-- A loop of spec.RangesOk. -/
def r120L0 : RC :=
 .seq (.seq (.reg [⟨none, .mov 26 (.t 3)⟩,
      ⟨none, .mov 27 (.t 0)⟩,
      ⟨none, .len 28 (.t 27)⟩,
      ⟨none, .bin 29 .lss (.t 26) (.t 28)⟩])
     (.cond (.t 29)
     (.skip)
     (.exit 0)))
    (.seq (.block 1 (.seq (.reg [⟨none, .mov 32 (.t 0)⟩,
       ⟨none, .mov 33 (.t 3)⟩,
       ⟨none, .idx 34 7 (.t 32) (.t 33)⟩,
       ⟨none, .load 35 34 3 true⟩,
       ⟨none, .loc 4 [.int .u64 0, .int .u64 0, .int .i64 0]⟩,
       ⟨none, .store 4 3 (.t 35)⟩])
      (.seq (.reg [⟨none, .chk []⟩,
       ⟨none, .fad 36 4 0⟩,
       ⟨none, .load 37 36 1 false⟩,
       ⟨none, .fad 38 4 1⟩,
       ⟨none, .load 39 38 1 false⟩,
       ⟨none, .bin 40 .gtr (.t 37) (.t 39)⟩,
       ⟨none, .mov 41 (.t 40)⟩,
       ⟨some (41, false), .fad 42 4 2⟩,
       ⟨some (41, false), .load 43 42 1 false⟩,
       ⟨some (41, false), .call (some 44) 5 [(.t 43), (.k (.int .i64 0)), (.k (.int .i64 99))] true⟩,
       ⟨some (41, false), .not 45 (.t 44)⟩,
       ⟨none, .pick 46 (.t 41) (.k (.bool true)) (.t 45)⟩,
       ⟨none, .mov 47 (.t 46)⟩,
       ⟨some (47, false), .mov 48 (.t 3)⟩,
       ⟨some (47, false), .bin 49 .gtr (.t 48) (.k (.int .i64 0))⟩,
       ⟨some (47, false), .mov 50 (.t 49)⟩,
       ⟨some (50, true), .mov 51 (.t 0)⟩,
       ⟨some (50, true), .mov 52 (.t 3)⟩,
       ⟨some (50, true), .bin 53 .sub (.t 52) (.k (.int .i64 1))⟩,
       ⟨some (50, true), .idx 54 7 (.t 51) (.t 53)⟩,
       ⟨some (50, true), .fad 55 54 1⟩,
       ⟨some (50, true), .load 56 55 1 false⟩,
       ⟨some (50, true), .bin 57 .eql (.t 56) (.k (.int .u64 18446744073709551615))⟩,
       ⟨some (50, true), .mov 58 (.t 57)⟩,
       ⟨some (58, false), .mov 61 (.t 0)⟩,
       ⟨some (58, false), .mov 62 (.t 3)⟩,
       ⟨some (58, false), .bin 63 .sub (.t 62) (.k (.int .i64 1))⟩,
       ⟨some (58, false), .idx 64 7 (.t 61) (.t 63)⟩,
       ⟨some (58, false), .fad 59 4 0⟩,
       ⟨some (58, false), .load 60 59 1 false⟩,
       ⟨some (58, false), .fad 65 64 1⟩,
       ⟨some (58, false), .load 66 65 1 false⟩,
       ⟨some (58, false), .bin 67 .add (.t 66) (.k (.int .u64 1))⟩,
       ⟨some (58, false), .bin 68 .neq (.t 60) (.t 67)⟩,
       ⟨some (50, true), .pick 69 (.t 58) (.k (.bool true)) (.t 68)⟩,
       ⟨some (47, false), .pick 70 (.t 50) (.t 69) (.k (.bool false))⟩,
       ⟨none, .pick 71 (.t 47) (.k (.bool true)) (.t 70)⟩])
      (.cond (.t 71)
      (.seq (.reg [⟨none, .mov 2 (.k (.bool false))⟩])
       (.ret))
      (.skip)))))
    (.reg [⟨none, .mov 30 (.t 3)⟩,
    ⟨none, .bin 31 .add (.t 30) (.k (.int .i64 1))⟩,
    ⟨none, .mov 3 (.t 31)⟩]))
/-- spec.RangesOk -/
def r120 : RF :=
 ⟨1, [.tmp 2],
 .seq (.reg [⟨none, .mov 2 (.k (.bool false))⟩])
 (.seq (.seq (.reg [⟨none, .mov 5 (.t 0)⟩,
   ⟨none, .len 6 (.t 5)⟩,
   ⟨none, .call (some 7) 5 [(.t 6), (.k (.int .i64 1)), (.k (.int .i64 24))] false⟩,
   ⟨none, .not 8 (.t 7)⟩,
   ⟨none, .mov 9 (.t 8)⟩,
   ⟨some (9, false), .mov 10 (.t 0)⟩,
   ⟨some (9, false), .idx 11 7 (.t 10) (.k (.int .i64 0))⟩,
   ⟨some (9, false), .fad 12 11 0⟩,
   ⟨some (9, false), .load 13 12 1 false⟩,
   ⟨some (9, false), .bin 14 .neq (.t 13) (.k (.int .u64 0))⟩,
   ⟨none, .pick 15 (.t 9) (.k (.bool true)) (.t 14)⟩,
   ⟨none, .mov 16 (.t 15)⟩,
   ⟨some (16, false), .mov 17 (.t 0)⟩,
   ⟨some (16, false), .mov 18 (.t 0)⟩,
   ⟨some (16, false), .len 19 (.t 18)⟩,
   ⟨some (16, false), .bin 20 .sub (.t 19) (.k (.int .i64 1))⟩,
   ⟨some (16, false), .idx 21 7 (.t 17) (.t 20)⟩,
   ⟨some (16, false), .fad 22 21 1⟩,
   ⟨some (16, false), .load 23 22 1 false⟩,
   ⟨some (16, false), .bin 24 .neq (.t 23) (.k (.int .u64 18446744073709551615))⟩,
   ⟨none, .pick 25 (.t 16) (.k (.bool true)) (.t 24)⟩])
  (.cond (.t 25)
  (.seq (.reg [⟨none, .mov 2 (.k (.bool false))⟩])
   (.ret))
  (.skip)))
 (.seq (.seq (.reg [⟨none, .mov 3 (.k (.int .i64 0))⟩])
  (.block 0 (.loop [0, 3]
   r120L0)))
 (.seq (.reg [⟨none, .mov 2 (.k (.bool true))⟩])
 (.ret))))⟩
/-- spec.Covers -/
def r122 : RF :=
 ⟨2, [.tmp 4],
 .seq (.reg [⟨none, .locb 2 (.t 0)⟩,
  ⟨none, .mov 4 (.k (.bool false))⟩])
 (.seq (.reg [⟨none, .fad 5 2 0⟩,
  ⟨none, .load 6 5 1 false⟩,
  ⟨none, .mov 7 (.t 1)⟩,
  ⟨none, .bin 8 .leq (.t 6) (.t 7)⟩,
  ⟨none, .mov 9 (.t 8)⟩,
  ⟨some (9, true), .mov 10 (.t 1)⟩,
  ⟨some (9, true), .fad 11 2 1⟩,
  ⟨some (9, true), .load 12 11 1 false⟩,
  ⟨some (9, true), .bin 13 .leq (.t 10) (.t 12)⟩,
  ⟨none, .pick 14 (.t 9) (.t 13) (.k (.bool false))⟩,
  ⟨none, .mov 4 (.t 14)⟩])
 (.ret))⟩
/-- A loop of spec.SplitRange. -/
def r221L0 : RC :=
 .seq (.seq (.reg [⟨none, .mov 36 (.t 10)⟩,
      ⟨none, .mov 37 (.t 0)⟩,
      ⟨none, .len 38 (.t 37)⟩,
      ⟨none, .bin 39 .lss (.t 36) (.t 38)⟩])
     (.cond (.t 39)
     (.skip)
     (.exit 0)))
    (.seq (.block 1 (.seq (.seq (.reg [⟨none, .mov 42 (.t 10)⟩,
        ⟨none, .mov 43 (.t 8)⟩,
        ⟨none, .bin 44 .neq (.t 42) (.t 43)⟩])
       (.cond (.t 44)
       (.seq (.reg [⟨none, .mov 45 (.t 9)⟩,
         ⟨none, .mov 46 (.t 0)⟩,
         ⟨none, .mov 47 (.t 10)⟩,
         ⟨none, .idx 48 7 (.t 46) (.t 47)⟩,
         ⟨none, .load 49 48 3 true⟩,
         ⟨none, .lit 50 7 1 [.int .u64 0, .int .u64 0, .int .i64 0] [(0, (.t 49))]⟩,
         ⟨none, .app 51 7 24 (.t 45) (.t 50)⟩,
         ⟨none, .mov 9 (.t 51)⟩])
        (.exit 1))
       (.skip)))
      (.seq (.reg [⟨none, .chk []⟩,
       ⟨none, .mov 52 (.t 9)⟩,
       ⟨none, .mov 53 (.t 0)⟩,
       ⟨none, .mov 54 (.t 10)⟩,
       ⟨none, .idx 55 7 (.t 53) (.t 54)⟩,
       ⟨none, .mov 58 (.t 1)⟩,
       ⟨none, .bin 59 .sub (.t 58) (.k (.int .u64 1))⟩,
       ⟨none, .mov 60 (.t 0)⟩,
       ⟨none, .mov 61 (.t 10)⟩,
       ⟨none, .idx 62 7 (.t 60) (.t 61)⟩,
       ⟨none, .fad 56 55 0⟩,
       ⟨none, .load 57 56 1 false⟩,
       ⟨none, .fad 63 62 2⟩,
       ⟨none, .load 64 63 1 false⟩,
       ⟨none, .build 65 [.int .u64 0, .int .u64 0, .int .i64 0] [(0, 1, (.t 57)), (1, 1, (.t 59)), (2, 1, (.t 64))]⟩,
       ⟨none, .lit 66 7 1 [.int .u64 0, .int .u64 0, .int .i64 0] [(0, (.t 65))]⟩,
       ⟨none, .app 67 7 24 (.t 52) (.t 66)⟩,
       ⟨none, .mov 9 (.t 67)⟩])
      (.reg [⟨none, .mov 68 (.t 9)⟩,
      ⟨none, .mov 69 (.t 1)⟩,
      ⟨none, .mov 70 (.t 0)⟩,
      ⟨none, .mov 71 (.t 10)⟩,
      ⟨none, .idx 72 7 (.t 70) (.t 71)⟩,
      ⟨none, .fad 73 72 1⟩,
      ⟨none, .load 74 73 1 false⟩,
      ⟨none, .mov 75 (.t 2)⟩,
      ⟨none, .build 76 [.int .u64 0, .int .u64 0, .int .i64 0] [(0, 1, (.t 69)), (1, 1, (.t 74)), (2, 1, (.t 75))]⟩,
      ⟨none, .lit 77 7 1 [.int .u64 0, .int .u64 0, .int .i64 0] [(0, (.t 76))]⟩,
      ⟨none, .app 78 7 24 (.t 68) (.t 77)⟩,
      ⟨none, .mov 9 (.t 78)⟩]))))
    (.reg [⟨none, .mov 40 (.t 10)⟩,
    ⟨none, .bin 41 .add (.t 40) (.k (.int .i64 1))⟩,
    ⟨none, .mov 10 (.t 41)⟩]))
/-- spec.SplitRange -/
def r221 : RF :=
 ⟨3, [.tmp 6, .tmp 7],
 .seq (.reg [⟨none, .mov 6 (.k (.nil))⟩,
  ⟨none, .mov 7 (.k (.bool false))⟩])
 (.seq (.reg [⟨none, .mov 11 (.t 0)⟩,
  ⟨none, .mov 12 (.t 1)⟩,
  ⟨none, .call (some 13) 104 [(.t 11), (.t 12)] false⟩,
  ⟨none, .mov 8 (.t 13)⟩])
 (.seq (.seq (.reg [⟨none, .mov 14 (.t 8)⟩,
   ⟨none, .bin 15 .lss (.t 14) (.k (.int .i64 0))⟩,
   ⟨none, .mov 16 (.t 15)⟩,
   ⟨some (16, false), .mov 17 (.t 0)⟩,
   ⟨some (16, false), .mov 18 (.t 8)⟩,
   ⟨some (16, false), .idx 19 7 (.t 17) (.t 18)⟩,
   ⟨some (16, false), .fad 20 19 0⟩,
   ⟨some (16, false), .load 21 20 1 false⟩,
   ⟨some (16, false), .mov 22 (.t 1)⟩,
   ⟨some (16, false), .bin 23 .eql (.t 21) (.t 22)⟩,
   ⟨none, .pick 24 (.t 16) (.k (.bool true)) (.t 23)⟩,
   ⟨none, .mov 25 (.t 24)⟩,
   ⟨some (25, false), .mov 26 (.t 2)⟩,
   ⟨some (25, false), .call (some 27) 5 [(.t 26), (.k (.int .i64 0)), (.k (.int .i64 99))] false⟩,
   ⟨some (25, false), .not 28 (.t 27)⟩,
   ⟨none, .pick 29 (.t 25) (.k (.bool true)) (.t 28)⟩,
   ⟨none, .mov 30 (.t 29)⟩,
   ⟨some (30, false), .mov 31 (.t 0)⟩,
   ⟨some (30, false), .len 32 (.t 31)⟩,
   ⟨some (30, false), .bin 33 .eql (.t 32) (.k (.int .i64 24))⟩,
   ⟨none, .pick 34 (.t 30) (.k (.bool true)) (.t 33)⟩])
  (.cond (.t 34)
  (.seq (.reg [⟨none, .mov 6 (.k (.nil))⟩,
    ⟨none, .mov 7 (.k (.bool false))⟩])
   (.ret))
  (.skip)))
 (.seq (.reg [⟨none, .lit 35 7 0 [.int .u64 0, .int .u64 0, .int .i64 0] []⟩,
  ⟨none, .mov 9 (.t 35)⟩])
 (.seq (.seq (.reg [⟨none, .mov 10 (.k (.int .i64 0))⟩])
  (.block 0 (.loop [0, 1, 2, 8, 9, 10]
   r221L0)))
 (.seq (.reg [⟨none, .mov 79 (.t 9)⟩,
  ⟨none, .mov 6 (.t 79)⟩,
  ⟨none, .mov 7 (.k (.bool true))⟩])
 (.ret))))))⟩
/-- A loop of spec.MergeRange. -/
def r222L0 : RC :=
 .seq (.seq (.reg [⟨none, .mov 34 (.t 7)⟩,
      ⟨none, .mov 35 (.t 0)⟩,
      ⟨none, .len 36 (.t 35)⟩,
      ⟨none, .bin 37 .lss (.t 34) (.t 36)⟩])
     (.cond (.t 37)
     (.skip)
     (.exit 0)))
    (.seq (.block 1 (.seq (.reg [⟨none, .mov 40 (.t 7)⟩,
       ⟨none, .mov 41 (.t 1)⟩,
       ⟨none, .bin 42 .add (.t 41) (.k (.int .i64 1))⟩,
       ⟨none, .bin 43 .eql (.t 40) (.t 42)⟩])
      (.cond (.t 43)
      (.reg [⟨none, .mov 44 (.t 6)⟩,
       ⟨none, .mov 45 (.t 1)⟩,
       ⟨none, .mov 46 (.t 0)⟩,
       ⟨none, .mov 47 (.t 7)⟩,
       ⟨none, .idx 48 7 (.t 46) (.t 47)⟩,
       ⟨none, .fad 49 48 1⟩,
       ⟨none, .load 50 49 1 false⟩,
       ⟨none, .idx 51 7 (.t 44) (.t 45)⟩,
       ⟨none, .fad 52 51 1⟩,
       ⟨none, .store 52 1 (.t 50)⟩])
      (.reg [⟨none, .mov 53 (.t 6)⟩,
       ⟨none, .mov 54 (.t 0)⟩,
       ⟨none, .mov 55 (.t 7)⟩,
       ⟨none, .idx 56 7 (.t 54) (.t 55)⟩,
       ⟨none, .load 57 56 3 true⟩,
       ⟨none, .lit 58 7 1 [.int .u64 0, .int .u64 0, .int .i64 0] [(0, (.t 57))]⟩,
       ⟨none, .app 59 7 24 (.t 53) (.t 58)⟩,
       ⟨none, .mov 6 (.t 59)⟩]))))
    (.reg [⟨none, .mov 38 (.t 7)⟩,
    ⟨none, .bin 39 .add (.t 38) (.k (.int .i64 1))⟩,
    ⟨none, .mov 7 (.t 39)⟩]))
/-- spec.MergeRange -/
def r222 : RF :=
 ⟨2, [.tmp 4, .tmp 5],
 .seq (.reg [⟨none, .mov 4 (.k (.nil))⟩,
  ⟨none, .mov 5 (.k (.bool false))⟩])
 (.seq (.seq (.reg [⟨none, .chk []⟩,
   ⟨none, .mov 8 (.t 0)⟩,
   ⟨none, .call (some 9) 120 [(.t 8)] true⟩,
   ⟨none, .not 10 (.t 9)⟩,
   ⟨none, .mov 11 (.t 10)⟩,
   ⟨some (11, false), .mov 12 (.t 1)⟩,
   ⟨some (11, false), .mov 13 (.t 0)⟩,
   ⟨some (11, false), .len 14 (.t 13)⟩,
   ⟨some (11, false), .bin 15 .sub (.t 14) (.k (.int .i64 2))⟩,
   ⟨some (11, false), .call (some 16) 5 [(.t 12), (.k (.int .i64 0)), (.t 15)] true⟩,
   ⟨some (11, false), .not 17 (.t 16)⟩,
   ⟨none, .pick 18 (.t 11) (.k (.bool true)) (.t 17)⟩,
   ⟨none, .mov 19 (.t 18)⟩,
   ⟨some (19, false), .mov 20 (.t 0)⟩,
   ⟨some (19, false), .mov 21 (.t 1)⟩,
   ⟨some (19, false), .idx 22 7 (.t 20) (.t 21)⟩,
   ⟨some (19, false), .mov 25 (.t 0)⟩,
   ⟨some (19, false), .mov 26 (.t 1)⟩,
   ⟨some (19, false), .bin 27 .add (.t 26) (.k (.int .i64 1))⟩,
   ⟨some (19, false), .idx 28 7 (.t 25) (.t 27)⟩,
   ⟨some (19, false), .fad 23 22 2⟩,
   ⟨some (19, false), .load 24 23 1 false⟩,
   ⟨some (19, false), .fad 29 28 2⟩,
   ⟨some (19, false), .load 30 29 1 false⟩,
   ⟨some (19, false), .bin 31 .neq (.t 24) (.t 30)⟩,
   ⟨none, .pick 32 (.t 19) (.k (.bool true)) (.t 31)⟩])
  (.cond (.t 32)
  (.seq (.reg [⟨none, .mov 4 (.k (.nil))⟩,
    ⟨none, .mov 5 (.k (.bool false))⟩])
   (.ret))
  (.skip)))
 (.seq (.reg [⟨none, .lit 33 7 0 [.int .u64 0, .int .u64 0, .int .i64 0] []⟩,
  ⟨none, .mov 6 (.t 33)⟩])
 (.seq (.seq (.reg [⟨none, .mov 7 (.k (.int .i64 0))⟩])
  (.block 0 (.loop [0, 1, 6, 7]
   r222L0)))
 (.seq (.reg [⟨none, .mov 60 (.t 6)⟩,
  ⟨none, .mov 4 (.t 60)⟩,
  ⟨none, .mov 5 (.k (.bool true))⟩])
 (.ret)))))⟩
/-- A loop of spec.MoveRange. -/
def r223L0 : RC :=
 .seq (.seq (.reg [⟨none, .mov 28 (.t 9)⟩,
      ⟨none, .mov 29 (.t 0)⟩,
      ⟨none, .len 30 (.t 29)⟩,
      ⟨none, .bin 31 .lss (.t 28) (.t 30)⟩])
     (.cond (.t 31)
     (.skip)
     (.exit 0)))
    (.seq (.block 1 (.seq (.reg [⟨none, .mov 34 (.t 0)⟩,
       ⟨none, .mov 35 (.t 9)⟩,
       ⟨none, .idx 36 7 (.t 34) (.t 35)⟩,
       ⟨none, .load 37 36 3 true⟩,
       ⟨none, .loc 10 [.int .u64 0, .int .u64 0, .int .i64 0]⟩,
       ⟨none, .store 10 3 (.t 37)⟩])
      (.seq (.seq (.reg [⟨none, .mov 38 (.t 9)⟩,
        ⟨none, .mov 39 (.t 1)⟩,
        ⟨none, .bin 40 .eql (.t 38) (.t 39)⟩])
       (.cond (.t 40)
       (.reg [⟨none, .mov 41 (.t 2)⟩,
        ⟨none, .fad 42 10 2⟩,
        ⟨none, .store 42 1 (.t 41)⟩])
       (.skip)))
      (.reg [⟨none, .mov 43 (.t 8)⟩,
      ⟨none, .load 44 10 3 true⟩,
      ⟨none, .lit 45 7 1 [.int .u64 0, .int .u64 0, .int .i64 0] [(0, (.t 44))]⟩,
      ⟨none, .app 46 7 24 (.t 43) (.t 45)⟩,
      ⟨none, .mov 8 (.t 46)⟩]))))
    (.reg [⟨none, .mov 32 (.t 9)⟩,
    ⟨none, .bin 33 .add (.t 32) (.k (.int .i64 1))⟩,
    ⟨none, .mov 9 (.t 33)⟩]))
/-- spec.MoveRange -/
def r223 : RF :=
 ⟨3, [.tmp 6, .tmp 7],
 .seq (.reg [⟨none, .mov 6 (.k (.nil))⟩,
  ⟨none, .mov 7 (.k (.bool false))⟩])
 (.seq (.seq (.reg [⟨none, .mov 11 (.t 0)⟩,
   ⟨none, .call (some 12) 120 [(.t 11)] false⟩,
   ⟨none, .not 13 (.t 12)⟩,
   ⟨none, .mov 14 (.t 13)⟩,
   ⟨some (14, false), .mov 15 (.t 1)⟩,
   ⟨some (14, false), .mov 16 (.t 0)⟩,
   ⟨some (14, false), .len 17 (.t 16)⟩,
   ⟨some (14, false), .bin 18 .sub (.t 17) (.k (.int .i64 1))⟩,
   ⟨some (14, false), .call (some 19) 5 [(.t 15), (.k (.int .i64 0)), (.t 18)] false⟩,
   ⟨some (14, false), .not 20 (.t 19)⟩,
   ⟨none, .pick 21 (.t 14) (.k (.bool true)) (.t 20)⟩,
   ⟨none, .mov 22 (.t 21)⟩,
   ⟨some (22, false), .mov 23 (.t 2)⟩,
   ⟨some (22, false), .call (some 24) 5 [(.t 23), (.k (.int .i64 0)), (.k (.int .i64 99))] false⟩,
   ⟨some (22, false), .not 25 (.t 24)⟩,
   ⟨none, .pick 26 (.t 22) (.k (.bool true)) (.t 25)⟩])
  (.cond (.t 26)
  (.seq (.reg [⟨none, .mov 6 (.k (.nil))⟩,
    ⟨none, .mov 7 (.k (.bool false))⟩])
   (.ret))
  (.skip)))
 (.seq (.reg [⟨none, .lit 27 7 0 [.int .u64 0, .int .u64 0, .int .i64 0] []⟩,
  ⟨none, .mov 8 (.t 27)⟩])
 (.seq (.seq (.reg [⟨none, .mov 9 (.k (.int .i64 0))⟩])
  (.block 0 (.loop [0, 1, 2, 8, 9]
   r223L0)))
 (.seq (.reg [⟨none, .mov 47 (.t 8)⟩,
  ⟨none, .mov 6 (.t 47)⟩,
  ⟨none, .mov 7 (.k (.bool true))⟩])
 (.ret)))))⟩
/-- spec.l11DrawAt -/
def r271 : RF :=
 ⟨1, [.tmp 2],
 .seq (.reg [⟨none, .mov 2 (.k (.int .u64 0))⟩])
 (.seq (.reg [⟨none, .lit 3 13 10 [.int .u64 0] [(0, (.k (.int .u64 0))), (1, (.k (.int .u64 1))), (2, (.k (.int .u64 2))), (3, (.k (.int .u64 6))), (4, (.k (.int .u64 10))), (5, (.k (.int .u64 101))), (6, (.k (.int .u64 9223372036854775808))), (7, (.k (.int .u64 18446744073709551615))), (8, (.k (.int .u64 18446744073709551614))), (9, (.k (.int .u64 50)))]⟩,
  ⟨none, .mov 4 (.t 0)⟩,
  ⟨none, .call (some 5) 236 [(.t 4), (.k (.int .i64 10))] false⟩,
  ⟨none, .idx 6 13 (.t 3) (.t 5)⟩,
  ⟨none, .load 7 6 1 false⟩,
  ⟨none, .mov 2 (.t 7)⟩])
 (.ret))⟩
/-- The functions of this text, with their numbers. -/
def tS11 : List (Nat × RF) := [(104, r104), (120, r120), (122, r122), (221, r221), (222, r222), (223, r223), (271, r271)]
end Go.Proofs.Ytlbagejkjkfkjaa.A
/- The compact code of some functions: spec.RouteOf, spec.MovedBetween, spec.ChartOk, spec.l12Copy, spec.l12Place, spec.DoMap, spec.DrawRightChart, spec.PlayMap, spec.l12DrawRight, spec.l12DrawCmds, spec.NewChart, spec.l12DrawCmd. -/
namespace Go.Proofs.Ytlbagejkjkfkjaa.A
open Go
/-- spec.RouteOf -/
def r69 : RF :=
 ⟨2, [.tmp 4, .tmp 5],
 .seq (.reg [⟨none, .locb 2 (.t 0)⟩,
  ⟨none, .mov 4 (.k (.int .i64 0))⟩,
  ⟨none, .mov 5 (.k (.int .i64 0))⟩])
 (.seq (.seq (.reg [⟨none, .load 6 2 5 true⟩,
   ⟨none, .call (some 7) 103 [(.t 6)] false⟩,
   ⟨none, .not 8 (.t 7)⟩])
  (.cond (.t 8)
  (.seq (.reg [⟨none, .mov 4 (.k (.int .i64 (-1)))⟩,
    ⟨none, .mov 5 (.k (.int .i64 (-1)))⟩])
   (.ret))
  (.skip)))
 (.seq (.reg [⟨none, .chk []⟩,
  ⟨none, .mov 13 (.t 1)⟩,
  ⟨none, .fad 9 2 1⟩,
  ⟨none, .load 10 9 1 false⟩,
  ⟨none, .fad 11 2 1⟩,
  ⟨none, .load 12 11 1 false⟩,
  ⟨none, .fad 18 2 0⟩,
  ⟨none, .load 19 18 1 false⟩,
  ⟨none, .call (some 14) 104 [(.t 12), (.t 13)] true⟩,
  ⟨none, .idx 15 7 (.t 10) (.t 14)⟩,
  ⟨none, .fad 16 15 2⟩,
  ⟨none, .load 17 16 1 false⟩,
  ⟨none, .mov 4 (.t 17)⟩,
  ⟨none, .mov 5 (.t 19)⟩])
 (.ret)))⟩
/-- spec.MovedBetween -/
def r73 : RF :=
 ⟨3, [.tmp 6],
 .seq (.reg [⟨none, .locb 3 (.t 0)⟩,
  ⟨none, .locb 4 (.t 1)⟩,
  ⟨none, .mov 6 (.k (.bool false))⟩])
 (.seq (.reg [⟨none, .load 12 3 5 true⟩,
  ⟨none, .mov 13 (.t 2)⟩,
  ⟨none, .call (some 14) 69 [(.t 12), (.t 13)] false⟩,
  ⟨none, .mov 11 (.t 14)⟩,
  ⟨none, .ext 15 (.t 11) 0⟩,
  ⟨none, .ext 16 (.t 11) 1⟩,
  ⟨none, .mov 7 (.t 15)⟩,
  ⟨none, .mov 8 (.t 16)⟩])
 (.seq (.reg [⟨none, .load 18 4 5 true⟩,
  ⟨none, .mov 19 (.t 2)⟩,
  ⟨none, .call (some 20) 69 [(.t 18), (.t 19)] false⟩,
  ⟨none, .mov 17 (.t 20)⟩,
  ⟨none, .ext 21 (.t 17) 0⟩,
  ⟨none, .ext 22 (.t 17) 1⟩,
  ⟨none, .mov 9 (.t 21)⟩,
  ⟨none, .mov 10 (.t 22)⟩])
 (.seq (.reg [⟨none, .mov 23 (.t 7)⟩,
  ⟨none, .bin 24 .geq (.t 23) (.k (.int .i64 0))⟩,
  ⟨none, .mov 25 (.t 24)⟩,
  ⟨some (25, true), .mov 26 (.t 9)⟩,
  ⟨some (25, true), .bin 27 .geq (.t 26) (.k (.int .i64 0))⟩,
  ⟨none, .pick 28 (.t 25) (.t 27) (.k (.bool false))⟩,
  ⟨none, .mov 29 (.t 28)⟩,
  ⟨some (29, true), .mov 30 (.t 7)⟩,
  ⟨some (29, true), .mov 31 (.t 9)⟩,
  ⟨some (29, true), .bin 32 .neq (.t 30) (.t 31)⟩,
  ⟨none, .pick 33 (.t 29) (.t 32) (.k (.bool false))⟩,
  ⟨none, .mov 6 (.t 33)⟩])
 (.ret))))⟩
/-- spec.ChartOk -/
def r103 : RF :=
 ⟨1, [.tmp 2],
 .seq (.reg [⟨none, .locb 1 (.t 0)⟩,
  ⟨none, .mov 2 (.k (.bool false))⟩])
 (.seq (.seq (.reg [⟨none, .fad 4 1 0⟩,
   ⟨none, .load 5 4 1 false⟩,
   ⟨none, .call (some 6) 5 [(.t 5), (.k (.int .i64 1)), (.k (.int .i64 1000000))] false⟩,
   ⟨none, .not 7 (.t 6)⟩,
   ⟨none, .mov 8 (.t 7)⟩,
   ⟨some (8, false), .fad 9 1 1⟩,
   ⟨some (8, false), .load 10 9 1 false⟩,
   ⟨some (8, false), .call (some 11) 120 [(.t 10)] false⟩,
   ⟨some (8, false), .not 12 (.t 11)⟩,
   ⟨none, .pick 13 (.t 8) (.k (.bool true)) (.t 12)⟩])
  (.cond (.t 13)
  (.seq (.reg [⟨none, .mov 2 (.k (.bool false))⟩])
   (.ret))
  (.skip)))
 (.seq (.seq (.reg [⟨none, .fad 14 1 2⟩,
   ⟨none, .load 15 14 1 false⟩,
   ⟨none, .not 16 (.t 15)⟩])
  (.cond (.t 16)
  (.seq (.reg [⟨none, .fad 17 1 3⟩,
    ⟨none, .load 18 17 1 false⟩,
    ⟨none, .bin 19 .eql (.t 18) (.k (.int .u64 0))⟩,
    ⟨none, .mov 20 (.t 19)⟩,
    ⟨some (20, true), .fad 21 1 4⟩,
    ⟨some (20, true), .load 22 21 1 false⟩,
    ⟨some (20, true), .bin 23 .eql (.t 22) (.k (.int .i64 0))⟩,
    ⟨none, .pick 24 (.t 20) (.t 23) (.k (.bool false))⟩,
    ⟨none, .mov 2 (.t 24)⟩])
   (.ret))
  (.skip)))
 (.seq (.reg [⟨none, .fad 25 1 1⟩,
  ⟨none, .load 26 25 1 false⟩,
  ⟨none, .fad 27 1 3⟩,
  ⟨none, .load 28 27 1 false⟩,
  ⟨none, .call (some 29) 121 [(.t 26), (.t 28)] false⟩,
  ⟨none, .mov 3 (.t 29)⟩])
 (.seq (.reg [⟨none, .chk []⟩,
  ⟨none, .mov 30 (.t 3)⟩,
  ⟨none, .bin 31 .geq (.t 30) (.k (.int .i64 0))⟩,
  ⟨none, .mov 32 (.t 31)⟩,
  ⟨some (32, true), .fad 33 1 4⟩,
  ⟨some (32, true), .load 34 33 1 false⟩,
  ⟨some (32, true), .call (some 35) 5 [(.t 34), (.k (.int .i64 0)), (.k (.int .i64 99))] true⟩,
  ⟨none, .pick 36 (.t 32) (.t 35) (.k (.bool false))⟩,
  ⟨none, .mov 37 (.t 36)⟩,
  ⟨some (37, true), .mov 40 (.t 3)⟩,
  ⟨some (37, true), .fad 38 1 1⟩,
  ⟨some (37, true), .load 39 38 1 false⟩,
  ⟨some (37, true), .idx 41 7 (.t 39) (.t 40)⟩,
  ⟨some (37, true), .fad 42 41 2⟩,
  ⟨some (37, true), .load 43 42 1 false⟩,
  ⟨some (37, true), .fad 44 1 4⟩,
  ⟨some (37, true), .load 45 44 1 false⟩,
  ⟨some (37, true), .bin 46 .neq (.t 43) (.t 45)⟩,
  ⟨none, .pick 47 (.t 37) (.t 46) (.k (.bool false))⟩,
  ⟨none, .mov 2 (.t 47)⟩])
 (.ret)))))⟩
/-- A loop of spec.l12Copy. -/
def r115L0 : RC :=
 .seq (.seq (.reg [⟨none, .mov 14 (.t 4)⟩,
      ⟨none, .fad 15 1 1⟩,
      ⟨none, .load 16 15 1 false⟩,
      ⟨none, .len 17 (.t 16)⟩,
      ⟨none, .bin 18 .lss (.t 14) (.t 17)⟩])
     (.cond (.t 18)
     (.skip)
     (.exit 0)))
    (.seq (.block 1 (.reg [⟨none, .chk []⟩,
      ⟨none, .mov 25 (.t 4)⟩,
      ⟨none, .fad 21 3 1⟩,
      ⟨none, .load 22 21 1 false⟩,
      ⟨none, .fad 23 1 1⟩,
      ⟨none, .load 24 23 1 false⟩,
      ⟨none, .idx 26 7 (.t 24) (.t 25)⟩,
      ⟨none, .load 27 26 3 true⟩,
      ⟨none, .lit 28 7 1 [.int .u64 0, .int .u64 0, .int .i64 0] [(0, (.t 27))]⟩,
      ⟨none, .app 29 7 24 (.t 22) (.t 28)⟩,
      ⟨none, .fad 30 3 1⟩,
      ⟨none, .store 30 1 (.t 29)⟩]))
    (.reg [⟨none, .mov 19 (.t 4)⟩,
    ⟨none, .bin 20 .add (.t 19) (.k (.int .i64 1))⟩,
    ⟨none, .mov 4 (.t 20)⟩]))
/-- spec.l12Copy -/
def r115 : RF :=
 ⟨1, [.cell 2 5 true],
 .seq (.reg [⟨none, .locb 1 (.t 0)⟩,
  ⟨none, .loc 2 [.int .i64 0, .nil, .bool false, .int .u64 0, .int .i64 0]⟩])
 (.seq (.reg [⟨none, .fad 5 1 0⟩,
  ⟨none, .load 6 5 1 false⟩,
  ⟨none, .fad 7 1 2⟩,
  ⟨none, .load 8 7 1 false⟩,
  ⟨none, .fad 9 1 3⟩,
  ⟨none, .load 10 9 1 false⟩,
  ⟨none, .fad 11 1 4⟩,
  ⟨none, .load 12 11 1 false⟩,
  ⟨none, .build 13 [.int .i64 0, .nil, .bool false, .int .u64 0, .int .i64 0] [(0, 1, (.t 6)), (2, 1, (.t 8)), (3, 1, (.t 10)), (4, 1, (.t 12))]⟩,
  ⟨none, .loc 3 [.int .i64 0, .nil, .bool false, .int .u64 0, .int .i64 0]⟩,
  ⟨none, .store 3 5 (.t 13)⟩])
 (.seq (.seq (.reg [⟨none, .mov 4 (.k (.int .i64 0))⟩])
  (.block 0 (.loop [1, 2, 3, 4]
   r115L0)))
 (.seq (.reg [⟨none, .load 31 3 5 true⟩,
  ⟨none, .store 2 5 (.t 31)⟩])
 (.ret))))⟩
/-- A loop of spec.l12Place. -/
def r121L0 : RC :=
 .seq (.seq (.reg [⟨none, .mov 6 (.t 5)⟩,
      ⟨none, .mov 7 (.t 0)⟩,
      ⟨none, .len 8 (.t 7)⟩,
      ⟨none, .bin 9 .lss (.t 6) (.t 8)⟩])
     (.cond (.t 9)
     (.skip)
     (.exit 0)))
    (.seq (.block 1 (.seq (.reg [⟨none, .mov 12 (.t 0)⟩,
       ⟨none, .mov 13 (.t 5)⟩,
       ⟨none, .idx 14 7 (.t 12) (.t 13)⟩,
       ⟨none, .fad 15 14 0⟩,
       ⟨none, .load 16 15 1 false⟩,
       ⟨none, .mov 17 (.t 1)⟩,
       ⟨none, .bin 18 .eql (.t 16) (.t 17)⟩])
      (.cond (.t 18)
      (.seq (.reg [⟨none, .mov 19 (.t 5)⟩,
        ⟨none, .mov 4 (.t 19)⟩])
       (.ret))
      (.skip))))
    (.reg [⟨none, .mov 10 (.t 5)⟩,
    ⟨none, .bin 11 .add (.t 10) (.k (.int .i64 1))⟩,
    ⟨none, .mov 5 (.t 11)⟩]))
/-- spec.l12Place -/
def r121 : RF :=
 ⟨2, [.tmp 4],
 .seq (.reg [⟨none, .mov 4 (.k (.int .i64 0))⟩])
 (.seq (.seq (.reg [⟨none, .mov 5 (.k (.int .i64 0))⟩])
  (.block 0 (.loop [0, 1, 5]
   r121L0)))
 (.seq (.reg [⟨none, .mov 4 (.k (.int .i64 (-1)))⟩])
 (.ret)))⟩
/-- spec.DoMap -/
def r180 : RF :=
 ⟨2, [.cell 4 5 true, .tmp 5],
 .seq (.reg [⟨none, .locb 2 (.t 0)⟩,
  ⟨none, .locb 3 (.t 1)⟩,
  ⟨none, .loc 4 [.int .i64 0, .nil, .bool false, .int .u64 0, .int .i64 0]⟩,
  ⟨none, .mov 5 (.k (.int .i64 0))⟩])
 (.seq (.reg [⟨none, .load 10 2 5 true⟩,
  ⟨none, .call (some 11) 115 [(.t 10)] false⟩,
  ⟨none, .loc 6 [.int .i64 0, .nil, .bool false, .int .u64 0, .int .i64 0]⟩,
  ⟨none, .store 6 5 (.t 11)⟩])
 (.seq (.seq (.reg [⟨none, .load 12 2 5 true⟩,
   ⟨none, .call (some 13) 103 [(.t 12)] false⟩,
   ⟨none, .not 14 (.t 13)⟩,
   ⟨none, .mov 15 (.t 14)⟩,
   ⟨some (15, false), .fad 16 3 0⟩,
   ⟨some (15, false), .load 17 16 1 false⟩,
   ⟨some (15, false), .call (some 18) 5 [(.t 17), (.k (.int .i64 0)), (.k (.int .i64 4))] false⟩,
   ⟨some (15, false), .not 19 (.t 18)⟩,
   ⟨none, .pick 20 (.t 15) (.k (.bool true)) (.t 19)⟩,
   ⟨none, .mov 21 (.t 20)⟩,
   ⟨some (21, false), .fad 22 2 0⟩,
   ⟨some (21, false), .load 23 22 1 false⟩,
   ⟨some (21, false), .bin 24 .eql (.t 23) (.k (.int .i64 1000000))⟩,
   ⟨none, .pick 25 (.t 21) (.k (.bool true)) (.t 24)⟩])
  (.cond (.t 25)
  (.seq (.reg [⟨none, .load 26 6 5 true⟩,
    ⟨none, .store 4 5 (.t 26)⟩,
    ⟨none, .mov 5 (.k (.int .i64 1))⟩])
   (.ret))
  (.skip)))
 (.seq (.reg [⟨none, .fad 27 2 1⟩,
  ⟨none, .load 28 27 1 false⟩,
  ⟨none, .fad 29 3 1⟩,
  ⟨none, .load 30 29 1 false⟩,
  ⟨none, .call (some 31) 104 [(.t 28), (.t 30)] false⟩,
  ⟨none, .mov 7 (.t 31)⟩])
 (.seq (.reg [⟨none, .mov 8 (.k (.int .i64 (-1)))⟩])
 (.seq (.seq (.reg [⟨none, .fad 32 2 2⟩,
   ⟨none, .load 33 32 1 false⟩])
  (.cond (.t 33)
  (.reg [⟨none, .fad 34 2 1⟩,
   ⟨none, .load 35 34 1 false⟩,
   ⟨none, .fad 36 2 3⟩,
   ⟨none, .load 37 36 1 false⟩,
   ⟨none, .call (some 38) 121 [(.t 35), (.t 37)] false⟩,
   ⟨none, .mov 8 (.t 38)⟩])
  (.skip)))
 (.seq (.reg [⟨none, .mov 9 (.k (.bool true))⟩])
 (.seq (.seq (.reg [⟨none, .fad 39 3 0⟩,
   ⟨none, .load 40 39 1 false⟩])
  (.block 0 (.seq (.reg [⟨none, .bin 62 .eql (.t 40) (.k (.int .i64 0))⟩,
    ⟨none, .mov 61 (.t 62)⟩])
   (.cond (.t 61)
   (.seq (.seq (.reg [⟨none, .mov 63 (.t 8)⟩,
      ⟨none, .mov 64 (.t 7)⟩,
      ⟨none, .bin 65 .eql (.t 63) (.t 64)⟩])
     (.cond (.t 65)
     (.seq (.reg [⟨none, .load 66 6 5 true⟩,
       ⟨none, .store 4 5 (.t 66)⟩,
       ⟨none, .mov 5 (.k (.int .i64 2))⟩])
      (.ret))
     (.skip)))
    (.reg [⟨none, .chk []⟩,
    ⟨none, .mov 74 (.t 7)⟩,
    ⟨none, .fad 68 2 1⟩,
    ⟨none, .load 69 68 1 false⟩,
    ⟨none, .fad 70 3 1⟩,
    ⟨none, .load 71 70 1 false⟩,
    ⟨none, .fad 72 2 1⟩,
    ⟨none, .load 73 72 1 false⟩,
    ⟨none, .idx 75 7 (.t 73) (.t 74)⟩,
    ⟨none, .fad 76 75 2⟩,
    ⟨none, .load 77 76 1 false⟩,
    ⟨none, .call (some 78) 221 [(.t 69), (.t 71), (.t 77)] true⟩,
    ⟨none, .mov 67 (.t 78)⟩,
    ⟨none, .ext 79 (.t 67) 0⟩,
    ⟨none, .ext 80 (.t 67) 1⟩,
    ⟨none, .fad 81 6 1⟩,
    ⟨none, .store 81 1 (.t 79)⟩,
    ⟨none, .mov 9 (.t 80)⟩]))
   (.seq (.reg [⟨none, .bin 83 .eql (.t 40) (.k (.int .i64 1))⟩,
     ⟨none, .mov 82 (.t 83)⟩])
    (.cond (.t 82)
    (.seq (.seq (.reg [⟨none, .chk []⟩,
       ⟨none, .mov 86 (.t 7)⟩,
       ⟨none, .fad 84 2 1⟩,
       ⟨none, .load 85 84 1 false⟩,
       ⟨none, .idx 87 7 (.t 85) (.t 86)⟩,
       ⟨none, .fad 88 87 0⟩,
       ⟨none, .load 89 88 1 false⟩,
       ⟨none, .fad 90 3 1⟩,
       ⟨none, .load 91 90 1 false⟩,
       ⟨none, .bin 92 .neq (.t 89) (.t 91)⟩,
       ⟨none, .mov 93 (.t 92)⟩,
       ⟨some (93, false), .mov 94 (.t 7)⟩,
       ⟨some (93, false), .bin 95 .eql (.t 94) (.k (.int .i64 0))⟩,
       ⟨none, .pick 96 (.t 93) (.k (.bool true)) (.t 95)⟩])
      (.cond (.t 96)
      (.seq (.reg [⟨none, .load 97 6 5 true⟩,
        ⟨none, .store 4 5 (.t 97)⟩,
        ⟨none, .mov 5 (.k (.int .i64 4))⟩])
       (.ret))
      (.skip)))
     (.seq (.seq (.reg [⟨none, .mov 98 (.t 8)⟩,
       ⟨none, .mov 99 (.t 7)⟩,
       ⟨none, .bin 100 .eql (.t 98) (.t 99)⟩,
       ⟨none, .mov 101 (.t 100)⟩,
       ⟨some (101, false), .mov 102 (.t 8)⟩,
       ⟨some (101, false), .mov 103 (.t 7)⟩,
       ⟨some (101, false), .bin 104 .sub (.t 103) (.k (.int .i64 1))⟩,
       ⟨some (101, false), .bin 105 .eql (.t 102) (.t 104)⟩,
       ⟨none, .pick 106 (.t 101) (.k (.bool true)) (.t 105)⟩])
      (.cond (.t 106)
      (.seq (.reg [⟨none, .load 107 6 5 true⟩,
        ⟨none, .store 4 5 (.t 107)⟩,
        ⟨none, .mov 5 (.k (.int .i64 2))⟩])
       (.ret))
      (.skip)))
     (.reg [⟨none, .fad 109 2 1⟩,
     ⟨none, .load 110 109 1 false⟩,
     ⟨none, .mov 111 (.t 7)⟩,
     ⟨none, .bin 112 .sub (.t 111) (.k (.int .i64 1))⟩,
     ⟨none, .call (some 113) 222 [(.t 110), (.t 112)] false⟩,
     ⟨none, .mov 108 (.t 113)⟩,
     ⟨none, .ext 114 (.t 108) 0⟩,
     ⟨none, .ext 115 (.t 108) 1⟩,
     ⟨none, .fad 116 6 1⟩,
     ⟨none, .store 116 1 (.t 114)⟩,
     ⟨none, .mov 9 (.t 115)⟩])))
    (.seq (.reg [⟨none, .bin 118 .eql (.t 40) (.k (.int .i64 2))⟩,
      ⟨none, .mov 117 (.t 118)⟩])
     (.cond (.t 117)
     (.seq (.seq (.reg [⟨none, .fad 119 2 2⟩,
        ⟨none, .load 120 119 1 false⟩])
       (.cond (.t 120)
       (.seq (.reg [⟨none, .load 121 6 5 true⟩,
         ⟨none, .store 4 5 (.t 121)⟩,
         ⟨none, .mov 5 (.k (.int .i64 2))⟩])
        (.ret))
       (.skip)))
      (.seq (.seq (.reg [⟨none, .chk []⟩,
        ⟨none, .fad 122 3 2⟩,
        ⟨none, .load 123 122 1 false⟩,
        ⟨none, .call (some 124) 5 [(.t 123), (.k (.int .i64 0)), (.k (.int .i64 99))] true⟩,
        ⟨none, .not 125 (.t 124)⟩,
        ⟨none, .mov 126 (.t 125)⟩,
        ⟨some (126, false), .mov 131 (.t 7)⟩,
        ⟨some (126, false), .fad 127 3 2⟩,
        ⟨some (126, false), .load 128 127 1 false⟩,
        ⟨some (126, false), .fad 129 2 1⟩,
        ⟨some (126, false), .load 130 129 1 false⟩,
        ⟨some (126, false), .idx 132 7 (.t 130) (.t 131)⟩,
        ⟨some (126, false), .fad 133 132 2⟩,
        ⟨some (126, false), .load 134 133 1 false⟩,
        ⟨some (126, false), .bin 135 .eql (.t 128) (.t 134)⟩,
        ⟨none, .pick 136 (.t 126) (.k (.bool true)) (.t 135)⟩])
       (.cond (.t 136)
       (.seq (.reg [⟨none, .load 137 6 5 true⟩,
         ⟨none, .store 4 5 (.t 137)⟩,
         ⟨none, .mov 5 (.k (.int .i64 4))⟩])
        (.ret))
       (.skip)))
      (.seq (.reg [⟨none, .fad 138 6 2⟩,
       ⟨none, .store 138 1 (.k (.bool true))⟩])
      (.seq (.reg [⟨none, .fad 139 2 1⟩,
       ⟨none, .load 140 139 1 false⟩,
       ⟨none, .mov 141 (.t 7)⟩,
       ⟨none, .idx 142 7 (.t 140) (.t 141)⟩,
       ⟨none, .fad 143 142 0⟩,
       ⟨none, .load 144 143 1 false⟩,
       ⟨none, .fad 145 6 3⟩,
       ⟨none, .store 145 1 (.t 144)⟩])
      (.reg [⟨none, .fad 146 3 2⟩,
      ⟨none, .load 147 146 1 false⟩,
      ⟨none, .fad 148 6 4⟩,
      ⟨none, .store 148 1 (.t 147)⟩])))))
     (.seq (.seq (.reg [⟨none, .fad 41 2 2⟩,
        ⟨none, .load 42 41 1 false⟩,
        ⟨none, .not 43 (.t 42)⟩])
       (.cond (.t 43)
       (.seq (.reg [⟨none, .load 44 6 5 true⟩,
         ⟨none, .store 4 5 (.t 44)⟩,
         ⟨none, .mov 5 (.k (.int .i64 3))⟩])
        (.ret))
       (.skip)))
      (.seq (.seq (.reg [⟨none, .fad 45 3 0⟩,
        ⟨none, .load 46 45 1 false⟩,
        ⟨none, .bin 47 .eql (.t 46) (.k (.int .i64 3))⟩])
       (.cond (.t 47)
       (.reg [⟨none, .fad 49 2 1⟩,
        ⟨none, .load 50 49 1 false⟩,
        ⟨none, .mov 51 (.t 8)⟩,
        ⟨none, .fad 52 2 4⟩,
        ⟨none, .load 53 52 1 false⟩,
        ⟨none, .call (some 54) 223 [(.t 50), (.t 51), (.t 53)] false⟩,
        ⟨none, .mov 48 (.t 54)⟩,
        ⟨none, .ext 55 (.t 48) 0⟩,
        ⟨none, .ext 56 (.t 48) 1⟩,
        ⟨none, .fad 57 6 1⟩,
        ⟨none, .store 57 1 (.t 55)⟩])
       (.skip)))
      (.seq (.reg [⟨none, .fad 58 6 2⟩,
       ⟨none, .store 58 1 (.k (.bool false))⟩])
      (.seq (.reg [⟨none, .fad 59 6 3⟩,
       ⟨none, .store 59 1 (.k (.int .u64 0))⟩])
      (.reg [⟨none, .fad 60 6 4⟩,
      ⟨none, .store 60 1 (.k (.int .i64 0))⟩])))))))))))))
 (.seq (.seq (.reg [⟨none, .mov 149 (.t 9)⟩,
   ⟨none, .not 150 (.t 149)⟩])
  (.cond (.t 150)
  (.seq (.reg [⟨none, .load 151 2 5 true⟩,
    ⟨none, .call (some 152) 115 [(.t 151)] false⟩,
    ⟨none, .store 4 5 (.t 152)⟩,
    ⟨none, .mov 5 (.k (.int .i64 4))⟩])
   (.ret))
  (.skip)))
 (.seq (.reg [⟨none, .fad 153 2 0⟩,
  ⟨none, .load 154 153 1 false⟩,
  ⟨none, .bin 155 .add (.t 154) (.k (.int .i64 1))⟩,
  ⟨none, .fad 156 6 0⟩,
  ⟨none, .store 156 1 (.t 155)⟩])
 (.seq (.reg [⟨none, .load 157 6 5 true⟩,
  ⟨none, .store 4 5 (.t 157)⟩,
  ⟨none, .mov 5 (.k (.int .i64 0))⟩])
 (.ret)))))))))))⟩
/-- spec.DrawRightChart -/
def r183 : RF :=
 ⟨1, [.cell 2 5 true, .tmp 3],
 .seq (.reg [⟨none, .loc 2 [.int .i64 0, .nil, .bool false, .int .u64 0, .int .i64 0]⟩,
  ⟨none, .mov 3 (.k (.nil))⟩])
 (.seq (.reg [⟨none, .mov 6 (.t 0)⟩,
  ⟨none, .call (some 7) 194 [(.t 6)] false⟩,
  ⟨none, .mov 4 (.t 7)⟩])
 (.seq (.reg [⟨none, .mov 8 (.t 4)⟩,
  ⟨none, .mov 9 (.t 0)⟩,
  ⟨none, .call (some 10) 225 [(.t 8), (.t 9)] false⟩,
  ⟨none, .loc 5 [.int .i64 0, .nil, .bool false, .int .u64 0, .int .i64 0]⟩,
  ⟨none, .store 5 5 (.t 10)⟩])
 (.seq (.reg [⟨none, .chk []⟩,
  ⟨none, .mov 12 (.t 4)⟩,
  ⟨none, .mov 13 (.t 0)⟩,
  ⟨none, .lld 11 5 5 true⟩,
  ⟨none, .call (some 14) 226 [(.t 12), (.t 13)] false⟩,
  ⟨none, .store 2 5 (.t 11)⟩,
  ⟨none, .mov 3 (.t 14)⟩])
 (.ret))))⟩
/-- A loop of spec.PlayMap. -/
def r187L0 : RC :=
 .seq (.seq (.reg [⟨none, .mov 24 (.t 8)⟩,
      ⟨none, .mov 25 (.t 1)⟩,
      ⟨none, .len 26 (.t 25)⟩,
      ⟨none, .bin 27 .lss (.t 24) (.t 26)⟩])
     (.cond (.t 27)
     (.skip)
     (.exit 0)))
    (.seq (.block 1 (.seq (.reg [⟨none, .chk [9]⟩,
       ⟨none, .loc 9 [.int .i64 0, .nil, .bool false, .int .u64 0, .int .i64 0]⟩,
       ⟨none, .mov 32 (.t 1)⟩,
       ⟨none, .mov 33 (.t 8)⟩,
       ⟨none, .idx 34 14 (.t 32) (.t 33)⟩,
       ⟨none, .load 31 6 5 true⟩,
       ⟨none, .load 35 34 3 true⟩,
       ⟨none, .call (some 36) 180 [(.t 31), (.t 35)] true⟩,
       ⟨none, .mov 30 (.t 36)⟩,
       ⟨none, .ext 37 (.t 30) 0⟩,
       ⟨none, .ext 38 (.t 30) 1⟩,
       ⟨none, .store 9 5 (.t 37)⟩,
       ⟨none, .mov 10 (.t 38)⟩])
      (.seq (.reg [⟨none, .load 39 9 5 true⟩,
       ⟨none, .store 6 5 (.t 39)⟩])
      (.reg [⟨none, .mov 40 (.t 7)⟩,
      ⟨none, .mov 41 (.t 10)⟩,
      ⟨none, .lit 42 15 1 [.int .i64 0] [(0, (.t 41))]⟩,
      ⟨none, .app 43 15 8 (.t 40) (.t 42)⟩,
      ⟨none, .mov 7 (.t 43)⟩]))))
    (.reg [⟨none, .mov 28 (.t 8)⟩,
    ⟨none, .bin 29 .add (.t 28) (.k (.int .i64 1))⟩,
    ⟨none, .mov 8 (.t 29)⟩]))
/-- spec.PlayMap -/
def r187 : RF :=
 ⟨2, [.cell 4 5 true, .tmp 5],
 .seq (.reg [⟨none, .locb 2 (.t 0)⟩,
  ⟨none, .loc 4 [.int .i64 0, .nil, .bool false, .int .u64 0, .int .i64 0]⟩,
  ⟨none, .mov 5 (.k (.nil))⟩])
 (.seq (.seq (.reg [⟨none, .load 11 2 5 true⟩,
   ⟨none, .call (some 12) 103 [(.t 11)] false⟩,
   ⟨none, .not 13 (.t 12)⟩,
   ⟨none, .mov 14 (.t 13)⟩,
   ⟨some (14, false), .mov 15 (.t 1)⟩,
   ⟨some (14, false), .len 16 (.t 15)⟩,
   ⟨some (14, false), .bin 17 .gtr (.t 16) (.k (.int .i64 200))⟩,
   ⟨none, .pick 18 (.t 14) (.k (.bool true)) (.t 17)⟩])
  (.cond (.t 18)
  (.seq (.reg [⟨none, .load 19 2 5 true⟩,
    ⟨none, .call (some 20) 115 [(.t 19)] false⟩,
    ⟨none, .store 4 5 (.t 20)⟩,
    ⟨none, .mov 5 (.k (.nil))⟩])
   (.ret))
  (.skip)))
 (.seq (.reg [⟨none, .load 21 2 5 true⟩,
  ⟨none, .call (some 22) 115 [(.t 21)] false⟩,
  ⟨none, .loc 6 [.int .i64 0, .nil, .bool false, .int .u64 0, .int .i64 0]⟩,
  ⟨none, .store 6 5 (.t 22)⟩])
 (.seq (.reg [⟨none, .lit 23 15 0 [.int .i64 0] []⟩,
  ⟨none, .mov 7 (.t 23)⟩])
 (.seq (.seq (.reg [⟨none, .mov 8 (.k (.int .i64 0))⟩])
  (.block 0 (.loop [1, 4, 6, 7, 8]
   r187L0)))
 (.seq (.reg [⟨none, .load 44 6 5 true⟩,
  ⟨none, .mov 45 (.t 7)⟩,
  ⟨none, .store 4 5 (.t 44)⟩,
  ⟨none, .mov 5 (.t 45)⟩])
 (.ret))))))⟩
/-- spec.l12DrawRight -/
def r225 : RF :=
 ⟨2, [.cell 4 5 true],
 .seq (.reg [⟨none, .loc 4 [.int .i64 0, .nil, .bool false, .int .u64 0, .int .i64 0]⟩])
 (.seq (.reg [⟨none, .mov 8 (.t 0)⟩,
  ⟨none, .call (some 9) 236 [(.t 8), (.k (.int .i64 3))] false⟩,
  ⟨none, .call (some 10) 257 [(.t 9)] false⟩,
  ⟨none, .mov 11 (.t 0)⟩,
  ⟨none, .mov 12 (.t 1)⟩,
  ⟨none, .call (some 13) 226 [(.t 11), (.t 12)] false⟩,
  ⟨none, .call (some 14) 187 [(.t 10), (.t 13)] false⟩,
  ⟨none, .mov 7 (.t 14)⟩,
  ⟨none, .ext 15 (.t 7) 0⟩,
  ⟨none, .ext 16 (.t 7) 1⟩,
  ⟨none, .loc 5 [.int .i64 0, .nil, .bool false, .int .u64 0, .int .i64 0]⟩,
  ⟨none, .store 5 5 (.t 15)⟩,
  ⟨none, .mov 6 (.t 16)⟩])
 (.seq (.reg [⟨none, .load 17 5 5 true⟩,
  ⟨none, .store 4 5 (.t 17)⟩])
 (.ret)))⟩
/-- A loop of spec.l12DrawCmds. -/
def r226L0 : RC :=
 .seq (.seq (.reg [⟨none, .mov 13 (.t 6)⟩,
      ⟨none, .bin 14 .gtr (.t 13) (.k (.int .i64 0))⟩])
     (.cond (.t 14)
     (.skip)
     (.exit 0)))
    (.seq (.block 1 (.reg [⟨none, .mov 17 (.t 5)⟩,
      ⟨none, .mov 18 (.t 0)⟩,
      ⟨none, .call (some 19) 258 [(.t 18)] false⟩,
      ⟨none, .lit 20 14 1 [.int .i64 0, .int .u64 0, .int .i64 0] [(0, (.t 19))]⟩,
      ⟨none, .app 21 14 24 (.t 17) (.t 20)⟩,
      ⟨none, .mov 5 (.t 21)⟩]))
    (.reg [⟨none, .mov 15 (.t 6)⟩,
    ⟨none, .bin 16 .sub (.t 15) (.k (.int .i64 1))⟩,
    ⟨none, .mov 6 (.t 16)⟩]))
/-- spec.l12DrawCmds -/
def r226 : RF :=
 ⟨2, [.tmp 4],
 .seq (.reg [⟨none, .mov 4 (.k (.nil))⟩])
 (.seq (.reg [⟨none, .lit 7 14 0 [.int .i64 0, .int .u64 0, .int .i64 0] []⟩,
  ⟨none, .mov 5 (.t 7)⟩])
 (.seq (.seq (.reg [⟨none, .mov 8 (.t 0)⟩,
   ⟨none, .mov 9 (.t 1)⟩,
   ⟨none, .call (some 10) 238 [(.t 9), (.k (.int .i64 18))] false⟩,
   ⟨none, .bin 11 .add (.k (.int .i64 2)) (.t 10)⟩,
   ⟨none, .call (some 12) 236 [(.t 8), (.t 11)] false⟩,
   ⟨none, .mov 6 (.t 12)⟩])
  (.block 0 (.loop [0, 5, 6]
   r226L0)))
 (.seq (.reg [⟨none, .mov 22 (.t 5)⟩,
  ⟨none, .mov 4 (.t 22)⟩])
 (.ret))))⟩
/-- spec.NewChart -/
def r257 : RF :=
 ⟨1, [.cell 2 5 true],
 .seq (.reg [⟨none, .loc 2 [.int .i64 0, .nil, .bool false, .int .u64 0, .int .i64 0]⟩])
 (.seq (.seq (.reg [⟨none, .mov 3 (.t 0)⟩,
   ⟨none, .call (some 4) 5 [(.t 3), (.k (.int .i64 0)), (.k (.int .i64 99))] false⟩,
   ⟨none, .not 5 (.t 4)⟩])
  (.cond (.t 5)
  (.seq (.reg [⟨none, .build 6 [.int .i64 0, .nil, .bool false, .int .u64 0, .int .i64 0] []⟩,
    ⟨none, .store 2 5 (.t 6)⟩])
   (.ret))
  (.skip)))
 (.seq (.reg [⟨none, .mov 7 (.t 0)⟩,
  ⟨none, .build 8 [.int .u64 0, .int .u64 0, .int .i64 0] [(1, 1, (.k (.int .u64 18446744073709551615))), (2, 1, (.t 7))]⟩,
  ⟨none, .lit 9 7 1 [.int .u64 0, .int .u64 0, .int .i64 0] [(0, (.t 8))]⟩,
  ⟨none, .build 10 [.int .i64 0, .nil, .bool false, .int .u64 0, .int .i64 0] [(0, 1, (.k (.int .i64 1))), (1, 1, (.t 9))]⟩,
  ⟨none, .store 2 5 (.t 10)⟩])
 (.ret)))⟩
/-- spec.l12DrawCmd -/
def r258 : RF :=
 ⟨1, [.cell 2 3 true],
 .seq (.reg [⟨none, .loc 2 [.int .i64 0, .int .u64 0, .int .i64 0]⟩])
 (.seq (.reg [⟨none, .mov 4 (.t 0)⟩,
  ⟨none, .mov 5 (.t 0)⟩,
  ⟨none, .call (some 6) 236 [(.t 5), (.k (.int .i64 7))] false⟩,
  ⟨none, .bin 7 .sub (.t 6) (.k (.int .i64 1))⟩,
  ⟨none, .lit 8 15 9 [.int .i64 0] [(0, (.k (.int .i64 0))), (1, (.k (.int .i64 0))), (2, (.k (.int .i64 0))), (3, (.k (.int .i64 1))), (4, (.k (.int .i64 2))), (5, (.k (.int .i64 2))), (6, (.k (.int .i64 3))), (7, (.k (.int .i64 4))), (8, (.t 7))]⟩,
  ⟨none, .call (some 9) 239 [(.t 4), (.t 8)] false⟩,
  ⟨none, .build 10 [.int .i64 0, .int .u64 0, .int .i64 0] [(0, 1, (.t 9))]⟩,
  ⟨none, .loc 3 [.int .i64 0, .int .u64 0, .int .i64 0]⟩,
  ⟨none, .store 3 3 (.t 10)⟩])
 (.seq (.reg [⟨none, .mov 11 (.t 0)⟩,
  ⟨none, .call (some 12) 271 [(.t 11)] false⟩,
  ⟨none, .fad 13 3 1⟩,
  ⟨none, .store 13 1 (.t 12)⟩])
 (.seq (.reg [⟨none, .mov 14 (.t 0)⟩,
  ⟨none, .mov 15 (.t 0)⟩,
  ⟨none, .lit 16 15 3 [.int .i64 0] [(0, (.k (.int .i64 (-1)))), (1, (.k (.int .i64 99))), (2, (.k (.int .i64 100)))]⟩,
  ⟨none, .call (some 17) 239 [(.t 15), (.t 16)] false⟩,
  ⟨none, .lit 18 15 7 [.int .i64 0] [(0, (.k (.int .i64 0))), (1, (.k (.int .i64 1))), (2, (.k (.int .i64 2))), (3, (.k (.int .i64 3))), (4, (.k (.int .i64 0))), (5, (.k (.int .i64 1))), (6, (.t 17))]⟩,
  ⟨none, .call (some 19) 239 [(.t 14), (.t 18)] false⟩,
  ⟨none, .fad 20 3 2⟩,
  ⟨none, .store 20 1 (.t 19)⟩])
 (.seq (.reg [⟨none, .load 21 3 3 true⟩,
  ⟨none, .store 2 3 (.t 21)⟩])
 (.ret)))))⟩
/-- The functions of this text, with their numbers. -/
def tS12 : List (Nat × RF) := [(69, r69), (73, r73), (103, r103), (115, r115), (121, r121), (180, r180), (183, r183), (187, r187), (225, r225), (226, r226), (257, r257), (258, r258)]
end Go.Proofs.Ytlbagejkjkfkjaa.A
/- The compact code of some functions: spec.ClientOk, spec.ClientWhere, spec.NewClient, spec.ClientStop, spec.ClientAgain, spec.ClientAsk, spec.DrawRightClient, spec.l16Copy, spec.l16Free, spec.l16Msg, spec.l16DrawRight, spec.l16DrawRequest, spec.l16DrawReply, spec.ClientHear. -/
namespace Go.Proofs.Ytlbagejkjkfkjaa.A
open Go
/-- spec.ClientOk -/
def r78 : RF :=
 ⟨1, [.tmp 2],
 .seq (.reg [⟨none, .locb 1 (.t 0)⟩,
  ⟨none, .mov 2 (.k (.bool false))⟩])
 (.seq (.seq (.reg [⟨none, .fad 3 1 0⟩,
   ⟨none, .load 4 3 1 false⟩,
   ⟨none, .call (some 5) 5 [(.t 4), (.k (.int .i64 1)), (.k (.int .i64 999))] false⟩,
   ⟨none, .not 6 (.t 5)⟩,
   ⟨none, .mov 7 (.t 6)⟩,
   ⟨some (7, false), .fad 8 1 1⟩,
   ⟨some (7, false), .load 9 8 1 false⟩,
   ⟨some (7, false), .call (some 10) 5 [(.t 9), (.k (.int .i64 0)), (.k (.int .i64 1000000))] false⟩,
   ⟨some (7, false), .not 11 (.t 10)⟩,
   ⟨none, .pick 12 (.t 7) (.k (.bool true)) (.t 11)⟩,
   ⟨none, .mov 13 (.t 12)⟩,
   ⟨some (13, false), .fad 14 1 2⟩,
   ⟨some (13, false), .load 15 14 5 true⟩,
   ⟨some (13, false), .call (some 16) 103 [(.t 15)] false⟩,
   ⟨some (13, false), .not 17 (.t 16)⟩,
   ⟨none, .pick 18 (.t 13) (.k (.bool true)) (.t 17)⟩])
  (.cond (.t 18)
  (.seq (.reg [⟨none, .mov 2 (.k (.bool false))⟩])
   (.ret))
  (.skip)))
 (.seq (.seq (.reg [⟨none, .fad 19 1 7⟩,
   ⟨none, .load 20 19 1 false⟩,
   ⟨none, .not 21 (.t 20)⟩])
  (.cond (.t 21)
  (.seq (.reg [⟨none, .fad 22 1 8⟩,
    ⟨none, .load 23 22 1 false⟩,
    ⟨none, .bin 24 .eql (.t 23) (.k (.int .i64 0))⟩,
    ⟨none, .mov 25 (.t 24)⟩,
    ⟨some (25, true), .fad 26 1 9⟩,
    ⟨some (25, true), .load 27 26 5 true⟩,
    ⟨some (25, true), .build 28 [.int .i64 0, .int .i64 0, .int .u64 0, .int .u64 0, .int .i64 0] []⟩,
    ⟨some (25, true), .eqs 29 false [.i .i64, .i .i64, .i .u64, .i .u64, .i .i64] (.t 27) (.t 28)⟩,
    ⟨none, .pick 30 (.t 25) (.t 29) (.k (.bool false))⟩,
    ⟨none, .mov 2 (.t 30)⟩])
   (.ret))
  (.skip)))
 (.seq (.reg [⟨none, .fad 31 1 1⟩,
  ⟨none, .load 32 31 1 false⟩,
  ⟨none, .bin 33 .gtr (.t 32) (.k (.int .i64 0))⟩,
  ⟨none, .mov 34 (.t 33)⟩,
  ⟨some (34, true), .fad 35 1 8⟩,
  ⟨some (34, true), .load 36 35 1 false⟩,
  ⟨some (34, true), .call (some 37) 5 [(.t 36), (.k (.int .i64 1)), (.k (.int .i64 6))] false⟩,
  ⟨none, .pick 38 (.t 34) (.t 37) (.k (.bool false))⟩,
  ⟨none, .mov 39 (.t 38)⟩,
  ⟨some (39, true), .fad 40 1 9⟩,
  ⟨some (39, true), .fad 41 40 1⟩,
  ⟨some (39, true), .load 42 41 1 false⟩,
  ⟨some (39, true), .call (some 43) 5 [(.t 42), (.k (.int .i64 0)), (.k (.int .i64 8))] false⟩,
  ⟨none, .pick 44 (.t 39) (.t 43) (.k (.bool false))⟩,
  ⟨none, .mov 45 (.t 44)⟩,
  ⟨some (45, true), .fad 46 1 9⟩,
  ⟨some (45, true), .fad 47 46 0⟩,
  ⟨some (45, true), .load 48 47 1 false⟩,
  ⟨some (45, true), .bin 49 .eql (.t 48) (.k (.int .i64 0))⟩,
  ⟨none, .pick 50 (.t 45) (.t 49) (.k (.bool false))⟩,
  ⟨none, .mov 2 (.t 50)⟩])
 (.ret))))⟩
/-- spec.ClientWhere -/
def r89 : RF :=
 ⟨2, [.tmp 4],
 .seq (.reg [⟨none, .locb 2 (.t 0)⟩,
  ⟨none, .mov 4 (.k (.int .i64 0))⟩])
 (.seq (.seq (.reg [⟨none, .load 7 2 14 true⟩,
   ⟨none, .call (some 8) 78 [(.t 7)] false⟩,
   ⟨none, .not 9 (.t 8)⟩])
  (.cond (.t 9)
  (.seq (.reg [⟨none, .mov 4 (.k (.int .i64 (-1)))⟩])
   (.ret))
  (.skip)))
 (.seq (.reg [⟨none, .fad 11 2 2⟩,
  ⟨none, .load 12 11 5 true⟩,
  ⟨none, .mov 13 (.t 1)⟩,
  ⟨none, .call (some 14) 69 [(.t 12), (.t 13)] false⟩,
  ⟨none, .mov 10 (.t 14)⟩,
  ⟨none, .ext 15 (.t 10) 0⟩,
  ⟨none, .ext 16 (.t 10) 1⟩,
  ⟨none, .mov 5 (.t 15)⟩,
  ⟨none, .mov 6 (.t 16)⟩])
 (.seq (.reg [⟨none, .mov 17 (.t 5)⟩,
  ⟨none, .mov 4 (.t 17)⟩])
 (.ret))))⟩
/-- spec.NewClient -/
def r92 : RF :=
 ⟨2, [.cell 4 14 true],
 .seq (.reg [⟨none, .locb 3 (.t 1)⟩,
  ⟨none, .loc 4 [.int .i64 0, .int .i64 0, .int .i64 0, .nil, .bool false, .int .u64 0, .int .i64 0, .bool false, .int .i64 0, .int .i64 0, .int .i64 0, .int .u64 0, .int .u64 0, .int .i64 0]⟩])
 (.seq (.reg [⟨none, .mov 6 (.t 0)⟩,
  ⟨none, .load 7 3 5 true⟩,
  ⟨none, .call (some 8) 115 [(.t 7)] false⟩,
  ⟨none, .build 9 [.int .i64 0, .int .i64 0, .int .i64 0, .nil, .bool false, .int .u64 0, .int .i64 0, .bool false, .int .i64 0, .int .i64 0, .int .i64 0, .int .u64 0, .int .u64 0, .int .i64 0] [(0, 1, (.t 6)), (2, 5, (.t 8))]⟩,
  ⟨none, .loc 5 [.int .i64 0, .int .i64 0, .int .i64 0, .nil, .bool false, .int .u64 0, .int .i64 0, .bool false, .int .i64 0, .int .i64 0, .int .i64 0, .int .u64 0, .int .u64 0, .int .i64 0]⟩,
  ⟨none, .store 5 14 (.t 9)⟩])
 (.seq (.seq (.reg [⟨none, .load 10 5 14 true⟩,
   ⟨none, .call (some 11) 78 [(.t 10)] false⟩,
   ⟨none, .not 12 (.t 11)⟩])
  (.cond (.t 12)
  (.seq (.reg [⟨none, .build 13 [.int .i64 0, .int .i64 0, .int .i64 0, .nil, .bool false, .int .u64 0, .int .i64 0, .bool false, .int .i64 0, .int .i64 0, .int .i64 0, .int .u64 0, .int .u64 0, .int .i64 0] []⟩,
    ⟨none, .store 4 14 (.t 13)⟩])
   (.ret))
  (.skip)))
 (.seq (.reg [⟨none, .load 14 5 14 true⟩,
  ⟨none, .store 4 14 (.t 14)⟩])
 (.ret))))⟩
/-- spec.ClientStop -/
def r147 : RF :=
 ⟨1, [.cell 2 14 true, .tmp 3],
 .seq (.reg [⟨none, .locb 1 (.t 0)⟩,
  ⟨none, .loc 2 [.int .i64 0, .int .i64 0, .int .i64 0, .nil, .bool false, .int .u64 0, .int .i64 0, .bool false, .int .i64 0, .int .i64 0, .int .i64 0, .int .u64 0, .int .u64 0, .int .i64 0]⟩,
  ⟨none, .mov 3 (.k (.bool false))⟩])
 (.seq (.reg [⟨none, .load 5 1 14 true⟩,
  ⟨none, .call (some 6) 197 [(.t 5)] false⟩,
  ⟨none, .loc 4 [.int .i64 0, .int .i64 0, .int .i64 0, .nil, .bool false, .int .u64 0, .int .i64 0, .bool false, .int .i64 0, .int .i64 0, .int .i64 0, .int .u64 0, .int .u64 0, .int .i64 0]⟩,
  ⟨none, .store 4 14 (.t 6)⟩])
 (.seq (.seq (.reg [⟨none, .load 7 1 14 true⟩,
   ⟨none, .call (some 8) 78 [(.t 7)] false⟩,
   ⟨none, .not 9 (.t 8)⟩,
   ⟨none, .mov 10 (.t 9)⟩,
   ⟨some (10, false), .fad 11 1 7⟩,
   ⟨some (10, false), .load 12 11 1 false⟩,
   ⟨some (10, false), .not 13 (.t 12)⟩,
   ⟨none, .pick 14 (.t 10) (.k (.bool true)) (.t 13)⟩])
  (.cond (.t 14)
  (.seq (.reg [⟨none, .load 15 4 14 true⟩,
    ⟨none, .store 2 14 (.t 15)⟩,
    ⟨none, .mov 3 (.k (.bool false))⟩])
   (.ret))
  (.skip)))
 (.seq (.reg [⟨none, .load 16 4 14 true⟩,
  ⟨none, .call (some 17) 198 [(.t 16)] false⟩,
  ⟨none, .store 2 14 (.t 17)⟩,
  ⟨none, .mov 3 (.k (.bool true))⟩])
 (.ret))))⟩
/-- spec.ClientAgain -/
def r150 : RF :=
 ⟨1, [.cell 2 14 true, .cell 3 8 true, .tmp 4],
 .seq (.reg [⟨none, .locb 1 (.t 0)⟩,
  ⟨none, .loc 2 [.int .i64 0, .int .i64 0, .int .i64 0, .nil, .bool false, .int .u64 0, .int .i64 0, .bool false, .int .i64 0, .int .i64 0, .int .i64 0, .int .u64 0, .int .u64 0, .int .i64 0]⟩,
  ⟨none, .loc 3 [.int .i64 0, .int .i64 0, .int .i64 0, .int .i64 0, .int .i64 0, .int .u64 0, .int .u64 0, .int .i64 0]⟩,
  ⟨none, .mov 4 (.k (.bool false))⟩])
 (.seq (.reg [⟨none, .load 6 1 14 true⟩,
  ⟨none, .call (some 7) 197 [(.t 6)] false⟩,
  ⟨none, .loc 5 [.int .i64 0, .int .i64 0, .int .i64 0, .nil, .bool false, .int .u64 0, .int .i64 0, .bool false, .int .i64 0, .int .i64 0, .int .i64 0, .int .u64 0, .int .u64 0, .int .i64 0]⟩,
  ⟨none, .store 5 14 (.t 7)⟩])
 (.seq (.seq (.reg [⟨none, .load 8 1 14 true⟩,
   ⟨none, .call (some 9) 78 [(.t 8)] false⟩,
   ⟨none, .not 10 (.t 9)⟩,
   ⟨none, .mov 11 (.t 10)⟩,
   ⟨some (11, false), .fad 12 1 7⟩,
   ⟨some (11, false), .load 13 12 1 false⟩,
   ⟨some (11, false), .not 14 (.t 13)⟩,
   ⟨none, .pick 15 (.t 11) (.k (.bool true)) (.t 14)⟩,
   ⟨none, .mov 16 (.t 15)⟩,
   ⟨some (16, false), .fad 17 1 8⟩,
   ⟨some (16, false), .load 18 17 1 false⟩,
   ⟨some (16, false), .bin 19 .eql (.t 18) (.k (.int .i64 6))⟩,
   ⟨none, .pick 20 (.t 16) (.k (.bool true)) (.t 19)⟩])
  (.cond (.t 20)
  (.seq (.reg [⟨none, .load 21 5 14 true⟩,
    ⟨none, .build 22 [.int .i64 0, .int .i64 0, .int .i64 0, .int .i64 0, .int .i64 0, .int .u64 0, .int .u64 0, .int .i64 0] []⟩,
    ⟨none, .store 2 14 (.t 21)⟩,
    ⟨none, .store 3 8 (.t 22)⟩,
    ⟨none, .mov 4 (.k (.bool false))⟩])
   (.ret))
  (.skip)))
 (.seq (.reg [⟨none, .fad 23 1 8⟩,
  ⟨none, .load 24 23 1 false⟩,
  ⟨none, .bin 25 .add (.t 24) (.k (.int .i64 1))⟩,
  ⟨none, .fad 26 5 8⟩,
  ⟨none, .store 26 1 (.t 25)⟩])
 (.seq (.reg [⟨none, .chk []⟩,
  ⟨none, .load 27 5 14 true⟩,
  ⟨none, .load 28 5 14 true⟩,
  ⟨none, .call (some 29) 201 [(.t 28)] true⟩,
  ⟨none, .store 2 14 (.t 27)⟩,
  ⟨none, .store 3 8 (.t 29)⟩,
  ⟨none, .mov 4 (.k (.bool true))⟩])
 (.ret)))))⟩
/-- spec.ClientAsk -/
def r160 : RF :=
 ⟨2, [.cell 4 14 true, .cell 5 8 true, .tmp 6],
 .seq (.reg [⟨none, .locb 2 (.t 0)⟩,
  ⟨none, .locb 3 (.t 1)⟩,
  ⟨none, .loc 4 [.int .i64 0, .int .i64 0, .int .i64 0, .nil, .bool false, .int .u64 0, .int .i64 0, .bool false, .int .i64 0, .int .i64 0, .int .i64 0, .int .u64 0, .int .u64 0, .int .i64 0]⟩,
  ⟨none, .loc 5 [.int .i64 0, .int .i64 0, .int .i64 0, .int .i64 0, .int .i64 0, .int .u64 0, .int .u64 0, .int .i64 0]⟩,
  ⟨none, .mov 6 (.k (.bool false))⟩])
 (.seq (.reg [⟨none, .load 8 2 14 true⟩,
  ⟨none, .call (some 9) 197 [(.t 8)] false⟩,
  ⟨none, .loc 7 [.int .i64 0, .int .i64 0, .int .i64 0, .nil, .bool false, .int .u64 0, .int .i64 0, .bool false, .int .i64 0, .int .i64 0, .int .i64 0, .int .u64 0, .int .u64 0, .int .i64 0]⟩,
  ⟨none, .store 7 14 (.t 9)⟩])
 (.seq (.seq (.reg [⟨none, .load 10 2 14 true⟩,
   ⟨none, .call (some 11) 78 [(.t 10)] false⟩,
   ⟨none, .not 12 (.t 11)⟩,
   ⟨none, .mov 13 (.t 12)⟩,
   ⟨some (13, false), .fad 14 2 7⟩,
   ⟨some (13, false), .load 15 14 1 false⟩,
   ⟨none, .pick 16 (.t 13) (.k (.bool true)) (.t 15)⟩,
   ⟨none, .mov 17 (.t 16)⟩,
   ⟨some (17, false), .fad 18 3 1⟩,
   ⟨some (17, false), .load 19 18 1 false⟩,
   ⟨some (17, false), .call (some 20) 5 [(.t 19), (.k (.int .i64 0)), (.k (.int .i64 8))] false⟩,
   ⟨some (17, false), .not 21 (.t 20)⟩,
   ⟨none, .pick 22 (.t 17) (.k (.bool true)) (.t 21)⟩,
   ⟨none, .mov 23 (.t 22)⟩,
   ⟨some (23, false), .fad 24 2 1⟩,
   ⟨some (23, false), .load 25 24 1 false⟩,
   ⟨some (23, false), .bin 26 .eql (.t 25) (.k (.int .i64 1000000))⟩,
   ⟨none, .pick 27 (.t 23) (.k (.bool true)) (.t 26)⟩])
  (.cond (.t 27)
  (.seq (.reg [⟨none, .load 28 7 14 true⟩,
    ⟨none, .build 29 [.int .i64 0, .int .i64 0, .int .i64 0, .int .i64 0, .int .i64 0, .int .u64 0, .int .u64 0, .int .i64 0] []⟩,
    ⟨none, .store 4 14 (.t 28)⟩,
    ⟨none, .store 5 8 (.t 29)⟩,
    ⟨none, .mov 6 (.k (.bool false))⟩])
   (.ret))
  (.skip)))
 (.seq (.reg [⟨none, .fad 30 3 0⟩,
  ⟨none, .store 30 1 (.k (.int .i64 0))⟩])
 (.seq (.reg [⟨none, .fad 31 7 7⟩,
  ⟨none, .store 31 1 (.k (.bool true))⟩])
 (.seq (.reg [⟨none, .load 32 3 5 true⟩,
  ⟨none, .fad 33 7 9⟩,
  ⟨none, .store 33 5 (.t 32)⟩])
 (.seq (.reg [⟨none, .fad 34 2 1⟩,
  ⟨none, .load 35 34 1 false⟩,
  ⟨none, .bin 36 .add (.t 35) (.k (.int .i64 1))⟩,
  ⟨none, .fad 37 7 1⟩,
  ⟨none, .store 37 1 (.t 36)⟩])
 (.seq (.reg [⟨none, .fad 38 7 8⟩,
  ⟨none, .store 38 1 (.k (.int .i64 1))⟩])
 (.seq (.reg [⟨none, .chk []⟩,
  ⟨none, .load 39 7 14 true⟩,
  ⟨none, .load 40 7 14 true⟩,
  ⟨none, .call (some 41) 201 [(.t 40)] true⟩,
  ⟨none, .store 4 14 (.t 39)⟩,
  ⟨none, .store 5 8 (.t 41)⟩,
  ⟨none, .mov 6 (.k (.bool true))⟩])
 (.ret)))))))))⟩
/-- spec.DrawRightClient -/
def r175 : RF :=
 ⟨1, [.cell 2 14 true, .cell 3 5 true, .cell 4 5 true],
 .seq (.reg [⟨none, .loc 2 [.int .i64 0, .int .i64 0, .int .i64 0, .nil, .bool false, .int .u64 0, .int .i64 0, .bool false, .int .i64 0, .int .i64 0, .int .i64 0, .int .u64 0, .int .u64 0, .int .i64 0]⟩,
  ⟨none, .loc 3 [.int .i64 0, .nil, .bool false, .int .u64 0, .int .i64 0]⟩,
  ⟨none, .loc 4 [.int .i64 0, .int .i64 0, .int .u64 0, .int .u64 0, .int .i64 0]⟩])
 (.seq (.reg [⟨none, .mov 9 (.t 0)⟩,
  ⟨none, .call (some 10) 194 [(.t 9)] false⟩,
  ⟨none, .mov 5 (.t 10)⟩])
 (.seq (.reg [⟨none, .mov 12 (.t 5)⟩,
  ⟨none, .mov 13 (.t 0)⟩,
  ⟨none, .call (some 14) 219 [(.t 12), (.t 13)] false⟩,
  ⟨none, .mov 11 (.t 14)⟩,
  ⟨none, .ext 15 (.t 11) 0⟩,
  ⟨none, .ext 16 (.t 11) 1⟩,
  ⟨none, .loc 6 [.int .i64 0, .int .i64 0, .int .i64 0, .nil, .bool false, .int .u64 0, .int .i64 0, .bool false, .int .i64 0, .int .i64 0, .int .i64 0, .int .u64 0, .int .u64 0, .int .i64 0]⟩,
  ⟨none, .loc 7 [.int .i64 0, .nil, .bool false, .int .u64 0, .int .i64 0]⟩,
  ⟨none, .store 6 14 (.t 15)⟩,
  ⟨none, .store 7 5 (.t 16)⟩])
 (.seq (.reg [⟨none, .mov 17 (.t 5)⟩,
  ⟨none, .call (some 18) 220 [(.t 17)] false⟩,
  ⟨none, .loc 8 [.int .i64 0, .int .i64 0, .int .u64 0, .int .u64 0, .int .i64 0]⟩,
  ⟨none, .store 8 5 (.t 18)⟩])
 (.seq (.seq (.reg [⟨none, .fad 19 8 1⟩,
   ⟨none, .load 20 19 1 false⟩,
   ⟨none, .call (some 21) 5 [(.t 20), (.k (.int .i64 0)), (.k (.int .i64 8))] false⟩,
   ⟨none, .not 22 (.t 21)⟩])
  (.cond (.t 22)
  (.reg [⟨none, .fad 23 8 1⟩,
   ⟨none, .store 23 1 (.k (.int .i64 8))⟩])
  (.skip)))
 (.seq (.reg [⟨none, .chk []⟩,
  ⟨none, .own [2, 3]⟩,
  ⟨none, .load 24 6 14 true⟩,
  ⟨none, .load 25 7 5 true⟩,
  ⟨none, .load 26 8 5 true⟩,
  ⟨none, .lst 2 14 (.t 24)⟩,
  ⟨none, .lst 3 5 (.t 25)⟩,
  ⟨none, .store 4 5 (.t 26)⟩])
 (.ret))))))⟩
/-- spec.l16Copy -/
def r197 : RF :=
 ⟨1, [.cell 2 14 true],
 .seq (.reg [⟨none, .locb 1 (.t 0)⟩,
  ⟨none, .loc 2 [.int .i64 0, .int .i64 0, .int .i64 0, .nil, .bool false, .int .u64 0, .int .i64 0, .bool false, .int .i64 0, .int .i64 0, .int .i64 0, .int .u64 0, .int .u64 0, .int .i64 0]⟩])
 (.seq (.reg [⟨none, .fad 3 1 2⟩,
  ⟨none, .load 4 3 5 true⟩,
  ⟨none, .call (some 5) 115 [(.t 4)] false⟩,
  ⟨none, .fad 6 1 2⟩,
  ⟨none, .store 6 5 (.t 5)⟩])
 (.seq (.reg [⟨none, .load 7 1 14 true⟩,
  ⟨none, .store 2 14 (.t 7)⟩])
 (.ret)))⟩
/-- spec.l16Free -/
def r198 : RF :=
 ⟨1, [.cell 2 14 true],
 .seq (.reg [⟨none, .locb 1 (.t 0)⟩,
  ⟨none, .loc 2 [.int .i64 0, .int .i64 0, .int .i64 0, .nil, .bool false, .int .u64 0, .int .i64 0, .bool false, .int .i64 0, .int .i64 0, .int .i64 0, .int .u64 0, .int .u64 0, .int .i64 0]⟩])
 (.seq (.reg [⟨none, .fad 3 1 7⟩,
  ⟨none, .store 3 1 (.k (.bool false))⟩])
 (.seq (.reg [⟨none, .fad 4 1 8⟩,
  ⟨none, .store 4 1 (.k (.int .i64 0))⟩])
 (.seq (.reg [⟨none, .build 5 [.int .i64 0, .int .i64 0, .int .u64 0, .int .u64 0, .int .i64 0] []⟩,
  ⟨none, .fad 6 1 9⟩,
  ⟨none, .store 6 5 (.t 5)⟩])
 (.seq (.reg [⟨none, .load 7 1 14 true⟩,
  ⟨none, .store 2 14 (.t 7)⟩])
 (.ret)))))⟩
/-- spec.l16Msg -/
def r201 : RF :=
 ⟨1, [.cell 2 8 true],
 .seq (.reg [⟨none, .locb 1 (.t 0)⟩,
  ⟨none, .loc 2 [.int .i64 0, .int .i64 0, .int .i64 0, .int .i64 0, .int .i64 0, .int .u64 0, .int .u64 0, .int .i64 0]⟩])
 (.seq (.reg [⟨none, .fad 7 1 2⟩,
  ⟨none, .load 8 7 5 true⟩,
  ⟨none, .fad 9 1 9⟩,
  ⟨none, .fad 10 9 2⟩,
  ⟨none, .load 11 10 1 false⟩,
  ⟨none, .call (some 12) 69 [(.t 8), (.t 11)] false⟩,
  ⟨none, .mov 6 (.t 12)⟩,
  ⟨none, .ext 13 (.t 6) 0⟩,
  ⟨none, .ext 14 (.t 6) 1⟩,
  ⟨none, .mov 3 (.t 13)⟩,
  ⟨none, .mov 4 (.t 14)⟩])
 (.seq (.reg [⟨none, .fad 15 1 9⟩,
  ⟨none, .load 16 15 5 true⟩,
  ⟨none, .loc 5 [.int .i64 0, .int .i64 0, .int .u64 0, .int .u64 0, .int .i64 0]⟩,
  ⟨none, .store 5 5 (.t 16)⟩])
 (.seq (.reg [⟨none, .mov 17 (.t 4)⟩,
  ⟨none, .fad 18 5 0⟩,
  ⟨none, .store 18 1 (.t 17)⟩])
 (.seq (.reg [⟨none, .fad 19 1 0⟩,
  ⟨none, .load 20 19 1 false⟩,
  ⟨none, .fad 21 1 1⟩,
  ⟨none, .load 22 21 1 false⟩,
  ⟨none, .mov 23 (.t 3)⟩,
  ⟨none, .load 24 5 5 true⟩,
  ⟨none, .build 25 [.int .i64 0, .int .i64 0, .int .i64 0, .int .i64 0, .int .i64 0, .int .u64 0, .int .u64 0, .int .i64 0] [(0, 1, (.t 20)), (1, 1, (.t 22)), (2, 1, (.t 23)), (3, 5, (.t 24))]⟩,
  ⟨none, .store 2 8 (.t 25)⟩])
 (.ret)))))⟩
/-- A loop of spec.l16DrawRight. -/
def r219L0 : RC :=
 .seq (.seq (.reg [⟨none, .mov 29 (.t 10)⟩,
      ⟨none, .bin 30 .gtr (.t 29) (.k (.int .i64 0))⟩])
     (.cond (.t 30)
     (.skip)
     (.exit 0)))
    (.seq (.block 1 (.seq (.reg [⟨none, .mov 33 (.t 0)⟩,
       ⟨none, .call (some 34) 236 [(.t 33), (.k (.int .i64 4))] false⟩])
      (.block 2 (.seq (.seq (.reg [⟨none, .bin 45 .eql (.t 34) (.k (.int .i64 0))⟩,
         ⟨none, .mov 44 (.t 45)⟩])
        (.cond (.t 44)
        (.skip)
        (.reg [⟨none, .bin 46 .eql (.t 34) (.k (.int .i64 1))⟩,
         ⟨none, .mov 44 (.t 46)⟩])))
       (.cond (.t 44)
       (.reg [⟨none, .chk []⟩,
        ⟨none, .mov 49 (.t 0)⟩,
        ⟨none, .lld 48 9 14 true⟩,
        ⟨none, .call (some 50) 220 [(.t 49)] false⟩,
        ⟨none, .call (some 51) 160 [(.t 48), (.t 50)] true⟩,
        ⟨none, .mov 47 (.t 51)⟩,
        ⟨none, .ext 52 (.t 47) 0⟩,
        ⟨none, .ext 53 (.t 47) 1⟩,
        ⟨none, .ext 54 (.t 47) 2⟩,
        ⟨none, .store 9 14 (.t 52)⟩])
       (.seq (.reg [⟨none, .bin 56 .eql (.t 34) (.k (.int .i64 2))⟩,
         ⟨none, .mov 55 (.t 56)⟩])
        (.cond (.t 55)
        (.reg [⟨none, .load 58 9 14 true⟩,
         ⟨none, .call (some 59) 150 [(.t 58)] false⟩,
         ⟨none, .mov 57 (.t 59)⟩,
         ⟨none, .ext 60 (.t 57) 0⟩,
         ⟨none, .ext 61 (.t 57) 1⟩,
         ⟨none, .ext 62 (.t 57) 2⟩,
         ⟨none, .store 9 14 (.t 60)⟩])
        (.reg [⟨none, .chk []⟩,
         ⟨none, .mov 37 (.t 0)⟩,
         ⟨none, .lld 36 9 14 true⟩,
         ⟨none, .load 38 9 14 true⟩,
         ⟨none, .load 39 7 5 true⟩,
         ⟨none, .call (some 40) 252 [(.t 37), (.t 38), (.t 39)] false⟩,
         ⟨none, .call (some 41) 253 [(.t 36), (.t 40)] true⟩,
         ⟨none, .mov 35 (.t 41)⟩,
         ⟨none, .ext 42 (.t 35) 0⟩,
         ⟨none, .ext 43 (.t 35) 1⟩,
         ⟨none, .store 9 14 (.t 42)⟩]))))))))
    (.reg [⟨none, .mov 31 (.t 10)⟩,
    ⟨none, .bin 32 .sub (.t 31) (.k (.int .i64 1))⟩,
    ⟨none, .mov 10 (.t 32)⟩]))
/-- spec.l16DrawRight -/
def r219 : RF :=
 ⟨2, [.cell 4 14 true, .cell 5 5 true],
 .seq (.reg [⟨none, .loc 4 [.int .i64 0, .int .i64 0, .int .i64 0, .nil, .bool false, .int .u64 0, .int .i64 0, .bool false, .int .i64 0, .int .i64 0, .int .i64 0, .int .u64 0, .int .u64 0, .int .i64 0]⟩,
  ⟨none, .loc 5 [.int .i64 0, .nil, .bool false, .int .u64 0, .int .i64 0]⟩])
 (.seq (.reg [⟨none, .mov 11 (.t 0)⟩,
  ⟨none, .mov 12 (.t 1)⟩,
  ⟨none, .call (some 13) 225 [(.t 11), (.t 12)] false⟩,
  ⟨none, .loc 6 [.int .i64 0, .nil, .bool false, .int .u64 0, .int .i64 0]⟩,
  ⟨none, .store 6 5 (.t 13)⟩])
 (.seq (.reg [⟨none, .chk [7]⟩,
  ⟨none, .loc 7 [.int .i64 0, .nil, .bool false, .int .u64 0, .int .i64 0]⟩,
  ⟨none, .mov 16 (.t 0)⟩,
  ⟨none, .mov 17 (.t 1)⟩,
  ⟨none, .lld 15 6 5 true⟩,
  ⟨none, .call (some 18) 226 [(.t 16), (.t 17)] false⟩,
  ⟨none, .call (some 19) 187 [(.t 15), (.t 18)] true⟩,
  ⟨none, .mov 14 (.t 19)⟩,
  ⟨none, .ext 20 (.t 14) 0⟩,
  ⟨none, .ext 21 (.t 14) 1⟩,
  ⟨none, .store 7 5 (.t 20)⟩,
  ⟨none, .mov 8 (.t 21)⟩])
 (.seq (.reg [⟨none, .chk [9]⟩,
  ⟨none, .loc 9 [.int .i64 0, .int .i64 0, .int .i64 0, .nil, .bool false, .int .u64 0, .int .i64 0, .bool false, .int .i64 0, .int .i64 0, .int .i64 0, .int .u64 0, .int .u64 0, .int .i64 0]⟩,
  ⟨none, .mov 22 (.t 0)⟩,
  ⟨none, .lld 25 6 5 true⟩,
  ⟨none, .call (some 23) 236 [(.t 22), (.k (.int .i64 9))] false⟩,
  ⟨none, .bin 24 .add (.k (.int .i64 1)) (.t 23)⟩,
  ⟨none, .call (some 26) 92 [(.t 24), (.t 25)] true⟩,
  ⟨none, .store 9 14 (.t 26)⟩])
 (.seq (.seq (.reg [⟨none, .mov 27 (.t 0)⟩,
   ⟨none, .call (some 28) 236 [(.t 27), (.k (.int .i64 8))] false⟩,
   ⟨none, .mov 10 (.t 28)⟩])
  (.block 0 (.loop [0, 4, 5, 7, 9, 10]
   r219L0)))
 (.seq (.reg [⟨none, .chk []⟩,
  ⟨none, .own [4]⟩,
  ⟨none, .load 63 9 14 true⟩,
  ⟨none, .load 64 7 5 true⟩,
  ⟨none, .lst 4 14 (.t 63)⟩,
  ⟨none, .store 5 5 (.t 64)⟩])
 (.ret))))))⟩
/-- spec.l16DrawRequest -/
def r220 : RF :=
 ⟨1, [.cell 2 5 true],
 .seq (.reg [⟨none, .loc 2 [.int .i64 0, .int .i64 0, .int .u64 0, .int .u64 0, .int .i64 0]⟩])
 (.seq (.reg [⟨none, .mov 4 (.t 0)⟩,
  ⟨none, .mov 5 (.t 0)⟩,
  ⟨none, .call (some 6) 236 [(.t 5), (.k (.int .i64 11))] false⟩,
  ⟨none, .bin 7 .sub (.t 6) (.k (.int .i64 1))⟩,
  ⟨none, .lit 8 15 6 [.int .i64 0] [(0, (.k (.int .i64 0))), (1, (.k (.int .i64 2))), (2, (.k (.int .i64 3))), (3, (.k (.int .i64 8))), (4, (.k (.int .i64 4))), (5, (.t 7))]⟩,
  ⟨none, .call (some 9) 239 [(.t 4), (.t 8)] false⟩,
  ⟨none, .mov 10 (.t 0)⟩,
  ⟨none, .call (some 11) 235 [(.t 10)] false⟩,
  ⟨none, .mov 12 (.t 0)⟩,
  ⟨none, .call (some 13) 236 [(.t 12), (.k (.int .i64 3))] false⟩,
  ⟨none, .build 14 [.int .i64 0, .int .i64 0, .int .u64 0, .int .u64 0, .int .i64 0] [(1, 1, (.t 9)), (2, 1, (.t 11)), (4, 1, (.t 13))]⟩,
  ⟨none, .loc 3 [.int .i64 0, .int .i64 0, .int .u64 0, .int .u64 0, .int .i64 0]⟩,
  ⟨none, .store 3 5 (.t 14)⟩])
 (.seq (.reg [⟨none, .mov 15 (.t 0)⟩,
  ⟨none, .call (some 16) 237 [(.t 15)] false⟩,
  ⟨none, .fad 17 3 3⟩,
  ⟨none, .store 17 1 (.t 16)⟩])
 (.seq (.reg [⟨none, .mov 18 (.t 0)⟩,
  ⟨none, .call (some 19) 236 [(.t 18), (.k (.int .i64 2))] false⟩,
  ⟨none, .fad 20 3 0⟩,
  ⟨none, .store 20 1 (.t 19)⟩])
 (.seq (.reg [⟨none, .load 21 3 5 true⟩,
  ⟨none, .store 2 5 (.t 21)⟩])
 (.ret)))))⟩
/-- spec.l16DrawReply -/
def r252 : RF :=
 ⟨3, [.cell 6 9 true],
 .seq (.reg [⟨none, .locb 4 (.t 1)⟩,
  ⟨none, .locb 5 (.t 2)⟩,
  ⟨none, .loc 6 [.int .i64 0, .int .i64 0, .int .i64 0, .int .u64 0, .int .i64 0, .nil, .bool false, .int .u64 0, .int .i64 0]⟩])
 (.seq (.reg [⟨none, .chk [7]⟩,
  ⟨none, .loc 7 [.int .i64 0, .int .i64 0, .int .i64 0, .int .u64 0, .int .i64 0, .nil, .bool false, .int .u64 0, .int .i64 0]⟩,
  ⟨none, .mov 12 (.t 0)⟩,
  ⟨none, .mov 15 (.t 0)⟩,
  ⟨none, .fad 8 4 0⟩,
  ⟨none, .lld 9 8 1 false⟩,
  ⟨none, .fad 10 4 1⟩,
  ⟨none, .lld 11 10 1 false⟩,
  ⟨none, .lit 13 15 10 [.int .i64 0] [(0, (.k (.int .i64 0))), (1, (.k (.int .i64 0))), (2, (.k (.int .i64 0))), (3, (.k (.int .i64 2))), (4, (.k (.int .i64 4))), (5, (.k (.int .i64 8))), (6, (.k (.int .i64 9))), (7, (.k (.int .i64 10))), (8, (.k (.int .i64 11))), (9, (.k (.int .i64 (-1))))]⟩,
  ⟨none, .call (some 14) 239 [(.t 12), (.t 13)] false⟩,
  ⟨none, .call (some 16) 237 [(.t 15)] false⟩,
  ⟨none, .build 17 [.int .i64 0, .int .i64 0, .int .i64 0, .int .u64 0, .int .i64 0, .nil, .bool false, .int .u64 0, .int .i64 0] [(0, 1, (.t 9)), (1, 1, (.t 11)), (2, 1, (.t 14)), (3, 1, (.t 16))]⟩,
  ⟨none, .store 7 9 (.t 17)⟩])
 (.seq (.seq (.reg [⟨none, .mov 18 (.t 0)⟩,
   ⟨none, .call (some 19) 240 [(.t 18), (.k (.int .i64 2))] false⟩])
  (.cond (.t 19)
  (.reg [⟨none, .load 20 5 5 true⟩,
   ⟨none, .fad 21 7 4⟩,
   ⟨none, .store 21 5 (.t 20)⟩])
  (.skip)))
 (.seq (.seq (.reg [⟨none, .mov 22 (.t 0)⟩,
   ⟨none, .call (some 23) 236 [(.t 22), (.k (.int .i64 10))] false⟩])
  (.block 0 (.seq (.reg [⟨none, .bin 25 .eql (.t 23) (.k (.int .i64 0))⟩,
    ⟨none, .mov 24 (.t 25)⟩])
   (.cond (.t 24)
   (.reg [⟨none, .fad 26 7 0⟩,
    ⟨none, .load 27 26 1 false⟩,
    ⟨none, .bin 28 .add (.t 27) (.k (.int .i64 1))⟩,
    ⟨none, .fad 29 7 0⟩,
    ⟨none, .store 29 1 (.t 28)⟩])
   (.seq (.reg [⟨none, .bin 31 .eql (.t 23) (.k (.int .i64 1))⟩,
     ⟨none, .mov 30 (.t 31)⟩])
    (.cond (.t 30)
    (.reg [⟨none, .fad 32 7 1⟩,
     ⟨none, .load 33 32 1 false⟩,
     ⟨none, .bin 34 .sub (.t 33) (.k (.int .i64 1))⟩,
     ⟨none, .fad 35 7 1⟩,
     ⟨none, .store 35 1 (.t 34)⟩])
    (.skip)))))))
 (.seq (.reg [⟨none, .load 36 7 9 true⟩,
  ⟨none, .store 6 9 (.t 36)⟩])
 (.ret)))))⟩
/-- spec.ClientHear -/
def r253 : RF :=
 ⟨2, [.cell 4 14 true, .tmp 5],
 .seq (.reg [⟨none, .locb 2 (.t 0)⟩,
  ⟨none, .locb 3 (.t 1)⟩,
  ⟨none, .loc 4 [.int .i64 0, .int .i64 0, .int .i64 0, .nil, .bool false, .int .u64 0, .int .i64 0, .bool false, .int .i64 0, .int .i64 0, .int .i64 0, .int .u64 0, .int .u64 0, .int .i64 0]⟩,
  ⟨none, .mov 5 (.k (.int .i64 0))⟩])
 (.seq (.reg [⟨none, .load 7 2 14 true⟩,
  ⟨none, .call (some 8) 197 [(.t 7)] false⟩,
  ⟨none, .loc 6 [.int .i64 0, .int .i64 0, .int .i64 0, .nil, .bool false, .int .u64 0, .int .i64 0, .bool false, .int .i64 0, .int .i64 0, .int .i64 0, .int .u64 0, .int .u64 0, .int .i64 0]⟩,
  ⟨none, .store 6 14 (.t 8)⟩])
 (.seq (.seq (.reg [⟨none, .load 9 2 14 true⟩,
   ⟨none, .call (some 10) 78 [(.t 9)] false⟩,
   ⟨none, .not 11 (.t 10)⟩])
  (.cond (.t 11)
  (.seq (.reg [⟨none, .load 12 6 14 true⟩,
    ⟨none, .store 4 14 (.t 12)⟩,
    ⟨none, .mov 5 (.k (.int .i64 (-3)))⟩])
   (.ret))
  (.skip)))
 (.seq (.seq (.reg [⟨none, .fad 13 3 4⟩,
   ⟨none, .load 14 13 5 true⟩,
   ⟨none, .call (some 15) 103 [(.t 14)] false⟩,
   ⟨none, .mov 16 (.t 15)⟩,
   ⟨some (16, true), .fad 17 3 4⟩,
   ⟨some (16, true), .fad 18 17 0⟩,
   ⟨some (16, true), .load 19 18 1 false⟩,
   ⟨some (16, true), .fad 20 2 2⟩,
   ⟨some (16, true), .fad 21 20 0⟩,
   ⟨some (16, true), .load 22 21 1 false⟩,
   ⟨some (16, true), .bin 23 .gtr (.t 19) (.t 22)⟩,
   ⟨none, .pick 24 (.t 16) (.t 23) (.k (.bool false))⟩])
  (.cond (.t 24)
  (.reg [⟨none, .fad 25 3 4⟩,
   ⟨none, .load 26 25 5 true⟩,
   ⟨none, .call (some 27) 115 [(.t 26)] false⟩,
   ⟨none, .fad 28 6 2⟩,
   ⟨none, .store 28 5 (.t 27)⟩])
  (.skip)))
 (.seq (.seq (.reg [⟨none, .fad 29 3 0⟩,
   ⟨none, .load 30 29 1 false⟩,
   ⟨none, .fad 31 2 0⟩,
   ⟨none, .load 32 31 1 false⟩,
   ⟨none, .bin 33 .neq (.t 30) (.t 32)⟩,
   ⟨none, .mov 34 (.t 33)⟩,
   ⟨some (34, false), .fad 35 2 7⟩,
   ⟨some (34, false), .load 36 35 1 false⟩,
   ⟨some (34, false), .not 37 (.t 36)⟩,
   ⟨none, .pick 38 (.t 34) (.k (.bool true)) (.t 37)⟩,
   ⟨none, .mov 39 (.t 38)⟩,
   ⟨some (39, false), .fad 40 3 1⟩,
   ⟨some (39, false), .load 41 40 1 false⟩,
   ⟨some (39, false), .fad 42 2 1⟩,
   ⟨some (39, false), .load 43 42 1 false⟩,
   ⟨some (39, false), .bin 44 .neq (.t 41) (.t 43)⟩,
   ⟨none, .pick 45 (.t 39) (.k (.bool true)) (.t 44)⟩])
  (.cond (.t 45)
  (.seq (.reg [⟨none, .load 46 6 14 true⟩,
    ⟨none, .store 4 14 (.t 46)⟩,
    ⟨none, .mov 5 (.k (.int .i64 (-2)))⟩])
   (.ret))
  (.skip)))
 (.seq (.seq (.reg [⟨none, .fad 47 3 2⟩,
   ⟨none, .load 48 47 1 false⟩,
   ⟨none, .call (some 49) 5 [(.t 48), (.k (.int .i64 8)), (.k (.int .i64 10))] false⟩])
  (.cond (.t 49)
  (.seq (.reg [⟨none, .load 50 6 14 true⟩,
    ⟨none, .store 4 14 (.t 50)⟩,
    ⟨none, .mov 5 (.k (.int .i64 (-1)))⟩])
   (.ret))
  (.skip)))
 (.seq (.seq (.reg [⟨none, .fad 51 3 2⟩,
   ⟨none, .load 52 51 1 false⟩,
   ⟨none, .bin 53 .lss (.t 52) (.k (.int .i64 0))⟩])
  (.cond (.t 53)
  (.seq (.reg [⟨none, .load 54 6 14 true⟩,
    ⟨none, .call (some 55) 198 [(.t 54)] false⟩,
    ⟨none, .store 4 14 (.t 55)⟩,
    ⟨none, .mov 5 (.k (.int .i64 11))⟩])
   (.ret))
  (.skip)))
 (.seq (.reg [⟨none, .chk []⟩,
  ⟨none, .own [4]⟩,
  ⟨none, .load 56 6 14 true⟩,
  ⟨none, .fad 58 3 2⟩,
  ⟨none, .load 59 58 1 false⟩,
  ⟨none, .call (some 57) 198 [(.t 56)] true⟩,
  ⟨none, .lst 4 14 (.t 57)⟩,
  ⟨none, .mov 5 (.t 59)⟩])
 (.ret))))))))⟩
/-- The functions of this text, with their numbers. -/
def tS16 : List (Nat × RF) := [(78, r78), (89, r89), (92, r92), (147, r147), (150, r150), (160, r160), (175, r175), (197, r197), (198, r198), (201, r201), (219, r219), (220, r220), (252, r252), (253, r253)]
end Go.Proofs.Ytlbagejkjkfkjaa.A
/- The compact code of some functions: laws.FnClient. -/
namespace Go.Proofs.Ytlbagejkjkfkjaa.A
open Go
/-- A loop of laws.FnClient. -/
def r174L0 : RC :=
 .seq (.seq (.reg [⟨none, .mov 109 (.t 9)⟩,
      ⟨none, .bin 110 .lss (.t 109) (.k (.int .i64 6))⟩])
     (.cond (.t 110)
     (.skip)
     (.exit 0)))
    (.seq (.block 1 (.seq (.reg [⟨none, .load 114 6 14 true⟩,
       ⟨none, .call (some 115) 151 [(.t 114)] false⟩,
       ⟨none, .mov 113 (.t 115)⟩,
       ⟨none, .ext 116 (.t 113) 0⟩,
       ⟨none, .ext 117 (.t 113) 1⟩,
       ⟨none, .ext 118 (.t 113) 2⟩,
       ⟨none, .loc 10 [.int .i64 0, .int .i64 0, .int .i64 0, .nil, .bool false, .int .u64 0, .int .i64 0, .bool false, .int .i64 0, .int .i64 0, .int .i64 0, .int .u64 0, .int .u64 0, .int .i64 0]⟩,
       ⟨none, .loc 11 [.int .i64 0, .int .i64 0, .int .i64 0, .int .i64 0, .int .i64 0, .int .u64 0, .int .u64 0, .int .i64 0]⟩,
       ⟨none, .store 10 14 (.t 116)⟩,
       ⟨none, .store 11 8 (.t 117)⟩,
       ⟨none, .mov 12 (.t 118)⟩])
      (.seq (.seq (.reg [⟨none, .mov 119 (.t 12)⟩,
        ⟨none, .not 120 (.t 119)⟩,
        ⟨none, .mov 121 (.t 120)⟩,
        ⟨some (121, false), .load 122 11 8 true⟩,
        ⟨some (121, false), .load 123 7 8 true⟩,
        ⟨some (121, false), .eqs 124 true [.i .i64, .i .i64, .i .i64, .i .i64, .i .i64, .i .u64, .i .u64, .i .i64] (.t 122) (.t 123)⟩,
        ⟨none, .pick 125 (.t 121) (.k (.bool true)) (.t 124)⟩,
        ⟨none, .mov 126 (.t 125)⟩,
        ⟨some (126, false), .load 127 10 14 true⟩,
        ⟨some (126, false), .call (some 128) 79 [(.t 127)] false⟩,
        ⟨some (126, false), .not 129 (.t 128)⟩,
        ⟨none, .pick 130 (.t 126) (.k (.bool true)) (.t 129)⟩])
       (.cond (.t 130)
       (.seq (.reg [⟨none, .mov 2 (.k (.bool false))⟩])
        (.ret))
       (.skip)))
      (.reg [⟨none, .load 131 10 14 true⟩,
      ⟨none, .store 6 14 (.t 131)⟩]))))
    (.reg [⟨none, .mov 111 (.t 9)⟩,
    ⟨none, .bin 112 .add (.t 111) (.k (.int .i64 1))⟩,
    ⟨none, .mov 9 (.t 112)⟩]))
/-- laws.FnClient -/
def r174 : RF :=
 ⟨1, [.tmp 2],
 .seq (.reg [⟨none, .mov 2 (.k (.bool false))⟩])
 (.seq (.seq (.reg [⟨none, .mov 28 (.t 0)⟩,
   ⟨none, .call (some 29) 144 [(.t 28)] false⟩])
  (.cond (.t 29)
  (.seq (.reg [⟨none, .mov 2 (.k (.bool true))⟩])
   (.ret))
  (.skip)))
 (.seq (.reg [⟨none, .mov 31 (.t 0)⟩,
  ⟨none, .call (some 32) 175 [(.t 31)] false⟩,
  ⟨none, .mov 30 (.t 32)⟩,
  ⟨none, .ext 33 (.t 30) 0⟩,
  ⟨none, .ext 34 (.t 30) 1⟩,
  ⟨none, .ext 35 (.t 30) 2⟩,
  ⟨none, .loc 3 [.int .i64 0, .int .i64 0, .int .i64 0, .nil, .bool false, .int .u64 0, .int .i64 0, .bool false, .int .i64 0, .int .i64 0, .int .i64 0, .int .u64 0, .int .u64 0, .int .i64 0]⟩,
  ⟨none, .loc 4 [.int .i64 0, .nil, .bool false, .int .u64 0, .int .i64 0]⟩,
  ⟨none, .loc 5 [.int .i64 0, .int .i64 0, .int .u64 0, .int .u64 0, .int .i64 0]⟩,
  ⟨none, .store 3 14 (.t 33)⟩,
  ⟨none, .store 4 5 (.t 34)⟩,
  ⟨none, .store 5 5 (.t 35)⟩])
 (.seq (.reg [⟨none, .load 37 3 14 true⟩,
  ⟨none, .call (some 38) 147 [(.t 37)] false⟩,
  ⟨none, .mov 36 (.t 38)⟩,
  ⟨none, .ext 39 (.t 36) 0⟩,
  ⟨none, .ext 40 (.t 36) 1⟩,
  ⟨none, .store 3 14 (.t 39)⟩])
 (.seq (.reg [⟨none, .load 42 3 14 true⟩,
  ⟨none, .load 43 5 5 true⟩,
  ⟨none, .call (some 44) 161 [(.t 42), (.t 43)] false⟩,
  ⟨none, .mov 41 (.t 44)⟩,
  ⟨none, .ext 45 (.t 41) 0⟩,
  ⟨none, .ext 46 (.t 41) 1⟩,
  ⟨none, .ext 47 (.t 41) 2⟩,
  ⟨none, .loc 6 [.int .i64 0, .int .i64 0, .int .i64 0, .nil, .bool false, .int .u64 0, .int .i64 0, .bool false, .int .i64 0, .int .i64 0, .int .i64 0, .int .u64 0, .int .u64 0, .int .i64 0]⟩,
  ⟨none, .loc 7 [.int .i64 0, .int .i64 0, .int .i64 0, .int .i64 0, .int .i64 0, .int .u64 0, .int .u64 0, .int .i64 0]⟩,
  ⟨none, .store 6 14 (.t 45)⟩,
  ⟨none, .store 7 8 (.t 46)⟩,
  ⟨none, .mov 8 (.t 47)⟩])
 (.seq (.seq (.reg [⟨none, .chk []⟩,
   ⟨none, .load 48 3 14 true⟩,
   ⟨none, .call (some 49) 79 [(.t 48)] true⟩,
   ⟨none, .not 50 (.t 49)⟩,
   ⟨none, .mov 51 (.t 50)⟩,
   ⟨some (51, false), .mov 52 (.t 8)⟩,
   ⟨some (51, false), .not 53 (.t 52)⟩,
   ⟨none, .pick 54 (.t 51) (.k (.bool true)) (.t 53)⟩,
   ⟨none, .mov 55 (.t 54)⟩,
   ⟨some (55, false), .load 56 6 14 true⟩,
   ⟨some (55, false), .call (some 57) 79 [(.t 56)] true⟩,
   ⟨some (55, false), .not 58 (.t 57)⟩,
   ⟨none, .pick 59 (.t 55) (.k (.bool true)) (.t 58)⟩,
   ⟨none, .mov 60 (.t 59)⟩,
   ⟨some (60, false), .fad 61 7 0⟩,
   ⟨some (60, false), .load 62 61 1 false⟩,
   ⟨some (60, false), .fad 63 3 0⟩,
   ⟨some (60, false), .load 64 63 1 false⟩,
   ⟨some (60, false), .bin 65 .neq (.t 62) (.t 64)⟩,
   ⟨none, .pick 66 (.t 60) (.k (.bool true)) (.t 65)⟩,
   ⟨none, .mov 67 (.t 66)⟩,
   ⟨some (67, false), .fad 68 7 1⟩,
   ⟨some (67, false), .load 69 68 1 false⟩,
   ⟨some (67, false), .fad 70 3 1⟩,
   ⟨some (67, false), .load 71 70 1 false⟩,
   ⟨some (67, false), .bin 72 .add (.t 71) (.k (.int .i64 1))⟩,
   ⟨some (67, false), .bin 73 .neq (.t 69) (.t 72)⟩,
   ⟨none, .pick 74 (.t 67) (.k (.bool true)) (.t 73)⟩,
   ⟨none, .mov 75 (.t 74)⟩,
   ⟨some (75, false), .fad 76 7 2⟩,
   ⟨some (75, false), .load 77 76 1 false⟩,
   ⟨some (75, false), .load 78 3 14 true⟩,
   ⟨some (75, false), .fad 79 5 2⟩,
   ⟨some (75, false), .load 80 79 1 false⟩,
   ⟨some (75, false), .call (some 81) 90 [(.t 78), (.t 80)] true⟩,
   ⟨some (75, false), .bin 82 .neq (.t 77) (.t 81)⟩,
   ⟨none, .pick 83 (.t 75) (.k (.bool true)) (.t 82)⟩,
   ⟨none, .mov 84 (.t 83)⟩,
   ⟨some (84, false), .fad 85 7 3⟩,
   ⟨some (84, false), .fad 86 85 1⟩,
   ⟨some (84, false), .load 87 86 1 false⟩,
   ⟨some (84, false), .fad 88 5 1⟩,
   ⟨some (84, false), .load 89 88 1 false⟩,
   ⟨some (84, false), .bin 90 .neq (.t 87) (.t 89)⟩,
   ⟨none, .pick 91 (.t 84) (.k (.bool true)) (.t 90)⟩,
   ⟨none, .mov 92 (.t 91)⟩,
   ⟨some (92, false), .fad 93 7 3⟩,
   ⟨some (92, false), .fad 94 93 2⟩,
   ⟨some (92, false), .load 95 94 1 false⟩,
   ⟨some (92, false), .fad 96 5 2⟩,
   ⟨some (92, false), .load 97 96 1 false⟩,
   ⟨some (92, false), .bin 98 .neq (.t 95) (.t 97)⟩,
   ⟨none, .pick 99 (.t 92) (.k (.bool true)) (.t 98)⟩,
   ⟨none, .mov 100 (.t 99)⟩,
   ⟨some (100, false), .fad 101 7 3⟩,
   ⟨some (100, false), .fad 102 101 0⟩,
   ⟨some (100, false), .load 103 102 1 false⟩,
   ⟨some (100, false), .fad 104 3 2⟩,
   ⟨some (100, false), .fad 105 104 0⟩,
   ⟨some (100, false), .load 106 105 1 false⟩,
   ⟨some (100, false), .bin 107 .neq (.t 103) (.t 106)⟩,
   ⟨none, .pick 108 (.t 100) (.k (.bool true)) (.t 107)⟩])
  (.cond (.t 108)
  (.seq (.reg [⟨none, .mov 2 (.k (.bool false))⟩])
   (.ret))
  (.skip)))
 (.seq (.seq (.reg [⟨none, .mov 9 (.k (.int .i64 1))⟩])
  (.block 0 (.loop [0, 3, 4, 5, 6, 7, 9]
   r174L0)))
 (.seq (.seq (.reg [⟨none, .load 133 6 14 true⟩,
   ⟨none, .call (some 134) 151 [(.t 133)] false⟩,
   ⟨none, .mov 132 (.t 134)⟩,
   ⟨none, .ext 135 (.t 132) 0⟩,
   ⟨none, .ext 136 (.t 132) 1⟩,
   ⟨none, .ext 137 (.t 132) 2⟩,
   ⟨none, .loc 13 [.int .i64 0, .int .i64 0, .int .i64 0, .nil, .bool false, .int .u64 0, .int .i64 0, .bool false, .int .i64 0, .int .i64 0, .int .i64 0, .int .u64 0, .int .u64 0, .int .i64 0]⟩,
   ⟨none, .loc 14 [.int .i64 0, .int .i64 0, .int .i64 0, .int .i64 0, .int .i64 0, .int .u64 0, .int .u64 0, .int .i64 0]⟩,
   ⟨none, .store 13 14 (.t 135)⟩,
   ⟨none, .store 14 8 (.t 136)⟩,
   ⟨none, .mov 15 (.t 137)⟩])
  (.seq (.reg [⟨none, .mov 138 (.t 15)⟩])
  (.cond (.t 138)
  (.seq (.reg [⟨none, .mov 2 (.k (.bool false))⟩])
   (.ret))
  (.skip))))
 (.seq (.seq (.reg [⟨none, .load 140 6 14 true⟩,
   ⟨none, .load 141 5 5 true⟩,
   ⟨none, .call (some 142) 161 [(.t 140), (.t 141)] false⟩,
   ⟨none, .mov 139 (.t 142)⟩,
   ⟨none, .ext 143 (.t 139) 0⟩,
   ⟨none, .ext 144 (.t 139) 1⟩,
   ⟨none, .ext 145 (.t 139) 2⟩,
   ⟨none, .loc 16 [.int .i64 0, .int .i64 0, .int .i64 0, .nil, .bool false, .int .u64 0, .int .i64 0, .bool false, .int .i64 0, .int .i64 0, .int .i64 0, .int .u64 0, .int .u64 0, .int .i64 0]⟩,
   ⟨none, .loc 17 [.int .i64 0, .int .i64 0, .int .i64 0, .int .i64 0, .int .i64 0, .int .u64 0, .int .u64 0, .int .i64 0]⟩,
   ⟨none, .store 16 14 (.t 143)⟩,
   ⟨none, .store 17 8 (.t 144)⟩,
   ⟨none, .mov 18 (.t 145)⟩])
  (.seq (.reg [⟨none, .mov 146 (.t 18)⟩])
  (.cond (.t 146)
  (.seq (.reg [⟨none, .mov 2 (.k (.bool false))⟩])
   (.ret))
  (.skip))))
 (.seq (.reg [⟨none, .load 148 6 14 true⟩,
  ⟨none, .fad 149 3 0⟩,
  ⟨none, .load 150 149 1 false⟩,
  ⟨none, .fad 151 7 1⟩,
  ⟨none, .load 152 151 1 false⟩,
  ⟨none, .bin 153 .sub (.t 152) (.k (.int .i64 1))⟩,
  ⟨none, .build 154 [.int .i64 0, .int .i64 0, .int .i64 0, .int .u64 0, .int .i64 0, .nil, .bool false, .int .u64 0, .int .i64 0] [(0, 1, (.t 150)), (1, 1, (.t 153))]⟩,
  ⟨none, .call (some 155) 176 [(.t 148), (.t 154)] false⟩,
  ⟨none, .mov 147 (.t 155)⟩,
  ⟨none, .ext 156 (.t 147) 0⟩,
  ⟨none, .ext 157 (.t 147) 1⟩,
  ⟨none, .loc 19 [.int .i64 0, .int .i64 0, .int .i64 0, .nil, .bool false, .int .u64 0, .int .i64 0, .bool false, .int .i64 0, .int .i64 0, .int .i64 0, .int .u64 0, .int .u64 0, .int .i64 0]⟩,
  ⟨none, .store 19 14 (.t 156)⟩,
  ⟨none, .mov 20 (.t 157)⟩])
 (.seq (.reg [⟨none, .chk [21]⟩,
  ⟨none, .loc 21 [.int .i64 0, .int .i64 0, .int .i64 0, .nil, .bool false, .int .u64 0, .int .i64 0, .bool false, .int .i64 0, .int .i64 0, .int .i64 0, .int .u64 0, .int .u64 0, .int .i64 0]⟩,
  ⟨none, .mov 164 (.t 0)⟩,
  ⟨none, .load 159 6 14 true⟩,
  ⟨none, .fad 160 3 0⟩,
  ⟨none, .load 161 160 1 false⟩,
  ⟨none, .fad 162 7 1⟩,
  ⟨none, .load 163 162 1 false⟩,
  ⟨none, .load 168 4 5 true⟩,
  ⟨none, .call (some 165) 177 [(.t 164), (.k (.int .i64 3))] true⟩,
  ⟨none, .bin 166 .rem (.t 165) (.k (.int .i64 3))⟩,
  ⟨none, .bin 167 .add (.k (.int .i64 8)) (.t 166)⟩,
  ⟨none, .build 169 [.int .i64 0, .int .i64 0, .int .i64 0, .int .u64 0, .int .i64 0, .nil, .bool false, .int .u64 0, .int .i64 0] [(0, 1, (.t 161)), (1, 1, (.t 163)), (2, 1, (.t 167)), (4, 5, (.t 168))]⟩,
  ⟨none, .call (some 170) 176 [(.t 159), (.t 169)] true⟩,
  ⟨none, .mov 158 (.t 170)⟩,
  ⟨none, .ext 171 (.t 158) 0⟩,
  ⟨none, .ext 172 (.t 158) 1⟩,
  ⟨none, .store 21 14 (.t 171)⟩,
  ⟨none, .mov 22 (.t 172)⟩])
 (.seq (.seq (.reg [⟨none, .mov 173 (.t 20)⟩,
   ⟨none, .bin 174 .neq (.t 173) (.k (.int .i64 (-2)))⟩,
   ⟨none, .mov 175 (.t 174)⟩,
   ⟨some (175, false), .fad 176 19 7⟩,
   ⟨some (175, false), .load 177 176 1 false⟩,
   ⟨some (175, false), .not 178 (.t 177)⟩,
   ⟨none, .pick 179 (.t 175) (.k (.bool true)) (.t 178)⟩,
   ⟨none, .mov 180 (.t 179)⟩,
   ⟨some (180, false), .mov 181 (.t 22)⟩,
   ⟨some (180, false), .bin 182 .neq (.t 181) (.k (.int .i64 (-1)))⟩,
   ⟨none, .pick 183 (.t 180) (.k (.bool true)) (.t 182)⟩,
   ⟨none, .mov 184 (.t 183)⟩,
   ⟨some (184, false), .fad 185 21 7⟩,
   ⟨some (184, false), .load 186 185 1 false⟩,
   ⟨some (184, false), .not 187 (.t 186)⟩,
   ⟨none, .pick 188 (.t 184) (.k (.bool true)) (.t 187)⟩,
   ⟨none, .mov 189 (.t 188)⟩,
   ⟨some (189, false), .fad 190 21 1⟩,
   ⟨some (189, false), .load 191 190 1 false⟩,
   ⟨some (189, false), .fad 192 6 1⟩,
   ⟨some (189, false), .load 193 192 1 false⟩,
   ⟨some (189, false), .bin 194 .neq (.t 191) (.t 193)⟩,
   ⟨none, .pick 195 (.t 189) (.k (.bool true)) (.t 194)⟩,
   ⟨none, .mov 196 (.t 195)⟩,
   ⟨some (196, false), .fad 197 21 2⟩,
   ⟨some (196, false), .fad 198 197 0⟩,
   ⟨some (196, false), .load 199 198 1 false⟩,
   ⟨some (196, false), .fad 200 3 2⟩,
   ⟨some (196, false), .fad 201 200 0⟩,
   ⟨some (196, false), .load 202 201 1 false⟩,
   ⟨some (196, false), .bin 203 .lss (.t 199) (.t 202)⟩,
   ⟨none, .pick 204 (.t 196) (.k (.bool true)) (.t 203)⟩,
   ⟨none, .mov 205 (.t 204)⟩,
   ⟨some (205, false), .fad 206 21 2⟩,
   ⟨some (205, false), .fad 207 206 0⟩,
   ⟨some (205, false), .load 208 207 1 false⟩,
   ⟨some (205, false), .fad 209 4 0⟩,
   ⟨some (205, false), .load 210 209 1 false⟩,
   ⟨some (205, false), .bin 211 .lss (.t 208) (.t 210)⟩,
   ⟨none, .pick 212 (.t 205) (.k (.bool true)) (.t 211)⟩])
  (.cond (.t 212)
  (.seq (.reg [⟨none, .mov 2 (.k (.bool false))⟩])
   (.ret))
  (.skip)))
 (.seq (.seq (.reg [⟨none, .fad 213 4 0⟩,
   ⟨none, .load 214 213 1 false⟩,
   ⟨none, .fad 215 3 2⟩,
   ⟨none, .fad 216 215 0⟩,
   ⟨none, .load 217 216 1 false⟩,
   ⟨none, .bin 218 .gtr (.t 214) (.t 217)⟩,
   ⟨none, .fad 219 21 2⟩,
   ⟨none, .fad 220 219 0⟩,
   ⟨none, .load 221 220 1 false⟩,
   ⟨none, .fad 222 3 2⟩,
   ⟨none, .fad 223 222 0⟩,
   ⟨none, .load 224 223 1 false⟩,
   ⟨none, .bin 225 .gtr (.t 221) (.t 224)⟩,
   ⟨none, .beq 226 true (.t 218) (.t 225)⟩])
  (.cond (.t 226)
  (.seq (.reg [⟨none, .mov 2 (.k (.bool false))⟩])
   (.ret))
  (.skip)))
 (.seq (.reg [⟨none, .chk [23]⟩,
  ⟨none, .loc 23 [.int .i64 0, .int .i64 0, .int .i64 0, .nil, .bool false, .int .u64 0, .int .i64 0, .bool false, .int .i64 0, .int .i64 0, .int .i64 0, .int .u64 0, .int .u64 0, .int .i64 0]⟩,
  ⟨none, .mov 233 (.t 0)⟩,
  ⟨none, .load 228 21 14 true⟩,
  ⟨none, .fad 229 3 0⟩,
  ⟨none, .load 230 229 1 false⟩,
  ⟨none, .fad 231 7 1⟩,
  ⟨none, .load 232 231 1 false⟩,
  ⟨none, .call (some 234) 177 [(.t 233), (.k (.int .i64 4))] true⟩,
  ⟨none, .bin 235 .rem (.t 234) (.k (.int .i64 8))⟩,
  ⟨none, .build 236 [.int .i64 0, .int .i64 0, .int .i64 0, .int .u64 0, .int .i64 0, .nil, .bool false, .int .u64 0, .int .i64 0] [(0, 1, (.t 230)), (1, 1, (.t 232)), (2, 1, (.t 235))]⟩,
  ⟨none, .call (some 237) 176 [(.t 228), (.t 236)] true⟩,
  ⟨none, .mov 227 (.t 237)⟩,
  ⟨none, .ext 238 (.t 227) 0⟩,
  ⟨none, .ext 239 (.t 227) 1⟩,
  ⟨none, .store 23 14 (.t 238)⟩,
  ⟨none, .mov 24 (.t 239)⟩])
 (.seq (.reg [⟨none, .load 241 23 14 true⟩,
  ⟨none, .load 242 5 5 true⟩,
  ⟨none, .call (some 243) 161 [(.t 241), (.t 242)] false⟩,
  ⟨none, .mov 240 (.t 243)⟩,
  ⟨none, .ext 244 (.t 240) 0⟩,
  ⟨none, .ext 245 (.t 240) 1⟩,
  ⟨none, .ext 246 (.t 240) 2⟩,
  ⟨none, .loc 25 [.int .i64 0, .int .i64 0, .int .i64 0, .nil, .bool false, .int .u64 0, .int .i64 0, .bool false, .int .i64 0, .int .i64 0, .int .i64 0, .int .u64 0, .int .u64 0, .int .i64 0]⟩,
  ⟨none, .loc 26 [.int .i64 0, .int .i64 0, .int .i64 0, .int .i64 0, .int .i64 0, .int .u64 0, .int .u64 0, .int .i64 0]⟩,
  ⟨none, .store 25 14 (.t 244)⟩,
  ⟨none, .store 26 8 (.t 245)⟩,
  ⟨none, .mov 27 (.t 246)⟩])
 (.seq (.reg [⟨none, .chk []⟩,
  ⟨none, .mov 247 (.t 24)⟩,
  ⟨none, .mov 248 (.t 0)⟩,
  ⟨none, .call (some 249) 177 [(.t 248), (.k (.int .i64 4))] true⟩,
  ⟨none, .bin 250 .rem (.t 249) (.k (.int .i64 8))⟩,
  ⟨none, .bin 251 .eql (.t 247) (.t 250)⟩,
  ⟨none, .mov 252 (.t 251)⟩,
  ⟨some (252, true), .fad 253 23 7⟩,
  ⟨some (252, true), .load 254 253 1 false⟩,
  ⟨some (252, true), .not 255 (.t 254)⟩,
  ⟨none, .pick 256 (.t 252) (.t 255) (.k (.bool false))⟩,
  ⟨none, .mov 257 (.t 256)⟩,
  ⟨some (257, true), .load 258 23 14 true⟩,
  ⟨some (257, true), .call (some 259) 79 [(.t 258)] true⟩,
  ⟨none, .pick 260 (.t 257) (.t 259) (.k (.bool false))⟩,
  ⟨none, .mov 261 (.t 260)⟩,
  ⟨some (261, true), .mov 262 (.t 27)⟩,
  ⟨none, .pick 263 (.t 261) (.t 262) (.k (.bool false))⟩,
  ⟨none, .mov 264 (.t 263)⟩,
  ⟨some (264, true), .fad 265 26 1⟩,
  ⟨some (264, true), .load 266 265 1 false⟩,
  ⟨some (264, true), .fad 267 7 1⟩,
  ⟨some (264, true), .load 268 267 1 false⟩,
  ⟨some (264, true), .bin 269 .add (.t 268) (.k (.int .i64 1))⟩,
  ⟨some (264, true), .bin 270 .eql (.t 266) (.t 269)⟩,
  ⟨none, .pick 271 (.t 264) (.t 270) (.k (.bool false))⟩,
  ⟨none, .mov 272 (.t 271)⟩,
  ⟨some (272, true), .fad 273 25 7⟩,
  ⟨some (272, true), .load 274 273 1 false⟩,
  ⟨none, .pick 275 (.t 272) (.t 274) (.k (.bool false))⟩,
  ⟨none, .mov 276 (.t 275)⟩,
  ⟨some (276, true), .fad 277 26 2⟩,
  ⟨some (276, true), .load 278 277 1 false⟩,
  ⟨some (276, true), .load 279 23 14 true⟩,
  ⟨some (276, true), .fad 280 5 2⟩,
  ⟨some (276, true), .load 281 280 1 false⟩,
  ⟨some (276, true), .call (some 282) 90 [(.t 279), (.t 281)] true⟩,
  ⟨some (276, true), .bin 283 .eql (.t 278) (.t 282)⟩,
  ⟨none, .pick 284 (.t 276) (.t 283) (.k (.bool false))⟩,
  ⟨none, .mov 2 (.t 284)⟩])
 (.ret))))))))))))))))⟩
/-- The functions of this text, with their numbers. -/
def tWFnClient : List (Nat × RF) := [(174, r174)]
end Go.Proofs.Ytlbagejkjkfkjaa.A
/- Small functions of bounds that many use. -/
namespace Go.Proofs.Ytlbagejkjkfkjaa.A
open Go
set_option linter.unusedSimpArgs false
set_option linter.unusedVariables false
/-- A table's functions are those of F. -/
abbrev Has (F : Nat → Option RF) (t : List (Nat × RF)) : Prop := AllT (fun x => F x.1 = some x.2) t
def inR (x lo hi : Int) : Bool := decide (lo ≤ x) && decide (x ≤ hi)
section
variable {F : Nat → Option RF} {Z : CallF}
theorem isGroupId_run (hI11 : Has F tI11) (n : Int) (h : Heap) :
    call F Z 7 [.c (.int .i64 n)] h = some (.c (.bool (inR n 0 99)), h) := by
  rw [call_run F Z (hI11.lk (g := 7) rfl) _ _ rfl]
  simp only [run0, run1, run2, run3, run4, noSlot, ownS, ownK, memN, RO.dst, lk, drop, forget, number, Nat.reduceBEq, cut?, splice?, builds, List.length_cons, List.length_nil, List.drop_succ_cons, List.drop_zero, List.take_succ_cons, List.take_zero, List.cons_append, List.nil_append, List.append_nil, List.drop_nil, List.take_nil, Nat.reduceAdd, Nat.reduceLeDiff, Nat.zero_add, Nat.add_zero, ↓reduceIte, Bool.not_true, Bool.not_false, decide_true, decide_false, eq_self, bne_self_eq_false, List.getElem?_cons_zero, List.getElem?_cons_succ, decide_eq_true_eq, Bool.false_eq_true, Bool.true_eq_false, reduceCtorEq, Nat.le_refl]
  (repeat' ((first | (rw [gF_if]; split) | (rw [condC_if]; split) | (rw [pickR_if]; split)) <;> (rename_i hh; (try simp only [Bool.not_eq_true, decide_eq_true_eq] at hh); simp only [hh, run0, run1, run2, run3, run4, noSlot, ownS, ownK, memN, RO.dst, lk, drop, forget, number, Nat.reduceBEq, cut?, splice?, builds, List.length_cons, List.length_nil, List.drop_succ_cons, List.drop_zero, List.take_succ_cons, List.take_zero, List.cons_append, List.nil_append, List.append_nil, List.drop_nil, List.take_nil, Nat.reduceAdd, Nat.reduceLeDiff, Nat.zero_add, Nat.add_zero, ↓reduceIte, Bool.not_true, Bool.not_false, decide_true, decide_false, eq_self, bne_self_eq_false, List.getElem?_cons_zero, List.getElem?_cons_succ, decide_eq_true_eq, Bool.false_eq_true, Bool.true_eq_false, reduceCtorEq, Nat.le_refl]))) <;> simp [inR, *]
theorem l01In_run (hS : Has F tS01d) (n lo hi : Int) (h : Heap) :
    call F Z 5 [.c (.int .i64 n), .c (.int .i64 lo), .c (.int .i64 hi)] h = some (.c (.bool (inR n lo hi)), h) := by
  rw [call_run F Z (hS.lk (g := 5) rfl) _ _ rfl]
  simp only [run0, run1, run2, run3, run4, noSlot, ownS, ownK, memN, RO.dst, lk, drop, forget, number, Nat.reduceBEq, cut?, splice?, builds, List.length_cons, List.length_nil, List.drop_succ_cons, List.drop_zero, List.take_succ_cons, List.take_zero, List.cons_append, List.nil_append, List.append_nil, List.drop_nil, List.take_nil, Nat.reduceAdd, Nat.reduceLeDiff, Nat.zero_add, Nat.add_zero, ↓reduceIte, Bool.not_true, Bool.not_false, decide_true, decide_false, eq_self, bne_self_eq_false, List.getElem?_cons_zero, List.getElem?_cons_succ, decide_eq_true_eq, Bool.false_eq_true, Bool.true_eq_false, reduceCtorEq, Nat.le_refl]
  (repeat' ((first | (rw [gF_if]; split) | (rw [condC_if]; split) | (rw [pickR_if]; split)) <;> (rename_i hh; (try simp only [Bool.not_eq_true, decide_eq_true_eq] at hh); simp only [hh, run0, run1, run2, run3, run4, noSlot, ownS, ownK, memN, RO.dst, lk, drop, forget, number, Nat.reduceBEq, cut?, splice?, builds, List.length_cons, List.length_nil, List.drop_succ_cons, List.drop_zero, List.take_succ_cons, List.take_zero, List.cons_append, List.nil_append, List.append_nil, List.drop_nil, List.take_nil, Nat.reduceAdd, Nat.reduceLeDiff, Nat.zero_add, Nat.add_zero, ↓reduceIte, Bool.not_true, Bool.not_false, decide_true, decide_false, eq_self, bne_self_eq_false, List.getElem?_cons_zero, List.getElem?_cons_succ, decide_eq_true_eq, Bool.false_eq_true, Bool.true_eq_false, reduceCtorEq, Nat.le_refl]))) <;> simp [inR, *]
end
end Go.Proofs.Ytlbagejkjkfkjaa.A
/- Slices that show data: relations between cells of a heap and data, with their footprints; loops by their turns. -/
namespace Go.Proofs.Ytlbagejkjkfkjaa.A
open Go
set_option linter.unusedSimpArgs false
set_option linter.unusedVariables false

/-! ### numbers -/
theorem wrapI (z : Int) (h1 : -9223372036854775808 ≤ z) (h2 : z ≤ 9223372036854775807) : IntKind.i64.wrap z = z := by
  show (if (true && decide (z % 18446744073709551616 ≥ 9223372036854775808)) = true then z % 18446744073709551616 - 18446744073709551616 else z % 18446744073709551616) = z
  simp only [Bool.true_and, decide_eq_true_eq]
  split <;> omega
theorem wrapU (z : Int) (h1 : 0 ≤ z) (h2 : z ≤ 18446744073709551615) : IntKind.u64.wrap z = z := by
  show (if (false && decide (z % 18446744073709551616 ≥ 9223372036854775808)) = true then z % 18446744073709551616 - 18446744073709551616 else z % 18446744073709551616) = z
  rw [if_neg (by simp)]
  omega
theorem wrapS (i : Nat) (h : i < 9223372036854775807) : IntKind.i64.wrap ((i : Int) + 1) = ((i + 1 : Nat) : Int) := by rw [wrapI _ (by omega) (by omega)]; rfl

/-! ### cells that show data -/
/-- Cells of a heap show data; the rows that they lie in. -/
abbrev Rel (α : Type) := Heap → List Cell → α → List Nat → Prop
structure RelOk {α : Type} (R : Rel α) : Prop where
  lt : ∀ {h cs a fp}, R h cs a fp → ∀ id, id ∈ fp → id < h.next
  mv : ∀ {h h' cs a fp}, R h cs a fp → h.next ≤ h'.next → (∀ id, id ∈ fp → h'.get id = h.get id) → R h' cs a fp
def Fl {α : Type} (enc : α → List Cell) : Rel α := fun _ cs a fp => cs = enc a ∧ fp = []
theorem Fl.ok {α : Type} (enc : α → List Cell) : RelOk (Fl enc) where
  lt := by rintro h cs a fp ⟨rfl, rfl⟩ id hid; cases hid
  mv := fun e _ _ => e
def AllR {α : Type} (R : Rel α) (h : Heap) : List (List Cell) → List α → List (List Nat) → Prop
  | [], [], [] => True
  | r :: rs, a :: bs, f :: fs => R h r a f ∧ AllR R h rs bs fs
  | _, _, _ => False
def Cell.sid : Cell → Nat
  | .sl _ id _ _ => id
  | _ => 0
/-- A cell shows a list. -/
def SlR {α : Type} (tag : Nat) (R : Rel α) (h : Heap) (x : Cell) (xs : List α) (fp : List Nat) : Prop :=
  xs.length ≤ maxLen ∧ ((x = .nil ∧ xs = [] ∧ fp = []) ∨ ∃ id rows fps, x = .sl tag id 0 xs.length ∧ h.get id = some rows ∧ id < h.next ∧ fp = id :: fps.flatten ∧ AllR R h rows xs fps)

section
variable {α : Type} {R : Rel α} {h h' : Heap}
theorem AllR.len : ∀ {rows : List (List Cell)} {xs : List α} {fps : List (List Nat)}, AllR R h rows xs fps → rows.length = xs.length
  | [], [], [], _ => rfl
  | _ :: _, _ :: _, _ :: _, ⟨_, w⟩ => by simp only [List.length_cons, AllR.len w]
  | [], [], _ :: _, w => w.elim
  | [], _ :: _, _, w => w.elim
  | _ :: _, [], _, w => w.elim
  | _ :: _, _ :: _, [], w => w.elim
theorem AllR.at : ∀ {rows : List (List Cell)} {xs : List α} {fps : List (List Nat)}, AllR R h rows xs fps → ∀ (i : Nat) (hi : i < xs.length), ∃ r f, rows[i]? = some r ∧ fps[i]? = some f ∧ R h r xs[i] f
  | [], [], [], _ => fun i hi => absurd hi (Nat.not_lt_zero _)
  | r :: _, _ :: _, f :: _, ⟨w1, w⟩ => fun i hi => by
    cases i with
    | zero => exact ⟨r, f, rfl, rfl, w1⟩
    | succ i => exact AllR.at w i (by simpa using hi)
  | [], [], _ :: _, w => w.elim
  | [], _ :: _, _, w => w.elim
  | _ :: _, [], _, w => w.elim
  | _ :: _, _ :: _, [], w => w.elim
theorem AllR.mv (ok : RelOk R) : ∀ {rows : List (List Cell)} {xs : List α} {fps : List (List Nat)}, AllR R h rows xs fps → h.next ≤ h'.next → (∀ id, id ∈ fps.flatten → h'.get id = h.get id) → AllR R h' rows xs fps
  | [], [], [], _ => fun _ _ => trivial
  | _ :: _, _ :: _, _ :: _, ⟨w1, w⟩ => fun hn hg => ⟨ok.mv w1 hn fun id hid => hg id (by simp [hid]), w.mv ok hn fun id hid => hg id (by rw [List.flatten_cons]; exact List.mem_append_right _ hid)⟩
  | [], [], _ :: _, w => w.elim
  | [], _ :: _, _, w => w.elim
  | _ :: _, [], _, w => w.elim
  | _ :: _, _ :: _, [], w => w.elim
theorem AllR.lt (ok : RelOk R) : ∀ {rows : List (List Cell)} {xs : List α} {fps : List (List Nat)}, AllR R h rows xs fps → ∀ id, id ∈ fps.flatten → id < h.next
  | [], [], [], _ => fun id hid => by simp at hid
  | _ :: _, _ :: _, _ :: _, ⟨w1, w⟩ => fun id hid => by
    rw [List.flatten_cons] at hid
    rcases List.mem_append.1 hid with hid | hid
    · exact ok.lt w1 id hid
    · exact w.lt ok id hid
  | [], [], _ :: _, w => w.elim
  | [], _ :: _, _, w => w.elim
  | _ :: _, [], _, w => w.elim
  | _ :: _, _ :: _, [], w => w.elim
theorem AllR.flat {enc : α → List Cell} : ∀ {rows : List (List Cell)} {xs : List α} {fps : List (List Nat)}, AllR (Fl enc) h rows xs fps → rows = xs.map enc ∧ fps.flatten = []
  | [], [], [], _ => ⟨rfl, rfl⟩
  | _ :: _, _ :: _, _ :: _, ⟨⟨rfl, rfl⟩, w⟩ => ⟨by rw [w.flat.1]; rfl, by rw [List.flatten_cons, w.flat.2]; rfl⟩
  | [], [], _ :: _, w => w.elim
  | [], _ :: _, _, w => w.elim
  | _ :: _, [], _, w => w.elim
  | _ :: _, _ :: _, [], w => w.elim
theorem AllR.ofFlat {enc : α → List Cell} : ∀ (xs : List α), AllR (Fl enc) h (xs.map enc) xs (xs.map fun _ => [])
  | [] => trivial
  | _ :: r => ⟨⟨rfl, rfl⟩, AllR.ofFlat r⟩
variable {tag : Nat} {x : Cell} {xs : List α} {fp : List Nat}
theorem SlR.le (w : SlR tag R h x xs fp) : xs.length ≤ maxLen := w.1
theorem SlR.le2 (w : SlR tag R h x xs fp) : xs.length ≤ 9223372036854775807 := by have := w.1; unfold maxLen at this; omega
theorem SlR.lt (ok : RelOk R) (w : SlR tag R h x xs fp) : ∀ id, id ∈ fp → id < h.next := by
  rcases w with ⟨_, ⟨_, _, rfl⟩ | ⟨id, rows, fps, _, _, h1, rfl, h2⟩⟩
  · intro id hid; cases hid
  · intro i hi
    rcases List.mem_cons.1 hi with rfl | hi
    · exact h1
    · exact h2.lt ok i hi
theorem SlR.mv (ok : RelOk R) (w : SlR tag R h x xs fp) (hn : h.next ≤ h'.next) (hg : ∀ id, id ∈ fp → h'.get id = h.get id) : SlR tag R h' x xs fp := by
  rcases w with ⟨hl, ⟨h1, h2, rfl⟩ | ⟨id, rows, fps, h1, h2, h3, rfl, h4⟩⟩
  · exact ⟨hl, .inl ⟨h1, h2, rfl⟩⟩
  · exact ⟨hl, .inr ⟨id, rows, fps, h1, (hg id (by simp)).trans h2, Nat.lt_of_lt_of_le h3 hn, rfl, h4.mv ok hn fun i hi => hg i (by simp [hi])⟩⟩
theorem SlR.mono (ok : RelOk R) (w : SlR tag R h x xs fp) (hx : HExt h h') : SlR tag R h' x xs fp := w.mv ok hx.1 fun id hid => hx.2 id (w.lt ok id hid)
theorem RelOk.mono (ok : RelOk R) {cs : List Cell} {a : α} (w : R h cs a fp) (hx : HExt h h') : R h' cs a fp := ok.mv w hx.1 fun id hid => hx.2 id (ok.lt w id hid)
theorem SlR.len (w : SlR tag R h x xs fp) : lenR (some x) = some (.int .i64 (xs.length : Nat)) := by
  rcases w with ⟨_, ⟨rfl, rfl, _⟩ | ⟨id, rows, fps, rfl, _⟩⟩ <;> rfl
theorem SlR.idx (w : SlR tag R h x xs fp) {i : Nat} (hi : i < xs.length) : idxR tag (some x) (some (i : Int)) = some (.ptr x.sid i 0) := by
  rcases w with ⟨_, ⟨rfl, rfl, _⟩ | ⟨id, rows, fps, rfl, _⟩⟩
  · exact absurd hi (Nat.not_lt_zero _)
  · rw [idxR_s, if_pos (by omega)]; simp [Cell.sid]
theorem SlR.row (w : SlR tag R h x xs fp) {i : Nat} (hi : i < xs.length) : ∃ r f, rowOf h x.sid i = some r ∧ R h r xs[i] f ∧ ∀ id, id ∈ f → id ∈ fp := by
  rcases w with ⟨_, ⟨rfl, rfl, _⟩ | ⟨id, rows, fps, rfl, h1, _, rfl, h2⟩⟩
  · exact absurd hi (Nat.not_lt_zero _)
  · obtain ⟨r, f, q1, q2, q3⟩ := h2.at i hi
    refine ⟨r, f, by simp [rowOf, Cell.sid, h1, q1], q3, fun id hid => List.mem_cons_of_mem _ (List.mem_flatten.2 ⟨f, List.mem_of_getElem? q2, hid⟩)⟩
theorem SlR.flat {enc : α → List Cell} (w : SlR tag (Fl enc) h x xs fp) : (x = .nil ∧ xs = [] ∧ fp = []) ∨ x = .sl tag x.sid 0 xs.length ∧ h.get x.sid = some (xs.map enc) ∧ x.sid < h.next ∧ fp = [x.sid] := by
  rcases w with ⟨_, h0 | ⟨id, rows, fps, rfl, h1, h2, rfl, h3⟩⟩
  · exact .inl h0
  · obtain ⟨rfl, h4⟩ := h3.flat
    exact .inr ⟨rfl, h1, h2, by rw [h4]; rfl⟩
theorem SlR.ofFlat {enc : α → List Cell} (hl : xs.length ≤ maxLen) {id : Nat} (h1 : h.get id = some (xs.map enc)) (h2 : id < h.next) : SlR tag (Fl enc) h (.sl tag id 0 xs.length) xs [id] :=
  ⟨hl, .inr ⟨id, _, _, rfl, h1, h2, by simp, AllR.ofFlat xs⟩⟩
theorem SlR.nil (tag : Nat) (R : Rel α) (h : Heap) : SlR tag R h .nil [] [] := ⟨Nat.zero_le _, .inl ⟨rfl, rfl, rfl⟩⟩
theorem SlR.load {enc : α → List Cell} (w : SlR tag (Fl enc) h x xs fp) {i : Nat} (hi : i < xs.length) (j n : Nat) : loadP h x.sid i j n = cut? (enc xs[i]) j n := by
  obtain ⟨r, f, h1, ⟨rfl, _⟩, _⟩ := w.row hi
  simp [loadP, h1]
theorem SlR.loadD {enc : α → List Cell} (w : SlR tag (Fl enc) h x xs fp) (d : α) {i : Nat} (hi : i < xs.length) (j n : Nat) : loadP h x.sid i j n = cut? (enc (xs[i]?.getD d)) j n := by
  rw [w.load hi, List.getElem?_eq_getElem hi]; rfl
theorem SlR.rows {enc : α → List Cell} (w : SlR tag (Fl enc) h x xs fp) : rowsOf h x = some (xs.map enc) := by
  rcases w.flat with ⟨rfl, rfl, _⟩ | ⟨h1, h2, _⟩
  · rfl
  · rw [h1]; simp only [rowsOf]; rw [h2]; simp [List.take_of_length_le]
theorem SlR.isTag (w : SlR tag R h x xs fp) : A.isTag tag x = true := by
  rcases w with ⟨_, ⟨rfl, rfl, _⟩ | ⟨id, rows, fps, rfl, _⟩⟩ <;> simp [A.isTag]
theorem AllR.ofWf {A : α → Prop} {W : List Cell → Prop} (hr : ∀ r, W r → ∃ a f, R h r a f ∧ A a) : ∀ (rows : List (List Cell)), (∀ r, r ∈ rows → W r) → ∃ xs fps, AllR R h rows xs fps ∧ ∀ a, a ∈ xs → A a
  | [], _ => ⟨[], [], trivial, fun _ h => nomatch h⟩
  | r :: rs, w => by
    obtain ⟨a, f, h1, h2⟩ := hr r (w r (by simp))
    obtain ⟨bs, fs, h3, h4⟩ := AllR.ofWf hr rs fun r hr => w r (by simp [hr])
    exact ⟨a :: bs, f :: fs, ⟨h1, h3⟩, fun b hb => by (rcases List.mem_cons.1 hb with rfl | hb); exact h2; exact h4 b hb⟩
theorem SlR.ofWf {A : α → Prop} {n sz : Nat} {e : Sh} (hr : ∀ r, r.length = sz ∧ Wf h n e r → ∃ a f, R h r a f ∧ A a) (w : Wf h (n + 1) (.slice tag sz e) [x]) : ∃ xs fp, SlR tag R h x xs fp ∧ ∀ a, a ∈ xs → A a := by
  rcases w with w | ⟨id, rows, h1, h2, h3, h4, h5⟩
  · cases w; exact ⟨[], [], SlR.nil _ _ _, fun _ h => nomatch h⟩
  · cases h1
    obtain ⟨xs, fps, q1, q2⟩ := AllR.ofWf hr rows h5
    exact ⟨xs, _, ⟨q1.len ▸ h4, .inr ⟨id, rows, fps, by rw [q1.len], h3, h2, rfl, q1⟩⟩, q2⟩
end

/-! ### the heap -/
theorem push_put (h : Heap) (a b : List (List Cell)) : (h.push a).put h.next b = h.push b := by
  simp only [Heap.push, Heap.put]
  congr 1; funext i; split <;> rfl
theorem push_get (h : Heap) (a : List (List Cell)) : (h.push a).get h.next = some a := by simp [Heap.push]
theorem push_next (h : Heap) (a : List (List Cell)) : (h.push a).next = h.next + 1 := rfl
theorem push_floor (h : Heap) (a : List (List Cell)) : (h.push a).floor = h.floor := rfl
theorem put_put (h : Heap) (id : Nat) (a b : List (List Cell)) : (h.put id a).put id b = h.put id b := by
  simp only [Heap.put]
  congr 1; funext i; split <;> rfl
theorem push_kill (h : Heap) (a : List (List Cell)) : (h.push a).kill h.next = { h with next := h.next + 1, get := fun i => if i = h.next then none else h.get i } := by
  simp only [Heap.push, Heap.kill]
  congr 1; funext i; split <;> rfl

theorem storeP_push {h : Heap} {rows : List (List Cell)} (hf : h.floor ≤ h.next) {i : Nat} {old new : List Cell} (h1 : rows[i]? = some old) (h2 : new.length = old.length) : storeP (h.push rows) h.next i 0 new = some (h.push (rows.set i new)) := by
  simp only [storeP, push_floor, push_get]
  rw [if_pos hf]
  simp only [Option.bind_some, h1, splice?, List.take_zero, List.nil_append, Nat.zero_add]
  rw [if_pos (by omega), h2, List.drop_length]
  simp only [List.append_nil, Option.bind_some, push_put]
/-- A store into a row that may be written. -/
theorem storeP_at {h : Heap} {id : Nat} {rows : List (List Cell)} (hf : h.floor ≤ id) (hr : h.get id = some rows) {i j : Nat} {old new r : List Cell} (h1 : rows[i]? = some old) (h2 : splice? old j new = some r) : storeP h id i j new = some (h.put id (rows.set i r)) := by
  simp only [storeP]
  rw [if_pos hf, hr]
  simp only [Option.bind_some, h1, h2]
theorem HExt.fl {h h' : Heap} (hx : HExt h h') (hf : h'.floor = h.floor) (h0 : h.floor ≤ h.next) : h'.floor ≤ h'.next := by rw [hf]; exact Nat.le_trans h0 hx.1

/-- The heap goes on: what was there is there. -/
structure On (h h' : Heap) : Prop where
  ext : HExt h h'
  fl : h'.floor = h.floor
theorem On.refl (h : Heap) : On h h := ⟨HExt.refl h, rfl⟩
theorem On.trans {a b c : Heap} (p : On a b) (q : On b c) : On a c := ⟨p.ext.trans q.ext, q.fl.trans p.fl⟩
theorem On.push (h : Heap) (rows : List (List Cell)) : On h (h.push rows) := ⟨HExt.push h rows, rfl⟩
theorem On.le {h h' : Heap} (o : On h h') (hf : h.floor ≤ h.next) : h'.floor ≤ h'.next := o.ext.fl o.fl hf
/-- Rows that were made behind h, each named once. -/
structure Fre (h : Heap) (fp : List Nat) : Prop where
  lo : ∀ id, id ∈ fp → h.next ≤ id
  nd : fp.Nodup
theorem Fre.one (h : Heap) : Fre h [h.next] := ⟨fun id hid => by simp at hid; omega, by simp⟩
theorem Fre.nil (h : Heap) : Fre h [] := ⟨fun id hid => (nomatch hid), List.nodup_nil⟩
theorem RelOk.on {α : Type} {R : Rel α} (ok : RelOk R) {h h' : Heap} {cs : List Cell} {a : α} {fp : List Nat} (w : R h cs a fp) (o : On h h') : R h' cs a fp := ok.mono w o.ext
theorem SlR.on {α : Type} {R : Rel α} {tag : Nat} {h h' : Heap} {x : Cell} {xs : List α} {fp : List Nat} (w : SlR tag R h x xs fp) (ok : RelOk R) (o : On h h') : SlR tag R h' x xs fp := w.mono ok o.ext

/-! ### rows that are filled one by one -/
def fillR {α : Type} (f : α → List Cell) (z : List Cell) (xs : List α) (i : Nat) : List (List Cell) := (xs.take i).map f ++ List.replicate (xs.length - i) z
theorem fillR_0 {α : Type} (f : α → List Cell) (z : List Cell) (xs : List α) : fillR f z xs 0 = List.replicate xs.length z := by simp [fillR]
theorem fillR_n {α : Type} (f : α → List Cell) (z : List Cell) (xs : List α) : fillR f z xs xs.length = xs.map f := by simp [fillR]
theorem fillR_get {α : Type} (f : α → List Cell) (z : List Cell) (xs : List α) {i : Nat} (hi : i < xs.length) : (fillR f z xs i)[i]? = some z := by
  simp only [fillR]
  rw [List.getElem?_append_right (by simp; omega)]
  rw [List.getElem?_replicate, if_pos]
  simp only [List.length_map, List.length_take]; omega
theorem fillR_set {α : Type} (f : α → List Cell) (z : List Cell) (xs : List α) {i : Nat} (hi : i < xs.length) : (fillR f z xs i).set i (f xs[i]) = fillR f z xs (i + 1) := by
  simp only [fillR]
  rw [List.set_append_right _ _ (by simp; omega), show i - ((xs.take i).map f).length = 0 from by simp; omega, show xs.length - i = (xs.length - (i + 1)) + 1 from by omega, List.replicate_succ, List.set_cons_zero,
    show xs.take (i + 1) = xs.take i ++ [xs[i]] from by rw [List.take_add_one, List.getElem?_eq_getElem hi]; rfl, List.map_append, List.append_assoc]
  rfl

/-! ### rows that are turned one by one, in place -/
def putM (h : Heap) (id : Nat) (rows : List (List Cell)) (i : Nat) : Option (List Cell) → Option Heap
  | some r => some (h.put id (rows.set i r))
  | none => none
theorem putM_s (h : Heap) (id : Nat) (rows : List (List Cell)) (i : Nat) (r : List Cell) : putM h id rows i (some r) = some (h.put id (rows.set i r)) := rfl
theorem storeP_put {h : Heap} {id : Nat} (hf : h.floor ≤ id) {rows : List (List Cell)} {i : Nat} (hi : i < rows.length) (old new : List Cell) (j : Nat) : storeP (h.put id (rows.set i old)) id i j new = putM h id rows i (splice? old j new) := by
  have hf' : (h.put id (rows.set i old)).floor ≤ id := hf
  have hg : (h.put id (rows.set i old)).get id = some (rows.set i old) := by simp [Heap.put]
  simp only [storeP]
  rw [if_pos hf', hg]
  simp only [Option.bind_some, List.getElem?_set_self hi]
  cases splice? old j new with
  | none => rfl
  | some r => simp only [Option.bind_some, List.set_set, put_put, putM]
theorem put_same {h : Heap} {id : Nat} {rows : List (List Cell)} (hr : h.get id = some rows) : h.put id rows = h := by
  obtain ⟨a, b, g⟩ := h
  simp only [Heap.put]
  congr 1; funext i; split
  · rename_i he; subst he; exact hr.symm
  · rfl
def mixR {α : Type} (f : α → List Cell) (ms xs : List α) (i : Nat) : List (List Cell) := (ms.take i).map f ++ (xs.drop i).map f
theorem mixR_0 {α : Type} (f : α → List Cell) (ms xs : List α) : mixR f ms xs 0 = xs.map f := by simp [mixR]
theorem mixR_n {α : Type} (f : α → List Cell) {ms xs : List α} (hl : ms.length = xs.length) : mixR f ms xs xs.length = ms.map f := by simp [mixR, ← hl]
theorem mixR_len {α : Type} (f : α → List Cell) {ms xs : List α} (hl : ms.length = xs.length) (i : Nat) : (mixR f ms xs i).length = xs.length := by simp [mixR]; omega
theorem mixR_split {α : Type} (f : α → List Cell) {ms xs : List α} (hl : ms.length = xs.length) {i : Nat} (hi : i < xs.length) (c : List Cell) : (mixR f ms xs i).set i c = (ms.take i).map f ++ c :: (xs.drop (i + 1)).map f := by
  simp only [mixR]
  rw [List.set_append_right _ _ (by simp; omega), show i - ((ms.take i).map f).length = 0 from by simp; omega, List.drop_eq_getElem_cons hi, List.map_cons, List.set_cons_zero]
theorem mixR_cur {α : Type} (f : α → List Cell) {ms xs : List α} (hl : ms.length = xs.length) {i : Nat} (hi : i < xs.length) : (mixR f ms xs i).set i (f xs[i]) = mixR f ms xs i := by
  rw [mixR_split f hl hi, mixR, List.drop_eq_getElem_cons hi]; rfl
theorem mixR_set {α : Type} (f : α → List Cell) {ms xs : List α} (hl : ms.length = xs.length) {i : Nat} (hi : i < xs.length) : (mixR f ms xs i).set i (f (ms[i]'(by omega))) = mixR f ms xs (i + 1) := by
  have hi' : i < ms.length := by omega
  rw [mixR_split f hl hi, mixR, show ms.take (i + 1) = ms.take i ++ [ms[i]] from by rw [List.take_add_one, List.getElem?_eq_getElem hi']; rfl, List.map_append, List.append_assoc]
  rfl
/-- Only these rows have turned. -/
structure Mk (h h' : Heap) (fp : List Nat) : Prop where
  next : h'.next = h.next
  fl : h'.floor = h.floor
  get : ∀ id, id ∉ fp → h'.get id = h.get id
theorem Mk.refl (h : Heap) (fp : List Nat) : Mk h h fp := ⟨rfl, rfl, fun _ _ => rfl⟩
theorem Mk.put (h : Heap) (id : Nat) (rows : List (List Cell)) : Mk h (h.put id rows) [id] := ⟨rfl, rfl, fun k hk => by simp only [Heap.put]; rw [if_neg (by simpa using hk)]⟩
theorem RelOk.mk' {α : Type} {R : Rel α} (ok : RelOk R) {h h' : Heap} {cs : List Cell} {a : α} {fp fq : List Nat} (w : R h cs a fp) (m : Mk h h' fq) (hd : ∀ id, id ∈ fp → id ∉ fq) : R h' cs a fp := ok.mv w (by rw [m.next]; exact Nat.le_refl _) fun id hid => m.get id (hd id hid)
theorem Mk.trans {a b c : Heap} {p q : List Nat} (m : Mk a b p) (n : Mk b c q) : Mk a c (p ++ q) := ⟨n.next.trans m.next, n.fl.trans m.fl, fun id hid => by
  rw [List.mem_append, not_or] at hid
  rw [n.get id hid.2, m.get id hid.1]⟩
theorem SlR.mk {α : Type} {R : Rel α} {tag : Nat} {h h' : Heap} {x : Cell} {xs : List α} {fp fq : List Nat} (w : SlR tag R h x xs fp) (ok : RelOk R) (m : Mk h h' fq) (hd : ∀ id, id ∈ fp → id ∉ fq) : SlR tag R h' x xs fp := w.mv ok (by rw [m.next]; exact Nat.le_refl _) fun id hid => m.get id (hd id hid)

/-! ### what integers may be -/
theorem wfU {x : Int} (h : (Lit.int .u64 x).wf = true) : 0 ≤ x ∧ x ≤ 18446744073709551615 := by
  simp only [Lit.wf, Bool.and_eq_true, decide_eq_true_eq] at h; exact h
theorem wfI {x : Int} (h : (Lit.int .i64 x).wf = true) : -9223372036854775808 ≤ x ∧ x ≤ 9223372036854775807 := by
  simp only [Lit.wf, Bool.and_eq_true, decide_eq_true_eq] at h; exact h
theorem wrapI1 (z : Int) (h1 : 0 ≤ z) (h2 : z ≤ 9200000000000000000) : IntKind.i64.wrap (z + 1) = z + 1 := wrapI _ (by omega) (by omega)
theorem wrapU1 (z : Int) (h1 : 0 ≤ z) (h2 : z ≤ 9200000000000000000) : IntKind.u64.wrap z = z := wrapU _ (by omega) (by omega)
theorem wrapII (z : Int) (h1 : 0 ≤ z) (h2 : z ≤ 9200000000000000000) : IntKind.i64.wrap z = z := wrapI _ (by omega) (by omega)
theorem b_rem (k : IntKind) (a b : Int) (h : b ≠ 0) : binF .rem (.int k a) (.int k b) = some (.int k (a.tmod b)) := by simp [binF, h]
theorem b_quo (k : IntKind) (a b : Int) (h : b ≠ 0) : binF .quo (.int k a) (.int k b) = some (.int k (k.wrap (a.tdiv b))) := by simp [binF, h]

/-! ### loops -/
/-- One turn goes on, or returns. -/
def Turn (r next : Option (Ex × St)) (p : Bool) (Q : St → Prop) : Prop := (p = true ∧ r = next) ∨ (p = false ∧ ∃ s, r = some (.ret, s) ∧ Q s)
section
variable {F : Nat → Option RF} {Z : CallF} {live : List Nat} {b : RC}
theorem loop_allN (n : Nat) (st : Nat → St) (P : Nat → Bool) (Q : St → Prop) (hs : ∀ i, i < n → Turn (loop F Z live b (st i)) (loop F Z live b (st (i + 1))) (P i) Q) :
    Turn (loop F Z live b (st 0)) (loop F Z live b (st n)) ((List.range n).all P) Q := by
  induction n with
  | zero => exact .inl ⟨rfl, rfl⟩
  | succ n ih =>
    have hl : (List.range (n + 1)).all P = ((List.range n).all P && P n) := by rw [List.range_succ, List.all_append]; simp
    rcases ih fun i hi => hs i (by omega) with ⟨h1, h2⟩ | ⟨h1, h2⟩
    · rcases hs n (by omega) with ⟨h3, h4⟩ | ⟨h3, s, h4, h5⟩
      · exact .inl ⟨by rw [hl, h1, h3]; rfl, h2.trans h4⟩
      · exact .inr ⟨by rw [hl, h1, h3]; rfl, s, h2.trans h4, h5⟩
    · exact .inr ⟨by rw [hl, h1]; rfl, h2⟩
theorem loop_all {α : Type} (xs : List α) (st : Nat → St) (P : α → Bool) (Q : St → Prop) (hs : ∀ i (hi : i < xs.length), Turn (loop F Z live b (st i)) (loop F Z live b (st (i + 1))) (P xs[i]) Q) :
    Turn (loop F Z live b (st 0)) (loop F Z live b (st xs.length)) (xs.all P) Q := by
  have he : xs.all P = (List.range xs.length).all (fun i => (xs[i]?).all P) := by
    rw [Bool.eq_iff_iff, List.all_eq_true, List.all_eq_true]
    constructor
    · intro h i hi
      have hi' : i < xs.length := by simpa using hi
      rw [List.getElem?_eq_getElem hi']
      exact h _ (List.getElem_mem hi')
    · intro h a ha
      obtain ⟨i, hi, rfl⟩ := List.mem_iff_getElem.1 ha
      have := h i (by simpa using hi)
      rwa [List.getElem?_eq_getElem hi] at this
  rw [he]
  exact loop_allN _ _ _ _ fun i hi => by rw [List.getElem?_eq_getElem hi]; exact hs i hi
theorem all_same {α : Type} [DecidableEq α] {xs ys : List α} (he : xs.length = ys.length) : (List.range xs.length).all (fun i => decide (xs[i]? = ys[i]?)) = decide (xs = ys) := by
  rw [Bool.eq_iff_iff, List.all_eq_true, decide_eq_true_eq]
  constructor
  · intro hall
    apply List.ext_getElem? 
    intro i
    by_cases hi : i < xs.length
    · simpa using hall i (by simpa using hi)
    · rw [List.getElem?_eq_none (by omega), List.getElem?_eq_none (by omega)]
  · rintro rfl i _; simp
/-- A loop of so many turns, none of which leaves. -/
theorem loop_goes (n : Nat) (I : Nat → St → Prop) (hs : ∀ i s, i < n → I i s → ∃ s', I (i + 1) s' ∧ loop F Z live b s = loop F Z live b s') {s : St} (h0 : I 0 s) : ∃ s', I n s' ∧ loop F Z live b s = loop F Z live b s' := by
  induction n with
  | zero => exact ⟨s, h0, rfl⟩
  | succ n ih =>
    obtain ⟨s1, h1, h2⟩ := ih fun i s hi => hs i s (by omega)
    obtain ⟨s2, h3, h4⟩ := hs n s1 (by omega) h1
    exact ⟨s2, h3, h2.trans h4⟩
theorem loop_goesF (n : Nat) (st : Nat → St) (hs : ∀ i, i < n → loop F Z live b (st i) = loop F Z live b (st (i + 1))) : loop F Z live b (st 0) = loop F Z live b (st n) := by
  induction n with
  | zero => rfl
  | succ n ih => exact (ih fun i hi => hs i (by omega)).trans (hs n (by omega))
end
end Go.Proofs.Ytlbagejkjkfkjaa.A
/- Calls with the floor raised. -/
namespace Go.Proofs.Ytlbagejkjkfkjaa.A
open Go
set_option linter.unusedSimpArgs false
set_option linter.unusedVariables false
theorem On.quiet {h h' : Heap} (o : On { h with floor := h.next } h') : On h { h' with floor := h.floor } := ⟨⟨o.ext.1, o.ext.2⟩, rfl⟩
theorem On.up (h : Heap) : On h { h with floor := h.floor } := ⟨⟨Nat.le_refl _, fun _ _ => rfl⟩, rfl⟩
theorem SlR.up {α : Type} {R : Rel α} {tag : Nat} {h : Heap} {x : Cell} {xs : List α} {fp : List Nat} (w : SlR tag R h x xs fp) (ok : RelOk R) (n : Nat) : SlR tag R { h with floor := n } x xs fp := w.mv ok (Nat.le_refl _) fun _ _ => rfl
/-- A call with the floor raised, and the heap behind it as one thing. -/
theorem quietly {F : Nat → Option RF} {Z : CallF} {h h' : Heap} {f : Nat} {vs : List V} {r : V} (e : call F Z f vs ⟨h.next, h.next, h.get⟩ = some (r, h')) (o : On ⟨h.next, h.next, h.get⟩ h') :
    ∃ h' g, call F Z f vs ⟨h.next, h.next, h.get⟩ = some (r, h') ∧ Heap.mk h'.next h.floor h'.get = g ∧ On h g := ⟨h', _, e, rfl, ⟨⟨o.ext.1, o.ext.2⟩, rfl⟩⟩
theorem RelOk.up {α : Type} {R : Rel α} (ok : RelOk R) {h : Heap} {cs : List Cell} {a : α} {fp : List Nat} (w : R h cs a fp) (n : Nat) : R ⟨h.next, n, h.get⟩ cs a fp := ok.mv w (Nat.le_refl _) fun _ _ => rfl
end Go.Proofs.Ytlbagejkjkfkjaa.A
/- Views: slices that show a part of a row. -/
namespace Go.Proofs.Ytlbagejkjkfkjaa.A
open Go
set_option linter.unusedSimpArgs false
set_option linter.unusedVariables false
def Cell.off : Cell → Nat
  | .sl _ _ off _ => off
  | _ => 0
/-- A cell shows a list, out of a row that may be longer. -/
def Vw {α : Type} (tag : Nat) (enc : α → List Cell) (h : Heap) (x : Cell) (xs : List α) : Prop :=
  xs.length ≤ maxLen ∧ ((x = .nil ∧ xs = []) ∨ ∃ id off rows, x = .sl tag id off xs.length ∧ h.get id = some rows ∧ id < h.next ∧ ∀ i (hi : i < xs.length), rows[off + i]? = some (enc xs[i]))
section
variable {α : Type} {enc : α → List Cell} {h h' : Heap} {tag : Nat} {x : Cell} {xs : List α} {fp : List Nat}
theorem Vw.le (w : Vw tag enc h x xs) : xs.length ≤ maxLen := w.1
theorem Vw.le2 (w : Vw tag enc h x xs) : xs.length ≤ 9223372036854775807 := by have := w.1; unfold maxLen at this; omega
theorem Vw.len (w : Vw tag enc h x xs) : lenR (some x) = some (.int .i64 (xs.length : Nat)) := by
  rcases w with ⟨_, ⟨rfl, rfl⟩ | ⟨id, off, rows, rfl, _⟩⟩ <;> rfl
theorem Vw.on (w : Vw tag enc h x xs) (o : On h h') : Vw tag enc h' x xs := by
  rcases w with ⟨hl, h0 | ⟨id, off, rows, h1, h2, h3, h4⟩⟩
  · exact ⟨hl, .inl h0⟩
  · exact ⟨hl, .inr ⟨id, off, rows, h1, (o.ext.2 id h3).trans h2, Nat.lt_of_lt_of_le h3 o.ext.1, h4⟩⟩
theorem Vw.up (w : Vw tag enc h x xs) (n : Nat) : Vw tag enc ⟨h.next, n, h.get⟩ x xs := by
  rcases w with ⟨hl, h0 | ⟨id, off, rows, h1, h2, h3, h4⟩⟩
  · exact ⟨hl, .inl h0⟩
  · exact ⟨hl, .inr ⟨id, off, rows, h1, h2, h3, h4⟩⟩
theorem Vw.idx (w : Vw tag enc h x xs) {i : Nat} (hi : i < xs.length) : idxR tag (some x) (some (i : Int)) = some (.ptr x.sid (x.off + i) 0) := by
  rcases w with ⟨_, ⟨rfl, rfl⟩ | ⟨id, off, rows, rfl, _⟩⟩
  · exact absurd hi (Nat.not_lt_zero _)
  · rw [idxR_s, if_pos (by omega)]; simp [Cell.sid, Cell.off]
theorem Vw.load (w : Vw tag enc h x xs) {i : Nat} (hi : i < xs.length) (j n : Nat) : loadP h x.sid (x.off + i) j n = cut? (enc xs[i]) j n := by
  rcases w with ⟨_, ⟨rfl, rfl⟩ | ⟨id, off, rows, rfl, h2, h3, h4⟩⟩
  · exact absurd hi (Nat.not_lt_zero _)
  · simp [loadP, rowOf, Cell.sid, Cell.off, h2, h4 i hi]
theorem SlR.vw (w : SlR tag (Fl enc) h x xs fp) : Vw tag enc h x xs := by
  refine ⟨w.le, ?_⟩
  rcases w.flat with ⟨h1, h2, _⟩ | ⟨h1, h2, h3, _⟩
  · exact .inl ⟨h1, h2⟩
  · refine .inr ⟨x.sid, 0, _, h1, h2, h3, fun i hi => ?_⟩
    rw [Nat.zero_add, List.getElem?_map, List.getElem?_eq_getElem hi]; rfl
theorem Vw.cut (w : Vw tag enc h x xs) {a b : Nat} (hab : a ≤ b) (hb : b ≤ xs.length) {lo hi : Option Int} (hlo : lo.getD 0 = a) (hhi : hi.getD xs.length = b) :
    ∃ y, cutR tag (some x) (some lo) (some hi) = some y ∧ Vw tag enc h y ((xs.take b).drop a) := by
  have hle := w.le
  rcases w with ⟨_, ⟨rfl, rfl⟩ | ⟨id, off, rows, rfl, h2, h3, h4⟩⟩
  · simp only [List.length_nil, Nat.le_zero] at hb
    subst hb
    obtain rfl : a = 0 := by omega
    refine ⟨.nil, ?_, ⟨by simp, .inl ⟨rfl, by simp⟩⟩⟩
    rw [cutR_n, if_pos ⟨by simpa using hlo, by simpa using hhi⟩]
  · have hl : ((xs.take b).drop a).length = b - a := by simp; omega
    refine ⟨.sl tag id (off + a) (b - a), ?_, ⟨by rw [hl]; omega, .inr ⟨id, off + a, rows, by rw [hl], h2, h3, fun i hi => ?_⟩⟩⟩
    · rw [cutR_s, hlo, hhi, if_pos (by omega)]; simp
    · rw [hl] at hi
      have := h4 (a + i) (by omega)
      rw [Nat.add_assoc, this]
      simp
theorem Vw.pre (w : Vw tag enc h x xs) {b : Nat} (hb : b ≤ xs.length) : ∃ y, cutR tag (some x) (some none) (some (some (b : Int))) = some y ∧ Vw tag enc h y (xs.take b) := by
  obtain ⟨y, h1, h2⟩ := w.cut (a := 0) (b := b) (Nat.zero_le _) hb (lo := none) (hi := some (b : Int)) rfl rfl
  exact ⟨y, h1, by simpa using h2⟩
end
end Go.Proofs.Ytlbagejkjkfkjaa.A
/- The compact code of some functions: laws.eqIntS, laws.markIntS, laws.heldIntS, laws.toIntS. -/
namespace Go.Proofs.Ytlbagejkjkfkjaa.A
open Go
/-- A loop of laws.eqIntS. -/
def r285L0 : RC :=
 .seq (.seq (.reg [⟨none, .mov 11 (.t 5)⟩,
      ⟨none, .mov 12 (.t 0)⟩,
      ⟨none, .len 13 (.t 12)⟩,
      ⟨none, .bin 14 .lss (.t 11) (.t 13)⟩])
     (.cond (.t 14)
     (.skip)
     (.exit 0)))
    (.seq (.block 1 (.seq (.reg [⟨none, .chk []⟩,
       ⟨none, .mov 17 (.t 0)⟩,
       ⟨none, .mov 18 (.t 5)⟩,
       ⟨none, .idx 19 15 (.t 17) (.t 18)⟩,
       ⟨none, .mov 21 (.t 1)⟩,
       ⟨none, .mov 22 (.t 5)⟩,
       ⟨none, .idx 23 15 (.t 21) (.t 22)⟩,
       ⟨none, .load 20 19 1 false⟩,
       ⟨none, .load 24 23 1 false⟩,
       ⟨none, .bin 25 .neq (.t 20) (.t 24)⟩])
      (.cond (.t 25)
      (.seq (.reg [⟨none, .mov 4 (.k (.bool false))⟩])
       (.ret))
      (.skip))))
    (.reg [⟨none, .mov 15 (.t 5)⟩,
    ⟨none, .bin 16 .add (.t 15) (.k (.int .i64 1))⟩,
    ⟨none, .mov 5 (.t 16)⟩]))
/-- laws.eqIntS -/
def r285 : RF :=
 ⟨2, [.tmp 4],
 .seq (.reg [⟨none, .mov 4 (.k (.bool false))⟩])
 (.seq (.seq (.reg [⟨none, .mov 6 (.t 0)⟩,
   ⟨none, .len 7 (.t 6)⟩,
   ⟨none, .mov 8 (.t 1)⟩,
   ⟨none, .len 9 (.t 8)⟩,
   ⟨none, .bin 10 .neq (.t 7) (.t 9)⟩])
  (.cond (.t 10)
  (.seq (.reg [⟨none, .mov 4 (.k (.bool false))⟩])
   (.ret))
  (.skip)))
 (.seq (.seq (.reg [⟨none, .mov 5 (.k (.int .i64 0))⟩])
  (.block 0 (.loop [0, 1, 5]
   r285L0)))
 (.seq (.reg [⟨none, .mov 4 (.k (.bool true))⟩])
 (.ret))))⟩
/-- A loop of laws.markIntS. -/
def r287L0 : RC :=
 .seq (.seq (.reg [⟨none, .mov 6 (.t 5)⟩,
      ⟨none, .mov 7 (.t 0)⟩,
      ⟨none, .len 8 (.t 7)⟩,
      ⟨none, .bin 9 .lss (.t 6) (.t 8)⟩])
     (.cond (.t 9)
     (.skip)
     (.exit 0)))
    (.seq (.block 1 (.seq (.reg [⟨none, .mov 12 (.t 0)⟩,
       ⟨none, .mov 13 (.t 5)⟩,
       ⟨none, .mov 14 (.t 1)⟩,
       ⟨none, .idx 15 15 (.t 12) (.t 13)⟩,
       ⟨none, .store 15 1 (.t 14)⟩])
      (.reg [⟨none, .mov 16 (.t 1)⟩,
      ⟨none, .bin 17 .add (.t 16) (.k (.int .i64 1))⟩,
      ⟨none, .mov 1 (.t 17)⟩])))
    (.reg [⟨none, .mov 10 (.t 5)⟩,
    ⟨none, .bin 11 .add (.t 10) (.k (.int .i64 1))⟩,
    ⟨none, .mov 5 (.t 11)⟩]))
/-- laws.markIntS -/
def r287 : RF :=
 ⟨2, [.tmp 4],
 .seq (.reg [⟨none, .mov 4 (.k (.int .i64 0))⟩])
 (.seq (.seq (.reg [⟨none, .mov 5 (.k (.int .i64 0))⟩])
  (.block 0 (.loop [0, 1, 5]
   r287L0)))
 (.seq (.reg [⟨none, .mov 18 (.t 1)⟩,
  ⟨none, .mov 4 (.t 18)⟩])
 (.ret)))⟩
/-- A loop of laws.heldIntS. -/
def r288L0 : RC :=
 .seq (.seq (.reg [⟨none, .mov 6 (.t 5)⟩,
      ⟨none, .mov 7 (.t 0)⟩,
      ⟨none, .len 8 (.t 7)⟩,
      ⟨none, .bin 9 .lss (.t 6) (.t 8)⟩])
     (.cond (.t 9)
     (.skip)
     (.exit 0)))
    (.seq (.block 1 (.seq (.seq (.reg [⟨none, .mov 12 (.t 0)⟩,
        ⟨none, .mov 13 (.t 5)⟩,
        ⟨none, .idx 14 15 (.t 12) (.t 13)⟩,
        ⟨none, .load 15 14 1 false⟩,
        ⟨none, .mov 16 (.t 1)⟩,
        ⟨none, .bin 17 .neq (.t 15) (.t 16)⟩])
       (.cond (.t 17)
       (.seq (.reg [⟨none, .mov 4 (.k (.int .i64 (-1)))⟩])
        (.ret))
       (.skip)))
      (.reg [⟨none, .mov 18 (.t 1)⟩,
      ⟨none, .bin 19 .add (.t 18) (.k (.int .i64 1))⟩,
      ⟨none, .mov 1 (.t 19)⟩])))
    (.reg [⟨none, .mov 10 (.t 5)⟩,
    ⟨none, .bin 11 .add (.t 10) (.k (.int .i64 1))⟩,
    ⟨none, .mov 5 (.t 11)⟩]))
/-- laws.heldIntS -/
def r288 : RF :=
 ⟨2, [.tmp 4],
 .seq (.reg [⟨none, .mov 4 (.k (.int .i64 0))⟩])
 (.seq (.seq (.reg [⟨none, .mov 5 (.k (.int .i64 0))⟩])
  (.block 0 (.loop [0, 1, 5]
   r288L0)))
 (.seq (.reg [⟨none, .mov 20 (.t 1)⟩,
  ⟨none, .mov 4 (.t 20)⟩])
 (.ret)))⟩
/-- A loop of laws.toIntS. -/
def r360L0 : RC :=
 .seq (.seq (.reg [⟨none, .mov 8 (.t 4)⟩,
      ⟨none, .mov 9 (.t 0)⟩,
      ⟨none, .len 10 (.t 9)⟩,
      ⟨none, .bin 11 .lss (.t 8) (.t 10)⟩])
     (.cond (.t 11)
     (.skip)
     (.exit 0)))
    (.seq (.block 1 (.reg [⟨none, .mov 14 (.t 3)⟩,
      ⟨none, .mov 15 (.t 4)⟩,
      ⟨none, .mov 16 (.t 0)⟩,
      ⟨none, .mov 17 (.t 4)⟩,
      ⟨none, .idx 18 15 (.t 16) (.t 17)⟩,
      ⟨none, .load 19 18 1 false⟩,
      ⟨none, .idx 20 15 (.t 14) (.t 15)⟩,
      ⟨none, .store 20 1 (.t 19)⟩]))
    (.reg [⟨none, .mov 12 (.t 4)⟩,
    ⟨none, .bin 13 .add (.t 12) (.k (.int .i64 1))⟩,
    ⟨none, .mov 4 (.t 13)⟩]))
/-- laws.toIntS -/
def r360 : RF :=
 ⟨1, [.tmp 2],
 .seq (.reg [⟨none, .mov 2 (.k (.nil))⟩])
 (.seq (.reg [⟨none, .mov 5 (.t 0)⟩,
  ⟨none, .len 6 (.t 5)⟩,
  ⟨none, .mks 7 15 8 [.int .i64 0] (.t 6) (.t 6)⟩,
  ⟨none, .mov 3 (.t 7)⟩])
 (.seq (.seq (.reg [⟨none, .mov 4 (.k (.int .i64 0))⟩])
  (.block 0 (.loop [0, 3, 4]
   r360L0)))
 (.seq (.reg [⟨none, .mov 21 (.t 3)⟩,
  ⟨none, .mov 2 (.t 21)⟩])
 (.ret))))⟩
/-- The functions of this text, with their numbers. -/
def tLInt : List (Nat × RF) := [(285, r285), (287, r287), (288, r288), (360, r360)]
end Go.Proofs.Ytlbagejkjkfkjaa.A
/- What the converters of Int compute. -/
namespace Go.Proofs.Ytlbagejkjkfkjaa.A
open Go
set_option linter.unusedSimpArgs false
set_option linter.unusedVariables false
def int_enc (b : Int) : List Cell := [.int .i64 b]
theorem int_enc_len (b : Int) : (int_enc b).length = 1 := rfl
theorem int_enc_tak (b : Int) : (int_enc b).take 1 = int_enc b := rfl
section
variable {F : Nat → Option RF} {Z : CallF} {h : Heap} {x y : Cell} {xs ys : List Int} {fp fq : List Nat}
def int_zero : List Cell := [.int .i64 0]
theorem eqIntS_run (hL : Has F tLInt) (w : SlR 15 (Fl int_enc) h x xs fp) (v : SlR 15 (Fl int_enc) h y ys fq) : call F Z 285 [.c x, .c y] h = some (.c (.bool (decide (xs = ys))), h) := by
  have hw := w.le2
  have hv := v.le2
  rw [call_run F Z (hL.lk (g := 285) rfl) _ _ rfl]
  simp only [run0, run1, run2, run3, run4, noSlot, ownS, ownK, memN, RO.dst, lk, drop, forget, number, Nat.reduceBEq, cut?, splice?, builds, List.length_cons, List.length_nil, List.drop_succ_cons, List.drop_zero, List.take_succ_cons, List.take_zero, List.cons_append, List.nil_append, List.append_nil, List.drop_nil, List.take_nil, Nat.reduceAdd, Nat.reduceLeDiff, Nat.zero_add, Nat.add_zero, ↓reduceIte, Bool.not_true, Bool.not_false, decide_true, decide_false, eq_self, bne_self_eq_false, List.getElem?_cons_zero, List.getElem?_cons_succ, decide_eq_true_eq, Bool.false_eq_true, Bool.true_eq_false, reduceCtorEq, Nat.le_refl, w.len, v.len]
  rw [condC_if]
  split
  · rename_i hne
    have : xs ≠ ys := by rintro rfl; simp at hne
    simp only [run0, run1, run2, run3, run4, noSlot, ownS, ownK, memN, RO.dst, lk, drop, forget, number, Nat.reduceBEq, cut?, splice?, builds, List.length_cons, List.length_nil, List.drop_succ_cons, List.drop_zero, List.take_succ_cons, List.take_zero, List.cons_append, List.nil_append, List.append_nil, List.drop_nil, List.take_nil, Nat.reduceAdd, Nat.reduceLeDiff, Nat.zero_add, Nat.add_zero, ↓reduceIte, Bool.not_true, Bool.not_false, decide_true, decide_false, eq_self, bne_self_eq_false, List.getElem?_cons_zero, List.getElem?_cons_succ, decide_eq_true_eq, Bool.false_eq_true, Bool.true_eq_false, reduceCtorEq, Nat.le_refl, this]
  · rename_i he
    have he : xs.length = ys.length := by simp at he; omega
    simp only [run0, run1, run2, run3, run4, noSlot, ownS, ownK, memN, RO.dst, lk, drop, forget, number, Nat.reduceBEq, cut?, splice?, builds, List.length_cons, List.length_nil, List.drop_succ_cons, List.drop_zero, List.take_succ_cons, List.take_zero, List.cons_append, List.nil_append, List.append_nil, List.drop_nil, List.take_nil, Nat.reduceAdd, Nat.reduceLeDiff, Nat.zero_add, Nat.add_zero, ↓reduceIte, Bool.not_true, Bool.not_false, decide_true, decide_false, eq_self, bne_self_eq_false, List.getElem?_cons_zero, List.getElem?_cons_succ, decide_eq_true_eq, Bool.false_eq_true, Bool.true_eq_false, reduceCtorEq, Nat.le_refl]
    have key := loop_allN (F := F) (Z := Z) (live := [0, 1, 5]) (b := r285L0) xs.length (fun i => ⟨[(0, .c x), (1, .c y), (5, .c (.int .i64 (i : Nat)))], [], [], h⟩) (fun i => decide (xs[i]? = ys[i]?)) (fun s => lk s.env 4 = some (.c (.bool false)) ∧ s.hp = h) fun i hi => by
      have hi' : i < ys.length := by omega
      have hlt : (i : Int) < xs.length := by omega
      rw [loop_run]
      simp only [r285L0, run0, run1, run2, run3, run4, noSlot, ownS, ownK, memN, RO.dst, lk, drop, forget, number, Nat.reduceBEq, cut?, splice?, builds, List.length_cons, List.length_nil, List.drop_succ_cons, List.drop_zero, List.take_succ_cons, List.take_zero, List.cons_append, List.nil_append, List.append_nil, List.drop_nil, List.take_nil, Nat.reduceAdd, Nat.reduceLeDiff, Nat.zero_add, Nat.add_zero, ↓reduceIte, Bool.not_true, Bool.not_false, decide_true, decide_false, eq_self, bne_self_eq_false, List.getElem?_cons_zero, List.getElem?_cons_succ, decide_eq_true_eq, Bool.false_eq_true, Bool.true_eq_false, reduceCtorEq, Nat.le_refl, w.len, hlt, w.idx hi, v.idx hi', w.load hi, v.load hi', int_enc, wrapS i (by omega)]
      rw [List.getElem?_eq_getElem hi, List.getElem?_eq_getElem hi']
      (repeat' ((first | (rw [gF_if]; split) | (rw [condC_if]; split) | (rw [pickR_if]; split)) <;> (rename_i hh; (try simp only [Bool.not_eq_true, decide_eq_true_eq] at hh); simp only [hh, run0, run1, run2, run3, run4, noSlot, ownS, ownK, memN, RO.dst, lk, drop, forget, number, Nat.reduceBEq, cut?, splice?, builds, List.length_cons, List.length_nil, List.drop_succ_cons, List.drop_zero, List.take_succ_cons, List.take_zero, List.cons_append, List.nil_append, List.append_nil, List.drop_nil, List.take_nil, Nat.reduceAdd, Nat.reduceLeDiff, Nat.zero_add, Nat.add_zero, ↓reduceIte, Bool.not_true, Bool.not_false, decide_true, decide_false, eq_self, bne_self_eq_false, List.getElem?_cons_zero, List.getElem?_cons_succ, decide_eq_true_eq, Bool.false_eq_true, Bool.true_eq_false, reduceCtorEq, Nat.le_refl, wrapS i (by omega)])))
      · exact .inr ⟨by simp_all, _, rfl, rfl, rfl⟩
      · exact .inl ⟨by simp_all, rfl⟩
    rw [all_same he] at key
    rcases key with ⟨k1, k2⟩ | ⟨k1, s, k2, k3, k4⟩
    · simp only [show ((0 : Nat) : Int) = 0 from rfl] at k2
      rw [k2, loop_run]
      have hlt : ¬ (xs.length : Int) < xs.length := by omega
      simp only [r285L0, run0, run1, run2, run3, run4, noSlot, ownS, ownK, memN, RO.dst, lk, drop, forget, number, Nat.reduceBEq, cut?, splice?, builds, List.length_cons, List.length_nil, List.drop_succ_cons, List.drop_zero, List.take_succ_cons, List.take_zero, List.cons_append, List.nil_append, List.append_nil, List.drop_nil, List.take_nil, Nat.reduceAdd, Nat.reduceLeDiff, Nat.zero_add, Nat.add_zero, ↓reduceIte, Bool.not_true, Bool.not_false, decide_true, decide_false, eq_self, bne_self_eq_false, List.getElem?_cons_zero, List.getElem?_cons_succ, decide_eq_true_eq, Bool.false_eq_true, Bool.true_eq_false, reduceCtorEq, Nat.le_refl, w.len, hlt, k1]
    · simp only [show ((0 : Nat) : Int) = 0 from rfl] at k2
      rw [k2]
      simp only [run0, run1, run2, run3, run4, noSlot, ownS, ownK, memN, RO.dst, lk, drop, forget, number, Nat.reduceBEq, cut?, splice?, builds, List.length_cons, List.length_nil, List.drop_succ_cons, List.drop_zero, List.take_succ_cons, List.take_zero, List.cons_append, List.nil_append, List.append_nil, List.drop_nil, List.take_nil, Nat.reduceAdd, Nat.reduceLeDiff, Nat.zero_add, Nat.add_zero, ↓reduceIte, Bool.not_true, Bool.not_false, decide_true, decide_false, eq_self, bne_self_eq_false, List.getElem?_cons_zero, List.getElem?_cons_succ, decide_eq_true_eq, Bool.false_eq_true, Bool.true_eq_false, reduceCtorEq, Nat.le_refl, k3, k4, k1]
/-- What is written to mark one. -/
def int_mk (k : Int) : Int := k
def int_marks (n : Nat) (k : Int) : List Int := (List.range n).map fun i : Nat => int_mk (k + 1 * (i : Int))
theorem int_marks_len (n : Nat) (k : Int) : (int_marks n k).length = n := by simp [int_marks]
set_option maxHeartbeats 1000000 in
theorem markIntS_run (hL : Has F tLInt) (w : SlR 15 (Fl int_enc) h x xs fp) (hlo : ∀ id, id ∈ fp → h.floor ≤ id) (k : Int) (h1 : 0 ≤ k) (h2 : k + 1 * xs.length ≤ 9200000000000000000) :
    ∃ h', call F Z 287 [.c x, .c (.int .i64 k)] h = some (.c (.int .i64 (k + 1 * xs.length)), h') ∧ Mk h h' fp ∧ SlR 15 (Fl int_enc) h' x (int_marks xs.length k) fp := by
  have hle := w.le2
  have hlm := int_marks_len xs.length k
  rw [call_run F Z (hL.lk (g := 287) rfl) _ _ rfl]
  simp only [run0, run1, run2, run3, run4, noSlot, ownS, ownK, memN, RO.dst, lk, drop, forget, number, Nat.reduceBEq, cut?, splice?, builds, List.length_cons, List.length_nil, List.drop_succ_cons, List.drop_zero, List.take_succ_cons, List.take_zero, List.cons_append, List.nil_append, List.append_nil, List.drop_nil, List.take_nil, Nat.reduceAdd, Nat.reduceLeDiff, Nat.zero_add, Nat.add_zero, ↓reduceIte, Bool.not_true, Bool.not_false, decide_true, decide_false, eq_self, bne_self_eq_false, List.getElem?_cons_zero, List.getElem?_cons_succ, decide_eq_true_eq, Bool.false_eq_true, Bool.true_eq_false, reduceCtorEq, Nat.le_refl]
  rcases w.flat with ⟨rfl, rfl, rfl⟩ | ⟨hx, hg, hn, rfl⟩
  · rw [loop_run]
    simp only [r287L0, run0, run1, run2, run3, run4, noSlot, ownS, ownK, memN, RO.dst, lk, drop, forget, number, Nat.reduceBEq, cut?, splice?, builds, List.length_cons, List.length_nil, List.drop_succ_cons, List.drop_zero, List.take_succ_cons, List.take_zero, List.cons_append, List.nil_append, List.append_nil, List.drop_nil, List.take_nil, Nat.reduceAdd, Nat.reduceLeDiff, Nat.zero_add, Nat.add_zero, ↓reduceIte, Bool.not_true, Bool.not_false, decide_true, decide_false, eq_self, bne_self_eq_false, List.getElem?_cons_zero, List.getElem?_cons_succ, decide_eq_true_eq, Bool.false_eq_true, Bool.true_eq_false, reduceCtorEq, Nat.le_refl, show ¬ ((0 : Int) < 0) from by omega]
    exact ⟨h, by simp, Mk.refl _ _, by simpa [int_marks] using w⟩
  · have hfl : h.floor ≤ x.sid := hlo _ (by simp)
    have key : loop F Z [0, 1, 5] r287L0 ⟨[(0, .c x), (1, .c (.int .i64 (k + 1 * (0 : Nat)))), (5, .c (.int .i64 (0 : Nat)))], [], [], h.put x.sid (mixR int_enc (int_marks xs.length k) xs 0)⟩ = loop F Z [0, 1, 5] r287L0 ⟨[(0, .c x), (1, .c (.int .i64 (k + 1 * (xs.length : Nat)))), (5, .c (.int .i64 (xs.length : Nat)))], [], [], h.put x.sid (mixR int_enc (int_marks xs.length k) xs xs.length)⟩ :=
      loop_goesF xs.length (fun i => ⟨[(0, .c x), (1, .c (.int .i64 (k + 1 * (i : Nat)))), (5, .c (.int .i64 (i : Nat)))], [], [], h.put x.sid (mixR int_enc (int_marks xs.length k) xs i)⟩) fun i hi => by
        have hlt : (i : Int) < xs.length := by omega
        have hi2 : i < (mixR int_enc (int_marks xs.length k) xs i).length := by rw [mixR_len _ hlm]; exact hi
        have hms : (int_marks xs.length k)[i]'(by omega) = int_mk (k + 1 * i) := by simp [int_marks]
        have hset := mixR_set int_enc hlm hi
        rw [hms] at hset
        have hput := storeP_put (h := h) hfl hi2
        rw [← mixR_cur int_enc hlm hi, ← hset, loop_run]
        simp (disch := omega) only [r287L0, run0, run1, run2, run3, run4, noSlot, ownS, ownK, memN, RO.dst, lk, drop, forget, number, Nat.reduceBEq, cut?, splice?, builds, List.length_cons, List.length_nil, List.drop_succ_cons, List.drop_zero, List.take_succ_cons, List.take_zero, List.cons_append, List.nil_append, List.append_nil, List.drop_nil, List.take_nil, Nat.reduceAdd, Nat.reduceLeDiff, Nat.zero_add, Nat.add_zero, ↓reduceIte, Bool.not_true, Bool.not_false, decide_true, decide_false, eq_self, bne_self_eq_false, List.getElem?_cons_zero, List.getElem?_cons_succ, decide_eq_true_eq, Bool.false_eq_true, Bool.true_eq_false, reduceCtorEq, Nat.le_refl, w.len, hlt, w.idx hi, hput, putM_s, wrapI1, wrapU1, int_enc, b_rem, beq_self_eq_true, Int.reduceEq, int_mk]
        rw [show k + 1 * ((i : Nat) : Int) + 1 = k + 1 * ((i + 1 : Nat) : Int) from by omega, show ((i : Nat) : Int) + 1 = ((i + 1 : Nat) : Int) from rfl]
    rw [mixR_0, put_same hg, mixR_n _ hlm] at key
    simp only [show ((0 : Nat) : Int) = 0 from rfl, Int.mul_zero, Int.add_zero] at key
    rw [key, loop_run]
    have hlt : ¬ (xs.length : Int) < xs.length := by omega
    simp only [r287L0, run0, run1, run2, run3, run4, noSlot, ownS, ownK, memN, RO.dst, lk, drop, forget, number, Nat.reduceBEq, cut?, splice?, builds, List.length_cons, List.length_nil, List.drop_succ_cons, List.drop_zero, List.take_succ_cons, List.take_zero, List.cons_append, List.nil_append, List.append_nil, List.drop_nil, List.take_nil, Nat.reduceAdd, Nat.reduceLeDiff, Nat.zero_add, Nat.add_zero, ↓reduceIte, Bool.not_true, Bool.not_false, decide_true, decide_false, eq_self, bne_self_eq_false, List.getElem?_cons_zero, List.getElem?_cons_succ, decide_eq_true_eq, Bool.false_eq_true, Bool.true_eq_false, reduceCtorEq, Nat.le_refl, w.len, hlt]
    refine ⟨_, rfl, Mk.put _ _ _, ?_⟩
    have := SlR.ofFlat (tag := 15) (h := h.put x.sid ((int_marks xs.length k).map int_enc)) (enc := int_enc) (xs := int_marks xs.length k) (id := x.sid) (by rw [hlm]; exact w.le) (by simp [Heap.put]) hn
    rw [hlm, ← hx] at this
    exact this
set_option maxHeartbeats 1000000 in
theorem heldIntS_run (hL : Has F tLInt) {n : Nat} {k : Int} (w : SlR 15 (Fl int_enc) h x (int_marks n k) fp) (h1 : 0 ≤ k) (h2 : k + 1 * n ≤ 9200000000000000000) :
    call F Z 288 [.c x, .c (.int .i64 k)] h = some (.c (.int .i64 (k + 1 * n)), h) := by
  have hle := w.le2
  have hwl := w.len
  rw [int_marks_len] at hle hwl
  rw [call_run F Z (hL.lk (g := 288) rfl) _ _ rfl]
  simp only [run0, run1, run2, run3, run4, noSlot, ownS, ownK, memN, RO.dst, lk, drop, forget, number, Nat.reduceBEq, cut?, splice?, builds, List.length_cons, List.length_nil, List.drop_succ_cons, List.drop_zero, List.take_succ_cons, List.take_zero, List.cons_append, List.nil_append, List.append_nil, List.drop_nil, List.take_nil, Nat.reduceAdd, Nat.reduceLeDiff, Nat.zero_add, Nat.add_zero, ↓reduceIte, Bool.not_true, Bool.not_false, decide_true, decide_false, eq_self, bne_self_eq_false, List.getElem?_cons_zero, List.getElem?_cons_succ, decide_eq_true_eq, Bool.false_eq_true, Bool.true_eq_false, reduceCtorEq, Nat.le_refl]
  have key : loop F Z [0, 1, 5] r288L0 ⟨[(0, .c x), (1, .c (.int .i64 (k + 1 * (0 : Nat)))), (5, .c (.int .i64 (0 : Nat)))], [], [], h⟩ = loop F Z [0, 1, 5] r288L0 ⟨[(0, .c x), (1, .c (.int .i64 (k + 1 * (n : Nat)))), (5, .c (.int .i64 (n : Nat)))], [], [], h⟩ :=
    loop_goesF n (fun i => ⟨[(0, .c x), (1, .c (.int .i64 (k + 1 * (i : Nat)))), (5, .c (.int .i64 (i : Nat)))], [], [], h⟩) fun i hi0 => by
      have hi : i < (int_marks n k).length := by rw [int_marks_len]; exact hi0
      have hlt : (i : Int) < n := by omega
      have hms : (int_marks n k)[i] = int_mk (k + 1 * i) := by simp [int_marks]
      have hld := w.load hi
      rw [hms] at hld
      rw [loop_run]
      simp (disch := omega) only [r288L0, run0, run1, run2, run3, run4, noSlot, ownS, ownK, memN, RO.dst, lk, drop, forget, number, Nat.reduceBEq, cut?, splice?, builds, List.length_cons, List.length_nil, List.drop_succ_cons, List.drop_zero, List.take_succ_cons, List.take_zero, List.cons_append, List.nil_append, List.append_nil, List.drop_nil, List.take_nil, Nat.reduceAdd, Nat.reduceLeDiff, Nat.zero_add, Nat.add_zero, ↓reduceIte, Bool.not_true, Bool.not_false, decide_true, decide_false, eq_self, bne_self_eq_false, List.getElem?_cons_zero, List.getElem?_cons_succ, decide_eq_true_eq, Bool.false_eq_true, Bool.true_eq_false, reduceCtorEq, Nat.le_refl, hwl, hlt, w.idx hi, hld, wrapI1, wrapU1, int_enc, b_rem, beq_self_eq_true, int_mk, Int.reduceEq]
      rw [show k + 1 * ((i : Nat) : Int) + 1 = k + 1 * ((i + 1 : Nat) : Int) from by omega, show ((i : Nat) : Int) + 1 = ((i + 1 : Nat) : Int) from rfl]
  simp only [show ((0 : Nat) : Int) = 0 from rfl, Int.mul_zero, Int.add_zero] at key
  rw [key, loop_run]
  have hlt : ¬ (n : Int) < n := by omega
  simp only [r288L0, run0, run1, run2, run3, run4, noSlot, ownS, ownK, memN, RO.dst, lk, drop, forget, number, Nat.reduceBEq, cut?, splice?, builds, List.length_cons, List.length_nil, List.drop_succ_cons, List.drop_zero, List.take_succ_cons, List.take_zero, List.cons_append, List.nil_append, List.append_nil, List.drop_nil, List.take_nil, Nat.reduceAdd, Nat.reduceLeDiff, Nat.zero_add, Nat.add_zero, ↓reduceIte, Bool.not_true, Bool.not_false, decide_true, decide_false, eq_self, bne_self_eq_false, List.getElem?_cons_zero, List.getElem?_cons_succ, decide_eq_true_eq, Bool.false_eq_true, Bool.true_eq_false, reduceCtorEq, Nat.le_refl, hwl, hlt]
end
end Go.Proofs.Ytlbagejkjkfkjaa.A
/- Slices that are built by appending: raw rows, made behind a heap. -/
namespace Go.Proofs.Ytlbagejkjkfkjaa.A
open Go
set_option linter.unusedSimpArgs false
set_option linter.unusedVariables false

/-- A cell shows rows that were made behind h0. -/
structure Acc (tag : Nat) (h0 h : Heap) (x : Cell) (rows : List (List Cell)) : Prop where
  on : On h0 h
  sh : ∃ fp, SlR tag (Fl fun r => r) h x rows fp ∧ Fre h0 fp
/-- What append answers, and the heap behind it. -/
def catX (tag : Nat) (h : Heap) (x : Cell) (n : Nat) : Cell := match x with
  | .sl _ _ _ m => .sl tag h.next 0 (m + n)
  | _ => if n = 0 then .nil else .sl tag h.next 0 n
def catH (h : Heap) (x : Cell) (new : List (List Cell)) : Heap := match x with
  | .sl _ id _ _ => (h.kill id).push (((h.get id).getD []) ++ new)
  | _ => if new.length = 0 then h else h.push new
theorem Fre.app {h h1 : Heap} {p q : List Nat} (f : Fre h p) (hl : ∀ id, id ∈ p → id < h1.next) (f1 : Fre h1 q) (hn : h.next ≤ h1.next) : Fre h (p ++ q) :=
  ⟨fun id hid => by
    rcases List.mem_append.1 hid with hid | hid
    · exact f.lo id hid
    · have := f1.lo id hid
      omega, List.nodup_append.2 ⟨f.nd, f1.nd, fun a ha b hb => by
        have := hl a ha
        have := f1.lo b hb
        omega⟩⟩
section
variable {tag : Nat} {h0 h : Heap} {x y : Cell} {rows new : List (List Cell)}
theorem Acc.nil (tag : Nat) (h : Heap) : Acc tag h h .nil [] := ⟨On.refl h, [], SlR.nil _ _ _, Fre.nil h⟩
theorem Acc.none (o : On h0 h) : Acc tag h0 h .nil [] := ⟨o, [], SlR.nil _ _ _, Fre.nil h0⟩
theorem Fre.at {h0 h : Heap} (hn : h0.next ≤ h.next) : Fre h0 [h.next] := ⟨fun id hid => by simp at hid; omega, by simp⟩
theorem Acc.lit (o : On h0 h) (rows : List (List Cell)) (hl : rows.length ≤ 140737488355328) : Acc tag h0 (h.push rows) (.sl tag h.next 0 rows.length) rows :=
  ⟨o.trans (On.push h rows), [h.next], SlR.ofFlat (enc := fun r => r) (by unfold maxLen; omega) (by rw [push_get]; simp) (by rw [push_next]; omega), Fre.at o.ext.1⟩
theorem Acc.lit0 (o : On h0 h) : Acc tag h0 (h.push []) (.sl tag h.next 0 0) [] := Acc.lit o [] (by simp)
theorem Acc.push (a : Acc tag h0 h x rows) (r : List (List Cell)) : Acc tag h0 (h.push r) x rows := by
  obtain ⟨o, fp, w, f⟩ := a
  exact ⟨o.trans (On.push h r), fp, w.on (Fl.ok _) (On.push h r), f⟩
theorem Acc.go {h' : Heap} (a : Acc tag h0 h x rows) (o' : On h h') : Acc tag h0 h' x rows := by
  obtain ⟨o, fp, w, f⟩ := a
  exact ⟨o.trans o', fp, w.on (Fl.ok _) o', f⟩
theorem Acc.cat_eq (a : Acc tag h0 h x rows) (hf : h0.floor ≤ h0.next) {bytes : Nat} (hy : A.isTag tag y = true) (hr : rowsOf h y = some new) (hb : (rows.length + new.length) * bytes ≤ 140737488355328) :
    appF h tag bytes x y = some (catX tag h x new.length, catH h x new) := by
  obtain ⟨o, fp, w, f⟩ := a
  rw [appF, if_pos hy, hr]
  simp only [Option.bind_some]
  rcases w.flat with ⟨rfl, rfl, rfl⟩ | ⟨hx, hg, hn, rfl⟩
  · simp only [List.length_nil, Nat.zero_add] at hb
    simp only [catX, catH]
    split
    · rfl
    · simp [hb]
  · have hfl : h.floor ≤ x.sid := by rw [o.fl]; exact Nat.le_trans hf (f.lo _ (by simp))
    rw [hx]
    simp only [Cell.sid, catX, catH] at hg hfl hb ⊢
    simp only [hg, Option.bind_some, List.length_map]
    simp [hfl, hb]
theorem Acc.cat (a : Acc tag h0 h x rows) (hf : h0.floor ≤ h0.next) (hl : rows.length + new.length ≤ 140737488355328) : Acc tag h0 (catH h x new) (catX tag h x new.length) (rows ++ new) := by
  obtain ⟨o, fp, w, f⟩ := a
  rcases w.flat with ⟨rfl, rfl, rfl⟩ | ⟨hx, hg, hn, rfl⟩
  · simp only [catX, catH]
    split
    · rename_i h0'
      have : new = [] := List.eq_nil_of_length_eq_zero h0'
      subst this
      exact Acc.none o
    · simp only [List.nil_append]
      exact Acc.lit o new (by simp at hl; omega)
  · have hlo : h0.next ≤ x.sid := f.lo _ (by simp)
    have o1 : On h0 (h.kill x.sid) := ⟨⟨o.ext.1, fun id hid => by
      simp only [Heap.kill]
      rw [if_neg (by omega)]
      exact o.ext.2 id hid⟩, o.fl⟩
    rw [hx] at o1 ⊢
    simp only [Cell.sid, catX, catH] at hg o1 ⊢
    simp only [hg, Option.getD_some, List.map_id_fun', id]
    have := Acc.lit (tag := tag) o1 (rows ++ new) (by simpa using hl)
    rw [List.length_append] at this
    exact this
/-- One element, laid and appended. -/
theorem Acc.one_eq (a : Acc tag h0 h x rows) (hf : h0.floor ≤ h0.next) {bytes : Nat} (hb : (rows.length + 1) * bytes ≤ 140737488355328) (row : List Cell) :
    appF (h.push [row]) tag bytes x (.sl tag h.next 0 1) = some (catX tag (h.push [row]) x 1, catH (h.push [row]) x [row]) :=
  (a.push [row]).cat_eq (y := .sl tag h.next 0 1) (new := [row]) hf (by simp [A.isTag]) (by simp [rowsOf, push_get]) hb
theorem Acc.one (a : Acc tag h0 h x rows) (hf : h0.floor ≤ h0.next) (hl : rows.length + 1 ≤ 140737488355328) (row : List Cell) : Acc tag h0 (catH (h.push [row]) x [row]) (catX tag (h.push [row]) x 1) (rows ++ [row]) :=
  (a.push [row]).cat hf (new := [row]) hl
theorem SlR.ofRaw {α : Type} {enc : α → List Cell} {xs : List α} {fp : List Nat} (w : SlR tag (Fl fun r => r) h x (xs.map enc) fp) : SlR tag (Fl enc) h x xs fp := by
  have hl := w.le
  rw [List.length_map] at hl
  rcases w.flat with ⟨rfl, h2, rfl⟩ | ⟨hx, hg, hn, rfl⟩
  · have : xs = [] := List.map_eq_nil_iff.1 h2
    subst this
    exact SlR.nil _ _ _
  · rw [List.length_map] at hx
    rw [hx]
    exact SlR.ofFlat hl (by rw [hg]; simp) hn
theorem Acc.flat {α : Type} {enc : α → List Cell} {xs : List α} (a : Acc tag h0 h x (xs.map enc)) : On h0 h ∧ ∃ fp, SlR tag (Fl enc) h x xs fp ∧ Fre h0 fp := by
  obtain ⟨o, fp, w, f⟩ := a
  exact ⟨o, fp, w.ofRaw, f⟩
end
end Go.Proofs.Ytlbagejkjkfkjaa.A
/- Loops that append. -/
namespace Go.Proofs.Ytlbagejkjkfkjaa.A
open Go
set_option linter.unusedSimpArgs false
set_option linter.unusedVariables false
theorem flatMap_le {α β : Type} (g : α → List β) (hg : ∀ a, (g a).length ≤ 1) : ∀ xs : List α, (xs.flatMap g).length ≤ xs.length
  | [] => by simp
  | a :: r => by
    rw [List.flatMap_cons, List.length_append, List.length_cons]
    have := hg a
    have := flatMap_le g hg r
    omega
/-- One turn goes on, or returns; the run stands here once. -/
def Step2 (r : Option (Ex × St)) (J Q : St → Prop) (L : St → Option (Ex × St)) : Prop := (∃ s', J s' ∧ r = L s') ∨ ∃ s', r = some (.ret, s') ∧ Q s'
section
variable {F : Nat → Option RF} {Z : CallF} {live : List Nat} {b : RC}
/-- A loop that appends at most one element at each turn. -/
theorem loop_acc {α : Type} (xs : List α) (g : α → List (List Cell)) (tag : Nat) (h0 : Heap) (st : Nat → Cell → Heap → St) (hg : ∀ a, (g a).length ≤ 1)
    (hs : ∀ i (hi : i < xs.length) y h rows, Acc tag h0 h y rows → rows.length ≤ i → ∃ y' h', Acc tag h0 h' y' (rows ++ g xs[i]) ∧ loop F Z live b (st i y h) = loop F Z live b (st (i + 1) y' h')) {y : Cell} {h : Heap} (a0 : Acc tag h0 h y []) :
    ∃ y' h', Acc tag h0 h' y' (xs.flatMap g) ∧ loop F Z live b (st 0 y h) = loop F Z live b (st xs.length y' h') := by
  have key : ∀ n, n ≤ xs.length → ∃ y' h', Acc tag h0 h' y' ((xs.take n).flatMap g) ∧ ((xs.take n).flatMap g).length ≤ n ∧ loop F Z live b (st 0 y h) = loop F Z live b (st n y' h') := by
    intro n
    induction n with
    | zero => intro _; exact ⟨y, h, by simpa using a0, by simp, rfl⟩
    | succ n ih =>
      intro hn
      obtain ⟨y1, h1, a1, l1, e1⟩ := ih (by omega)
      obtain ⟨y2, h2, a2, e2⟩ := hs n (by omega) y1 h1 _ a1 l1
      have ht : (xs.take (n + 1)).flatMap g = (xs.take n).flatMap g ++ g xs[n] := by
        rw [List.take_add_one, List.getElem?_eq_getElem (by omega), List.flatMap_append]; simp
      refine ⟨y2, h2, by rw [ht]; exact a2, ?_, e1.trans e2⟩
      rw [ht, List.length_append]
      have := hg xs[n]
      omega
  obtain ⟨y', h', a', _, e'⟩ := key xs.length (Nat.le_refl _)
  rw [List.take_length] at a'
  exact ⟨y', h', a', e'⟩
/-- A loop that returns at the first element that fits. -/
theorem loop_find {α : Type} (xs : List α) (p : α → Bool) (st : Nat → St) (Q : Nat → St → Prop) (hs : ∀ i (hi : i < xs.length), Turn (loop F Z live b (st i)) (loop F Z live b (st (i + 1))) (!p xs[i]) (Q i)) :
    (xs.findIdx? p = none ∧ loop F Z live b (st 0) = loop F Z live b (st xs.length)) ∨ ∃ i, xs.findIdx? p = some i ∧ i < xs.length ∧ ∃ s, loop F Z live b (st 0) = some (.ret, s) ∧ Q i s := by
  have key : ∀ n, n ≤ xs.length → ((∀ i (hi : i < xs.length), i < n → p xs[i] = false) ∧ loop F Z live b (st 0) = loop F Z live b (st n)) ∨ ∃ i, xs.findIdx? p = some i ∧ i < xs.length ∧ ∃ s, loop F Z live b (st 0) = some (.ret, s) ∧ Q i s := by
    intro n
    induction n with
    | zero => intro _; exact .inl ⟨fun i hi h => absurd h (Nat.not_lt_zero _), rfl⟩
    | succ n ih =>
      intro hn
      rcases ih (by omega) with ⟨h1, h2⟩ | h
      · rcases hs n (by omega) with ⟨h3, h4⟩ | ⟨h3, s, h4, h5⟩
        · refine .inl ⟨fun i hi hl => ?_, h2.trans h4⟩
          by_cases he : i = n
          · subst he; simpa using h3
          · exact h1 i hi (by omega)
        · refine .inr ⟨n, ?_, by omega, s, h2.trans h4, h5⟩
          rw [List.findIdx?_eq_some_iff_getElem]
          refine ⟨by omega, by simpa using h3, fun j hj => ?_⟩
          simpa using h1 j (by omega) (by omega)
      · exact .inr h
  rcases key xs.length (Nat.le_refl _) with ⟨h1, h2⟩ | h
  · refine .inl ⟨?_, h2⟩
    rw [List.findIdx?_eq_none_iff]
    intro a ha
    obtain ⟨i, hi, rfl⟩ := List.mem_iff_getElem.1 ha
    exact h1 i hi hi
  · exact .inr h
/-- A loop of so many turns, some of which return. -/
theorem loop_rel (n : Nat) (I : Nat → St → Prop) (Q : St → Prop) (hs : ∀ i s, i < n → I i s → Step2 (loop F Z live b s) (I (i + 1)) Q (loop F Z live b)) {s : St} (h0 : I 0 s) :
    (∃ s', I n s' ∧ loop F Z live b s = loop F Z live b s') ∨ ∃ s', loop F Z live b s = some (.ret, s') ∧ Q s' := by
  induction n with
  | zero => exact .inl ⟨s, h0, rfl⟩
  | succ n ih =>
    rcases ih fun i s hi => hs i s (by omega) with ⟨s1, i1, e1⟩ | h
    · rcases hs n s1 (by omega) i1 with ⟨s2, i2, e2⟩ | ⟨s2, e2, q2⟩
      · exact .inl ⟨s2, i2, e1.trans e2⟩
      · exact .inr ⟨s2, e1.trans e2, q2⟩
    · exact .inr h
/-- The place of the first that fits, -1 for none. -/
def findI {α : Type} (p : α → Bool) (xs : List α) : Int := match xs.findIdx? p with
  | some i => (i : Int)
  | none => -1
/-- A loop over a list that carries a value on. -/
theorem loop_fold {α σ : Type} (xs : List α) (step : σ → α → σ) (I : Nat → σ → St → Prop) (hs : ∀ i (hi : i < xs.length) a s, I i a s → ∃ s', I (i + 1) (step a xs[i]) s' ∧ loop F Z live b s = loop F Z live b s') {a : σ} {s : St} (h0 : I 0 a s) :
    ∃ s', I xs.length (xs.foldl step a) s' ∧ loop F Z live b s = loop F Z live b s' := by
  have key : ∀ n, n ≤ xs.length → ∃ s', I n ((xs.take n).foldl step a) s' ∧ loop F Z live b s = loop F Z live b s' := by
    intro n
    induction n with
    | zero => intro _; exact ⟨s, by simpa using h0, rfl⟩
    | succ n ih =>
      intro hn
      obtain ⟨s1, i1, e1⟩ := ih (by omega)
      obtain ⟨s2, i2, e2⟩ := hs n (by omega) _ s1 i1
      refine ⟨s2, ?_, e1.trans e2⟩
      rw [List.take_add_one, List.getElem?_eq_getElem (by omega), List.foldl_append]
      exact i2
  obtain ⟨s', i', e'⟩ := key xs.length (Nat.le_refl _)
  rw [List.take_length] at i'
  exact ⟨s', i', e'⟩
end
end Go.Proofs.Ytlbagejkjkfkjaa.A
/- Rows of data with memory of their own: read, and filled one by one. -/
namespace Go.Proofs.Ytlbagejkjkfkjaa.A
open Go
set_option linter.unusedSimpArgs false
set_option linter.unusedVariables false
section
variable {α : Type} {R : Rel α} {tag : Nat} {h : Heap} {x : Cell} {xs : List α} {fp : List Nat}
/-- One row of a slice. -/
theorem SlR.one (w : SlR tag R h x xs fp) {i : Nat} (hi : i < xs.length) : ∃ r f, (∀ j n, loadP h x.sid i j n = cut? r j n) ∧ R h r xs[i] f ∧ ∀ id, id ∈ f → id ∈ fp := by
  obtain ⟨r, f, h1, h2, h3⟩ := w.row hi
  exact ⟨r, f, fun j n => by simp [loadP, h1], h2, h3⟩
/-- Rows of which the first are filled. -/
structure Filled (R : Rel α) (h0 g : Heap) (o : Nat) (z : List Cell) (xs : List α) (i : Nat) (rows : List (List Cell)) (fps : List (List Nat)) : Prop where
  on : On h0 g
  ge : h0.next ≤ o
  lt : o < g.next
  get : g.get o = some rows
  len : rows.length = xs.length
  rel : AllR R g (rows.take i) (xs.take i) fps
  rest : ∀ j, i ≤ j → j < xs.length → rows[j]? = some z
  nd : fps.flatten.Nodup
  out : ∀ id, id ∈ fps.flatten → o < id
theorem AllR.snoc {h : Heap} : ∀ {rows : List (List Cell)} {xs : List α} {fps : List (List Nat)}, AllR R h rows xs fps → ∀ {r a f}, R h r a f → AllR R h (rows ++ [r]) (xs ++ [a]) (fps ++ [f])
  | [], [], [], _ => fun w => ⟨w, trivial⟩
  | _ :: _, _ :: _, _ :: _, ⟨w1, w⟩ => fun w2 => ⟨w1, w.snoc w2⟩
  | [], [], _ :: _, w => w.elim
  | [], _ :: _, _, w => w.elim
  | _ :: _, [], _, w => w.elim
  | _ :: _, _ :: _, [], w => w.elim
theorem Filled.start (h : Heap) (z : List Cell) (xs : List α) : Filled R h (h.push (List.replicate xs.length z)) h.next z xs 0 (List.replicate xs.length z) [] where
  on := On.push _ _
  ge := Nat.le_refl _
  lt := by rw [push_next]; omega
  get := push_get _ _
  len := by simp
  rel := trivial
  rest := fun j _ hj => by rw [List.getElem?_replicate, if_pos hj]
  nd := List.nodup_nil
  out := fun id hid => by simp at hid
/-- One more row. -/
theorem Filled.step (ok : RelOk R) {h0 g g' : Heap} {o : Nat} {z : List Cell} {i : Nat} {rows : List (List Cell)} {fps : List (List Nat)} (w : Filled R h0 g o z xs i rows fps) (hf : h0.floor ≤ h0.next) (hi : i < xs.length)
    {cs : List Cell} {fq : List Nat} (hz : cs.length = z.length) (o' : On g g') (v : R g' cs xs[i] fq) (f : Fre g fq) :
    storeP g' o i 0 cs = some (g'.put o (rows.set i cs)) ∧ Filled R h0 (g'.put o (rows.set i cs)) o z xs (i + 1) (rows.set i cs) (fps ++ [fq]) := by
  have hget : g'.get o = some rows := by rw [o'.ext.2 o w.lt]; exact w.get
  have hri : rows[i]? = some z := w.rest i (Nat.le_refl _) hi
  have hfl : g'.floor ≤ o := by rw [o'.fl, w.on.fl]; exact Nat.le_trans hf w.ge
  have hlen : i < rows.length := by rw [w.len]; exact hi
  have hput : ∀ id, id ≠ o → (g'.put o (rows.set i cs)).get id = g'.get id := fun id hid => by simp only [Heap.put]; rw [if_neg hid]
  have hin : ∀ id, id ∈ fps.flatten → id < g.next := by
    intro id hid
    exact w.rel.lt ok id hid
  refine ⟨?_, ?_⟩
  · refine storeP_at hfl hget hri ?_
    rw [splice?, if_pos (by omega)]
    simp [← hz]
  · refine ⟨⟨⟨Nat.le_trans w.on.ext.1 o'.ext.1, fun id hid => ?_⟩, o'.fl.trans w.on.fl⟩, w.ge, Nat.lt_of_lt_of_le w.lt o'.ext.1, by simp [Heap.put], by simp [w.len], ?_, fun j h1 h2 => ?_, ?_, fun id hid => ?_⟩
    · have := w.ge
      rw [hput id (by omega), o'.ext.2 id (Nat.lt_of_lt_of_le hid w.on.ext.1)]
      exact w.on.ext.2 id hid
    · have e1 : (rows.set i cs).take (i + 1) = rows.take i ++ [cs] := by
        rw [List.take_add_one, List.getElem?_set_self hlen]
        rw [List.take_set, List.set_eq_of_length_le (by simp; omega)]
        rfl
      have e2 : xs.take (i + 1) = xs.take i ++ [xs[i]] := by rw [List.take_add_one, List.getElem?_eq_getElem hi]; rfl
      rw [e1, e2]
      have v' : R (g'.put o (rows.set i cs)) cs xs[i] fq := ok.mv v (Nat.le_refl _) fun id hid => hput id (by have := f.lo id hid; have := w.lt; omega)
      refine AllR.snoc (w.rel.mv (h' := g'.put o (rows.set i cs)) ok o'.ext.1 fun id hid => ?_) v'
      rw [hput id (by have := w.out id hid; omega)]
      exact o'.ext.2 id (hin id hid)
    · rw [List.getElem?_set_ne (by omega)]
      exact w.rest j (by omega) h2
    · rw [List.flatten_append]
      simp only [List.flatten_cons, List.flatten_nil, List.append_nil]
      exact List.nodup_append.2 ⟨w.nd, f.nd, fun a ha b hb => by have := hin a ha; have := f.lo b hb; omega⟩
    · rw [List.flatten_append] at hid
      simp only [List.flatten_cons, List.flatten_nil, List.append_nil] at hid
      rcases List.mem_append.1 hid with hid | hid
      · exact w.out id hid
      · have := f.lo id hid
        have := w.lt
        omega
theorem Filled.all {h0 g : Heap} {o : Nat} {z : List Cell} {rows : List (List Cell)} {fps : List (List Nat)} (w : Filled R h0 g o z xs xs.length rows fps) (hl : xs.length ≤ 1048576) (tag : Nat) :
    On h0 g ∧ SlR tag R g (.sl tag o 0 xs.length) xs (o :: fps.flatten) ∧ Fre h0 (o :: fps.flatten) := by
  have hr := w.rel
  rw [List.take_length, ← w.len, List.take_length] at hr
  refine ⟨w.on, ⟨by unfold maxLen; omega, .inr ⟨o, rows, fps, rfl, w.get, w.lt, rfl, hr⟩⟩, ⟨fun id hid => ?_, ?_⟩⟩
  · have := w.ge
    rcases List.mem_cons.1 hid with rfl | hid
    · omega
    · have := w.out id hid; omega
  · exact List.nodup_cons.2 ⟨fun hc => by have := w.out o hc; omega, w.nd⟩
end
end Go.Proofs.Ytlbagejkjkfkjaa.A
/- Loops behind which the heap goes on. -/
namespace Go.Proofs.Ytlbagejkjkfkjaa.A
open Go
set_option linter.unusedSimpArgs false
set_option linter.unusedVariables false
/-- One turn goes on with a heap that goes on, or returns. -/
def TurnO (r : Option (Ex × St)) (next : Heap → Option (Ex × St)) (g : Heap) (p : Bool) (Q : St → Prop) : Prop :=
  (p = true ∧ ∃ g', On g g' ∧ r = next g') ∨ (p = false ∧ ∃ s', r = some (.ret, s') ∧ On g s'.hp ∧ Q s')
section
variable {F : Nat → Option RF} {Z : CallF} {live : List Nat} {b : RC}
theorem loop_on (n : Nat) (st : Nat → Heap → St) (h : Heap) (P : Nat → Bool) (Q : St → Prop)
    (hs : ∀ i g, i < n → On h g → TurnO (loop F Z live b (st i g)) (fun g' => loop F Z live b (st (i + 1) g')) g (P i) Q) :
    TurnO (loop F Z live b (st 0 h)) (fun g' => loop F Z live b (st n g')) h ((List.range n).all P) Q := by
  induction n with
  | zero => exact .inl ⟨rfl, h, On.refl h, rfl⟩
  | succ n ih =>
    have hl : (List.range (n + 1)).all P = ((List.range n).all P && P n) := by rw [List.range_succ, List.all_append]; simp
    rcases ih fun i g hi => hs i g (by omega) with ⟨h1, g1, o1, e1⟩ | ⟨h1, s', e1, o1, q1⟩
    · rcases hs n g1 (by omega) o1 with ⟨h3, g2, o2, e2⟩ | ⟨h3, s', e2, o2, q2⟩
      · exact .inl ⟨by rw [hl, h1, h3]; rfl, g2, o1.trans o2, e1.trans e2⟩
      · exact .inr ⟨by rw [hl, h1, h3]; rfl, s', e1.trans e2, o1.trans o2, q2⟩
    · exact .inr ⟨by rw [hl, h1]; rfl, s', e1, o1, q1⟩
end
theorem On.mkup {h h' : Heap} (o : On ⟨h.next, h.next, h.get⟩ h') : On h ⟨h'.next, h.floor, h'.get⟩ := ⟨⟨o.ext.1, o.ext.2⟩, rfl⟩
end Go.Proofs.Ytlbagejkjkfkjaa.A
/- Slices of data with memory: built by appending, and with one row turned. -/
namespace Go.Proofs.Ytlbagejkjkfkjaa.A
open Go
set_option linter.unusedSimpArgs false
set_option linter.unusedVariables false
theorem push_ne {h : Heap} (r : List (List Cell)) {id : Nat} (hid : id ≠ h.next) : (h.push r).get id = h.get id := by simp only [Heap.push]; rw [if_neg hid]
theorem kill_ne {h : Heap} {k id : Nat} (hid : id ≠ k) : (h.kill k).get id = h.get id := by simp only [Heap.kill]; rw [if_neg hid]
theorem put_ne {h : Heap} {k id : Nat} (r : List (List Cell)) (hid : id ≠ k) : (h.put k r).get id = h.get id := by simp only [Heap.put]; rw [if_neg hid]
theorem kill_next (h : Heap) (k : Nat) : (h.kill k).next = h.next := rfl
/-- A cell shows data that was made behind h0. -/
structure AccM {α : Type} (R : Rel α) (tag : Nat) (h0 h : Heap) (x : Cell) (xs : List α) (fp : List Nat) : Prop where
  on : On h0 h
  sh : SlR tag R h x xs fp
  fr : Fre h0 fp
section
variable {α : Type} {R : Rel α} {tag : Nat} {h0 h g : Heap} {x : Cell} {xs : List α} {fp fq : List Nat}
theorem AccM.nil (R : Rel α) (tag : Nat) (h : Heap) : AccM R tag h h .nil [] [] := ⟨On.refl h, SlR.nil _ _ _, Fre.nil h⟩
theorem AccM.none (R : Rel α) (tag : Nat) (o : On h0 h) : AccM R tag h0 h .nil [] [] := ⟨o, SlR.nil _ _ _, Fre.nil h0⟩
theorem AccM.lit0 (R : Rel α) (tag : Nat) (o : On h0 h) : AccM R tag h0 (h.push []) (.sl tag h.next 0 0) [] [h.next] :=
  ⟨o.trans (On.push h []), ⟨by simp, .inr ⟨h.next, [], [], rfl, push_get _ _, by rw [push_next]; omega, rfl, trivial⟩⟩, Fre.at o.ext.1⟩
theorem AccM.go (a : AccM R tag h0 h x xs fp) (ok : RelOk R) (o : On h g) : AccM R tag h0 g x xs fp := ⟨a.on.trans o, a.sh.on ok o, a.fr⟩
theorem Fre.gt (f : Fre h0 fp) : ∀ id, id < h0.next → id ∉ fp := fun id h1 h2 => by have := f.lo id h2; omega
theorem Fre.sep {p q : List Nat} (f : Fre h0 p) (hp : ∀ id, id ∈ p → id < h.next) (g : Fre h q) : ∀ id, id ∈ q → id ∉ p := fun id h1 h2 => by
  have := hp id h2
  have := g.lo id h1
  omega
theorem flat_snoc {fps : List (List Nat)} {fq : List Nat} : (fps ++ [fq]).flatten = fps.flatten ++ fq := by simp
/-- One more element. -/
theorem AccM.one (ok : RelOk R) (a : AccM R tag h0 h x xs fp) (hf : h0.floor ≤ h0.next) {bytes : Nat} (hb : (xs.length + 1) * bytes ≤ 140737488355328) (hl : xs.length + 1 ≤ 140737488355328)
    (o : On h g) {cs : List Cell} {t : α} (v : R g cs t fq) (f : Fre h0 fq) (d : ∀ id, id ∈ fq → id ∉ fp) :
    ∃ y' g' fp', appF (g.push [cs]) tag bytes x (.sl tag g.next 0 1) = some (y', g') ∧ AccM R tag h0 g' y' (xs ++ [t]) fp' ∧ h.next ≤ g'.next ∧ (∀ id, id ∈ fp' → id ∈ fp ∨ id ∈ fq ∨ g.next ≤ id) ∧ (∀ id, id < g.next → id ∉ fp → g'.get id = g.get id) := by
  have on' := a.on.trans o
  have hlt : ∀ id, id ∈ fq → id < g.next := ok.lt v
  have hp1 : ∀ id, id < g.next → (g.push [cs]).get id = g.get id := fun id hid => by simp only [Heap.push]; rw [if_neg (by omega)]
  have hn := o.ext.1
  rcases a.sh with ⟨_, ⟨rfl, rfl, rfl⟩ | ⟨id, rows, fps, rfl, q1, q2, rfl, q3⟩⟩
  · refine ⟨.sl tag (g.next + 1) 0 1, (g.push [cs]).push [cs], (g.next + 1) :: ([fq] : List (List Nat)).flatten, ?_, ⟨on'.trans ((On.push _ _).trans (On.push _ _)), ⟨by simp [maxLen], .inr ⟨g.next + 1, [cs], [fq], rfl, ?_, ?_, rfl, ?_⟩⟩, ⟨?_, ?_⟩⟩, ?_, ?_, ?_⟩
    · simp only [List.length_nil, Nat.zero_add] at hb
      simp only [appF, isTag, beq_self_eq_true, ↓reduceIte, rowsOf, push_get, Option.bind_some, List.length_singleton, Nat.zero_add, Nat.le_refl, List.drop_zero, List.take_one, List.head?_cons, Option.toList_some]
      rw [if_neg (by omega), if_pos (by omega)]; rfl
    · exact push_get _ _
    · simp only [push_next]; omega
    · refine ⟨ok.mv v (by simp only [push_next]; omega) fun id hid => ?_, trivial⟩
      have := hlt id hid
      rw [push_ne _ (by rw [push_next]; omega), push_ne _ (by omega)]
    · intro id hid
      simp only [List.flatten_cons, List.flatten_nil, List.append_nil, List.mem_cons] at hid
      rcases hid with rfl | hid
      · have := on'.ext.1; omega
      · exact f.lo id hid
    · simp only [List.flatten_cons, List.flatten_nil, List.append_nil, List.nodup_cons]
      exact ⟨fun hc => by have := hlt _ hc; omega, f.nd⟩
    · simp only [push_next]; omega
    · intro id hid
      simp only [List.flatten_cons, List.flatten_nil, List.append_nil, List.mem_cons] at hid
      rcases hid with rfl | hid
      · exact .inr (.inr (by omega))
      · exact .inr (.inl hid)
    · intro id h1 _
      rw [push_ne _ (by rw [push_next]; omega), push_ne _ (by omega)]
  · have hlo : h0.next ≤ id := a.fr.lo id (by simp)
    have hnd := List.nodup_cons.1 a.fr.nd
    have hrl := q3.len
    have hg : (g.push [cs]).get id = some rows := by rw [hp1 id (by omega), o.ext.2 id q2, q1]
    have hfl : g.floor ≤ id := by rw [on'.fl]; omega
    have hin : ∀ j, j ∈ fps.flatten → j < h.next := q3.lt ok
    have hgt : ∀ j, j < g.next → j ≠ id → (((g.push [cs]).kill id).push (rows ++ [cs])).get j = g.get j := fun j h1 h2 => by
      rw [push_ne _ (by rw [kill_next, push_next]; omega), kill_ne h2, push_ne _ (by omega)]
    refine ⟨.sl tag (g.next + 1) 0 (xs.length + 1), ((g.push [cs]).kill id).push (rows ++ [cs]), (g.next + 1) :: (fps ++ [fq]).flatten, ?_, ⟨⟨⟨?_, ?_⟩, ?_⟩, ⟨by simp [maxLen]; omega, .inr ⟨g.next + 1, rows ++ [cs], fps ++ [fq], by simp, ?_, ?_, rfl, ?_⟩⟩, ⟨?_, ?_⟩⟩, ?_, ?_, ?_⟩
    · simp only [appF, isTag, beq_self_eq_true, ↓reduceIte, rowsOf, push_get, Option.bind_some, List.length_singleton, Nat.zero_add, Nat.le_refl, List.drop_zero, List.take_one, List.head?_cons, Option.toList_some, hg]
      simp only [hrl, push_floor, hfl, hb, and_self, ↓reduceIte]; rfl
    · have := on'.ext.1
      simp only [Heap.push, Heap.kill]; omega
    · intro j hj
      have := on'.ext.1
      rw [hgt j (by omega) (by omega)]
      exact on'.ext.2 j hj
    · exact on'.fl
    · simp [Heap.push, Heap.kill]
    · simp only [Heap.push, Heap.kill]; omega
    · refine AllR.snoc (q3.mv (h' := ((g.push [cs]).kill id).push (rows ++ [cs])) ok (by simp only [Heap.push, Heap.kill]; omega) fun j hj => ?_) (ok.mv v (by simp only [Heap.push, Heap.kill]; omega) fun j hj => ?_)
      · have h1 := hin j hj
        rw [hgt j (by omega) (fun e => hnd.1 (e ▸ hj))]
        exact o.ext.2 j h1
      · exact hgt j (hlt j hj) fun e => d j hj (by rw [e]; simp)
    · intro j hj
      rw [flat_snoc] at hj
      rcases List.mem_cons.1 hj with rfl | hj
      · have := on'.ext.1; omega
      · rcases List.mem_append.1 hj with hj | hj
        · exact a.fr.lo j (by simp [hj])
        · exact f.lo j hj
    · rw [flat_snoc, List.nodup_cons]
      refine ⟨fun hc => ?_, List.nodup_append.2 ⟨hnd.2, f.nd, fun p hp q hq e => d q hq (by rw [← e]; simp [hp])⟩⟩
      rcases List.mem_append.1 hc with hc | hc
      · have := hin _ hc; omega
      · have := hlt _ hc; omega
    · simp only [Heap.push, Heap.kill]; omega
    · intro j hj
      rw [flat_snoc] at hj
      rcases List.mem_cons.1 hj with rfl | hj
      · exact .inr (.inr (by omega))
      · rcases List.mem_append.1 hj with hj | hj
        · exact .inl (by simp [hj])
        · exact .inr (.inl hj)
    · intro j h1 h2
      exact hgt j h1 fun e => h2 (by rw [e]; simp)
end
end Go.Proofs.Ytlbagejkjkfkjaa.A
