/- The functions that the statement reaches, part 1: bodies and what they compute. No condition. -/
import Derived.Test.YtlbagejkjkfkjaaA1
import Derived.Test.YtlbagejkjkfkjaaB8
import Derived.Test.YtlbagejkjkfkjaaB6
import Derived.Test.YtlbagejkjkfkjaaB5
import Derived.Test.YtlbagejkjkfkjaaD
/- The compact code of some functions: impl.totalOf, impl.copyBook, impl.isBook. -/
namespace Go.Proofs.Ytlbagejkjkfkjaa.A
open Go
/-- A loop of impl.totalOf. -/
def r209L0 : RC :=
 .seq (.reg [⟨none, .bin 14 .lss (.t 13) (.t 12)⟩])
    (.seq (.cond (.t 14)
     (.skip)
     (.exit 0))
    (.seq (.block 1 (.seq (.reg [⟨none, .idx 15 11 (.t 11) (.t 13)⟩,
       ⟨none, .load 16 15 5 true⟩,
       ⟨none, .loc 7 [.int .u64 0, .int .u64 0, .int .u64 0, .int .u64 0, .int .i64 0]⟩,
       ⟨none, .store 7 5 (.t 16)⟩])
      (.seq (.reg [⟨none, .mov 18 (.t 5)⟩,
       ⟨none, .fad 19 7 1⟩,
       ⟨none, .load 20 19 1 false⟩,
       ⟨none, .fad 21 7 2⟩,
       ⟨none, .load 22 21 1 false⟩,
       ⟨none, .bin 23 .add (.t 20) (.t 22)⟩,
       ⟨none, .add 24 (.t 18) (.t 23) (.k (.int .u64 0))⟩,
       ⟨none, .mov 17 (.t 24)⟩,
       ⟨none, .ext 25 (.t 17) 0⟩,
       ⟨none, .ext 26 (.t 17) 1⟩,
       ⟨none, .mov 8 (.t 25)⟩,
       ⟨none, .mov 9 (.t 26)⟩])
      (.seq (.reg [⟨none, .mov 27 (.t 8)⟩,
       ⟨none, .mov 5 (.t 27)⟩])
      (.reg [⟨none, .mov 28 (.t 4)⟩,
      ⟨none, .mov 29 (.t 9)⟩,
      ⟨none, .bin 30 .add (.t 28) (.t 29)⟩,
      ⟨none, .mov 4 (.t 30)⟩])))))
    (.reg [⟨none, .bin 31 .add (.t 13) (.k (.int .i64 1))⟩,
    ⟨none, .mov 13 (.t 31)⟩])))
/-- impl.totalOf -/
def r209 : RF :=
 ⟨1, [.tmp 2, .tmp 3],
 .seq (.reg [⟨none, .locb 1 (.t 0)⟩,
  ⟨none, .mov 2 (.k (.int .u64 0))⟩,
  ⟨none, .mov 3 (.k (.int .u64 0))⟩])
 (.seq (.reg [⟨none, .mov 4 (.k (.int .u64 0))⟩,
  ⟨none, .mov 5 (.k (.int .u64 0))⟩])
 (.seq (.seq (.reg [⟨none, .fad 10 1 0⟩,
   ⟨none, .load 11 10 1 false⟩,
   ⟨none, .len 12 (.t 11)⟩,
   ⟨none, .mov 13 (.k (.int .i64 0))⟩])
  (.block 0 (.loop [4, 5, 11, 12, 13]
   r209L0)))
 (.seq (.reg [⟨none, .mov 32 (.t 4)⟩,
  ⟨none, .mov 33 (.t 5)⟩,
  ⟨none, .mov 2 (.t 32)⟩,
  ⟨none, .mov 3 (.t 33)⟩])
 (.ret))))⟩
/-- impl.copyBook -/
def r260 : RF :=
 ⟨1, [.cell 2 1 true],
 .seq (.reg [⟨none, .locb 1 (.t 0)⟩,
  ⟨none, .loc 2 [.nil]⟩])
 (.seq (.reg [⟨none, .lit 3 11 0 [.int .u64 0, .int .u64 0, .int .u64 0, .int .u64 0, .int .i64 0] []⟩,
  ⟨none, .fad 4 1 0⟩,
  ⟨none, .load 5 4 1 false⟩,
  ⟨none, .app 6 11 40 (.t 3) (.t 5)⟩,
  ⟨none, .build 7 [.nil] [(0, 1, (.t 6))]⟩,
  ⟨none, .store 2 1 (.t 7)⟩])
 (.ret))⟩
/-- A loop of impl.isBook. -/
def r265L0 : RC :=
 .seq (.reg [⟨none, .bin 13 .lss (.t 12) (.t 11)⟩])
    (.seq (.cond (.t 13)
     (.skip)
     (.exit 0))
    (.seq (.block 1 (.seq (.reg [⟨none, .mov 14 (.t 12)⟩,
       ⟨none, .idx 15 11 (.t 10) (.t 12)⟩,
       ⟨none, .load 16 15 5 true⟩,
       ⟨none, .loc 4 [.int .u64 0, .int .u64 0, .int .u64 0, .int .u64 0, .int .i64 0]⟩,
       ⟨none, .mov 3 (.t 14)⟩,
       ⟨none, .store 4 5 (.t 16)⟩])
      (.seq (.reg [⟨none, .fad 18 4 1⟩,
       ⟨none, .load 19 18 1 false⟩,
       ⟨none, .fad 20 4 2⟩,
       ⟨none, .load 21 20 1 false⟩,
       ⟨none, .add 22 (.t 19) (.t 21) (.k (.int .u64 0))⟩,
       ⟨none, .mov 17 (.t 22)⟩,
       ⟨none, .ext 23 (.t 17) 0⟩,
       ⟨none, .ext 24 (.t 17) 1⟩,
       ⟨none, .mov 5 (.t 23)⟩,
       ⟨none, .mov 6 (.t 24)⟩])
      (.seq (.reg [⟨none, .fad 26 4 1⟩,
       ⟨none, .load 27 26 1 false⟩,
       ⟨none, .fad 28 4 2⟩,
       ⟨none, .load 29 28 1 false⟩,
       ⟨none, .bin 30 .add (.t 27) (.t 29)⟩,
       ⟨none, .fad 31 4 3⟩,
       ⟨none, .load 32 31 1 false⟩,
       ⟨none, .add 33 (.t 30) (.t 32) (.k (.int .u64 0))⟩,
       ⟨none, .mov 25 (.t 33)⟩,
       ⟨none, .ext 34 (.t 25) 0⟩,
       ⟨none, .ext 35 (.t 25) 1⟩,
       ⟨none, .mov 7 (.t 34)⟩,
       ⟨none, .mov 8 (.t 35)⟩])
      (.seq (.reg [⟨none, .chk []⟩,
       ⟨none, .mov 36 (.t 6)⟩,
       ⟨none, .mov 37 (.t 8)⟩,
       ⟨none, .bin 38 .add (.t 36) (.t 37)⟩,
       ⟨none, .bin 39 .gtr (.t 38) (.k (.int .u64 0))⟩,
       ⟨none, .mov 40 (.t 39)⟩,
       ⟨some (40, false), .fad 41 4 4⟩,
       ⟨some (40, false), .load 42 41 1 false⟩,
       ⟨some (40, false), .bin 43 .lss (.t 42) (.k (.int .i64 0))⟩,
       ⟨none, .pick 44 (.t 40) (.k (.bool true)) (.t 43)⟩,
       ⟨none, .mov 45 (.t 44)⟩,
       ⟨some (45, false), .fad 46 4 4⟩,
       ⟨some (45, false), .load 47 46 1 false⟩,
       ⟨some (45, false), .bin 48 .eql (.t 47) (.k (.int .i64 0))⟩,
       ⟨some (45, false), .mov 49 (.t 48)⟩,
       ⟨some (49, true), .fad 50 4 2⟩,
       ⟨some (49, true), .load 51 50 1 false⟩,
       ⟨some (49, true), .bin 52 .neq (.t 51) (.k (.int .u64 0))⟩,
       ⟨some (49, true), .mov 53 (.t 52)⟩,
       ⟨some (53, false), .fad 54 4 3⟩,
       ⟨some (53, false), .load 55 54 1 false⟩,
       ⟨some (53, false), .bin 56 .neq (.t 55) (.k (.int .u64 0))⟩,
       ⟨some (49, true), .pick 57 (.t 53) (.k (.bool true)) (.t 56)⟩,
       ⟨some (45, false), .pick 58 (.t 49) (.t 57) (.k (.bool false))⟩,
       ⟨none, .pick 59 (.t 45) (.k (.bool true)) (.t 58)⟩,
       ⟨none, .mov 60 (.t 59)⟩,
       ⟨some (60, false), .mov 61 (.t 3)⟩,
       ⟨some (60, false), .bin 62 .gtr (.t 61) (.k (.int .i64 0))⟩,
       ⟨some (60, false), .mov 63 (.t 62)⟩,
       ⟨some (63, true), .mov 66 (.t 3)⟩,
       ⟨some (63, true), .bin 67 .sub (.t 66) (.k (.int .i64 1))⟩,
       ⟨some (63, true), .fad 64 1 0⟩,
       ⟨some (63, true), .load 65 64 1 false⟩,
       ⟨some (63, true), .idx 68 11 (.t 65) (.t 67)⟩,
       ⟨some (63, true), .fad 69 68 0⟩,
       ⟨some (63, true), .load 70 69 1 false⟩,
       ⟨some (63, true), .fad 71 4 0⟩,
       ⟨some (63, true), .load 72 71 1 false⟩,
       ⟨some (63, true), .bin 73 .geq (.t 70) (.t 72)⟩,
       ⟨some (60, false), .pick 74 (.t 63) (.t 73) (.k (.bool false))⟩,
       ⟨none, .pick 75 (.t 60) (.k (.bool true)) (.t 74)⟩])
      (.cond (.t 75)
      (.seq (.reg [⟨none, .mov 2 (.k (.bool false))⟩])
       (.ret))
      (.skip)))))))
    (.reg [⟨none, .bin 76 .add (.t 12) (.k (.int .i64 1))⟩,
    ⟨none, .mov 12 (.t 76)⟩])))
/-- impl.isBook -/
def r265 : RF :=
 ⟨1, [.tmp 2],
 .seq (.reg [⟨none, .locb 1 (.t 0)⟩,
  ⟨none, .mov 2 (.k (.bool false))⟩])
 (.seq (.seq (.reg [⟨none, .fad 9 1 0⟩,
   ⟨none, .load 10 9 1 false⟩,
   ⟨none, .len 11 (.t 10)⟩,
   ⟨none, .mov 12 (.k (.int .i64 0))⟩])
  (.block 0 (.loop [1, 10, 11, 12]
   r265L0)))
 (.seq (.reg [⟨none, .fad 77 1 0⟩,
  ⟨none, .load 78 77 1 false⟩,
  ⟨none, .len 79 (.t 78)⟩,
  ⟨none, .bin 80 .leq (.t 79) (.k (.int .i64 40))⟩,
  ⟨none, .mov 2 (.t 80)⟩])
 (.ret)))⟩
/-- The functions of this text, with their numbers. -/
def tI10 : List (Nat × RF) := [(209, r209), (260, r260), (265, r265)]
end Go.Proofs.Ytlbagejkjkfkjaa.A
/- The compact code of some functions: impl.isGroupId, impl.findRange, impl.areRanges, impl.findRange$1, impl.splitRange, impl.mergeRange. -/
namespace Go.Proofs.Ytlbagejkjkfkjaa.A
open Go
/-- impl.isGroupId -/
def r7 : RF :=
 ⟨1, [.tmp 2],
 .seq (.reg [⟨none, .mov 2 (.k (.bool false))⟩])
 (.seq (.reg [⟨none, .mov 3 (.t 0)⟩,
  ⟨none, .bin 4 .geq (.t 3) (.k (.int .i64 0))⟩,
  ⟨none, .mov 5 (.t 4)⟩,
  ⟨some (5, true), .mov 6 (.t 0)⟩,
  ⟨some (5, true), .bin 7 .leq (.t 6) (.k (.int .i64 99))⟩,
  ⟨none, .pick 8 (.t 5) (.t 7) (.k (.bool false))⟩,
  ⟨none, .mov 2 (.t 8)⟩])
 (.ret))⟩
/-- impl.findRange -/
def r107 : RF :=
 ⟨2, [.tmp 4],
 .seq (.reg [⟨none, .newb 3 (.t 1)⟩,
  ⟨none, .mov 4 (.k (.int .i64 0))⟩])
 (.seq (.reg [⟨none, .mov 5 (.t 0)⟩,
  ⟨none, .mkf 6 125 [3]⟩,
  ⟨none, .call (some 7) 126 [(.t 5), (.t 6)] false⟩,
  ⟨none, .mov 4 (.t 7)⟩])
 (.ret))⟩
/-- A loop of impl.areRanges. -/
def r124L0 : RC :=
 .seq (.reg [⟨none, .bin 33 .lss (.t 32) (.t 31)⟩])
    (.seq (.cond (.t 33)
     (.skip)
     (.exit 0))
    (.seq (.block 1 (.seq (.reg [⟨none, .mov 34 (.t 32)⟩,
       ⟨none, .idx 35 7 (.t 30) (.t 32)⟩,
       ⟨none, .load 36 35 3 true⟩,
       ⟨none, .loc 4 [.int .u64 0, .int .u64 0, .int .i64 0]⟩,
       ⟨none, .mov 3 (.t 34)⟩,
       ⟨none, .store 4 3 (.t 36)⟩])
      (.seq (.reg [⟨none, .chk []⟩,
       ⟨none, .fad 37 4 0⟩,
       ⟨none, .load 38 37 1 false⟩,
       ⟨none, .fad 39 4 1⟩,
       ⟨none, .load 40 39 1 false⟩,
       ⟨none, .bin 41 .gtr (.t 38) (.t 40)⟩,
       ⟨none, .mov 42 (.t 41)⟩,
       ⟨some (42, false), .fad 43 4 2⟩,
       ⟨some (42, false), .load 44 43 1 false⟩,
       ⟨some (42, false), .call (some 45) 7 [(.t 44)] true⟩,
       ⟨some (42, false), .not 46 (.t 45)⟩,
       ⟨none, .pick 47 (.t 42) (.k (.bool true)) (.t 46)⟩,
       ⟨none, .mov 48 (.t 47)⟩,
       ⟨some (48, false), .mov 49 (.t 3)⟩,
       ⟨some (48, false), .bin 50 .gtr (.t 49) (.k (.int .i64 0))⟩,
       ⟨some (48, false), .mov 51 (.t 50)⟩,
       ⟨some (51, true), .fad 52 4 0⟩,
       ⟨some (51, true), .load 53 52 1 false⟩,
       ⟨some (51, true), .bin 54 .eql (.t 53) (.k (.int .u64 0))⟩,
       ⟨some (51, true), .mov 55 (.t 54)⟩,
       ⟨some (55, false), .mov 59 (.t 0)⟩,
       ⟨some (55, false), .mov 60 (.t 3)⟩,
       ⟨some (55, false), .bin 61 .sub (.t 60) (.k (.int .i64 1))⟩,
       ⟨some (55, false), .idx 62 7 (.t 59) (.t 61)⟩,
       ⟨some (55, false), .fad 56 4 0⟩,
       ⟨some (55, false), .load 57 56 1 false⟩,
       ⟨some (55, false), .bin 58 .sub (.t 57) (.k (.int .u64 1))⟩,
       ⟨some (55, false), .fad 63 62 1⟩,
       ⟨some (55, false), .load 64 63 1 false⟩,
       ⟨some (55, false), .bin 65 .neq (.t 58) (.t 64)⟩,
       ⟨some (51, true), .pick 66 (.t 55) (.k (.bool true)) (.t 65)⟩,
       ⟨some (48, false), .pick 67 (.t 51) (.t 66) (.k (.bool false))⟩,
       ⟨none, .pick 68 (.t 48) (.k (.bool true)) (.t 67)⟩])
      (.cond (.t 68)
      (.seq (.reg [⟨none, .mov 2 (.k (.bool false))⟩])
       (.ret))
      (.skip)))))
    (.reg [⟨none, .bin 69 .add (.t 32) (.k (.int .i64 1))⟩,
    ⟨none, .mov 32 (.t 69)⟩])))
/-- impl.areRanges -/
def r124 : RF :=
 ⟨1, [.tmp 2],
 .seq (.reg [⟨none, .mov 2 (.k (.bool false))⟩])
 (.seq (.seq (.reg [⟨none, .mov 5 (.t 0)⟩,
   ⟨none, .len 6 (.t 5)⟩,
   ⟨none, .bin 7 .lss (.t 6) (.k (.int .i64 1))⟩,
   ⟨none, .mov 8 (.t 7)⟩,
   ⟨some (8, false), .mov 9 (.t 0)⟩,
   ⟨some (8, false), .len 10 (.t 9)⟩,
   ⟨some (8, false), .bin 11 .gtr (.t 10) (.k (.int .i64 24))⟩,
   ⟨none, .pick 12 (.t 8) (.k (.bool true)) (.t 11)⟩,
   ⟨none, .mov 13 (.t 12)⟩,
   ⟨some (13, false), .mov 14 (.t 0)⟩,
   ⟨some (13, false), .idx 15 7 (.t 14) (.k (.int .i64 0))⟩,
   ⟨some (13, false), .fad 16 15 0⟩,
   ⟨some (13, false), .load 17 16 1 false⟩,
   ⟨some (13, false), .bin 18 .neq (.t 17) (.k (.int .u64 0))⟩,
   ⟨none, .pick 19 (.t 13) (.k (.bool true)) (.t 18)⟩,
   ⟨none, .mov 20 (.t 19)⟩,
   ⟨some (20, false), .mov 21 (.t 0)⟩,
   ⟨some (20, false), .mov 22 (.t 0)⟩,
   ⟨some (20, false), .len 23 (.t 22)⟩,
   ⟨some (20, false), .bin 24 .sub (.t 23) (.k (.int .i64 1))⟩,
   ⟨some (20, false), .idx 25 7 (.t 21) (.t 24)⟩,
   ⟨some (20, false), .fad 26 25 1⟩,
   ⟨some (20, false), .load 27 26 1 false⟩,
   ⟨some (20, false), .bin 28 .neq (.t 27) (.k (.int .u64 18446744073709551615))⟩,
   ⟨none, .pick 29 (.t 20) (.k (.bool true)) (.t 28)⟩])
  (.cond (.t 29)
  (.seq (.reg [⟨none, .mov 2 (.k (.bool false))⟩])
   (.ret))
  (.skip)))
 (.seq (.seq (.reg [⟨none, .mov 30 (.t 0)⟩,
   ⟨none, .len 31 (.t 30)⟩,
   ⟨none, .mov 32 (.k (.int .i64 0))⟩])
  (.block 0 (.loop [0, 30, 31, 32]
   r124L0)))
 (.seq (.reg [⟨none, .mov 2 (.k (.bool true))⟩])
 (.ret))))⟩
/-- impl.findRange$1 -/
def r125 : RF :=
 ⟨2, [.tmp 3],
 .seq (.reg [⟨none, .locb 2 (.t 0)⟩,
  ⟨none, .mov 3 (.k (.bool false))⟩])
 (.seq (.reg [⟨none, .load 4 1 1 false⟩,
  ⟨none, .fad 5 2 1⟩,
  ⟨none, .load 6 5 1 false⟩,
  ⟨none, .bin 7 .leq (.t 4) (.t 6)⟩,
  ⟨none, .mov 3 (.t 7)⟩])
 (.ret))⟩
/-- impl.splitRange -/
def r255 : RF :=
 ⟨3, [.tmp 6, .tmp 7],
 .seq (.reg [⟨none, .mov 6 (.k (.nil))⟩,
  ⟨none, .mov 7 (.k (.bool false))⟩])
 (.seq (.seq (.reg [⟨none, .mov 11 (.t 0)⟩,
   ⟨none, .call (some 12) 124 [(.t 11)] false⟩,
   ⟨none, .not 13 (.t 12)⟩,
   ⟨none, .mov 14 (.t 13)⟩,
   ⟨some (14, false), .mov 15 (.t 2)⟩,
   ⟨some (14, false), .call (some 16) 7 [(.t 15)] false⟩,
   ⟨some (14, false), .not 17 (.t 16)⟩,
   ⟨none, .pick 18 (.t 14) (.k (.bool true)) (.t 17)⟩,
   ⟨none, .mov 19 (.t 18)⟩,
   ⟨some (19, false), .mov 20 (.t 0)⟩,
   ⟨some (19, false), .len 21 (.t 20)⟩,
   ⟨some (19, false), .bin 22 .eql (.t 21) (.k (.int .i64 24))⟩,
   ⟨none, .pick 23 (.t 19) (.k (.bool true)) (.t 22)⟩])
  (.cond (.t 23)
  (.seq (.reg [⟨none, .mov 6 (.k (.nil))⟩,
    ⟨none, .mov 7 (.k (.bool false))⟩])
   (.ret))
  (.skip)))
 (.seq (.reg [⟨none, .mov 24 (.t 0)⟩,
  ⟨none, .mov 25 (.t 1)⟩,
  ⟨none, .call (some 26) 107 [(.t 24), (.t 25)] false⟩,
  ⟨none, .mov 8 (.t 26)⟩])
 (.seq (.reg [⟨none, .mov 27 (.t 0)⟩,
  ⟨none, .mov 28 (.t 8)⟩,
  ⟨none, .idx 29 7 (.t 27) (.t 28)⟩,
  ⟨none, .load 30 29 3 true⟩,
  ⟨none, .loc 9 [.int .u64 0, .int .u64 0, .int .i64 0]⟩,
  ⟨none, .store 9 3 (.t 30)⟩])
 (.seq (.seq (.reg [⟨none, .fad 31 9 0⟩,
   ⟨none, .load 32 31 1 false⟩,
   ⟨none, .mov 33 (.t 1)⟩,
   ⟨none, .bin 34 .eql (.t 32) (.t 33)⟩])
  (.cond (.t 34)
  (.seq (.reg [⟨none, .mov 6 (.k (.nil))⟩,
    ⟨none, .mov 7 (.k (.bool false))⟩])
   (.ret))
  (.skip)))
 (.seq (.reg [⟨none, .lit 35 7 0 [.int .u64 0, .int .u64 0, .int .i64 0] []⟩,
  ⟨none, .mov 36 (.t 0)⟩,
  ⟨none, .app 37 7 24 (.t 35) (.t 36)⟩,
  ⟨none, .mov 10 (.t 37)⟩])
 (.seq (.reg [⟨none, .mov 38 (.t 10)⟩,
  ⟨none, .mov 39 (.t 8)⟩,
  ⟨none, .mov 40 (.t 1)⟩,
  ⟨none, .bin 41 .sub (.t 40) (.k (.int .u64 1))⟩,
  ⟨none, .idx 42 7 (.t 38) (.t 39)⟩,
  ⟨none, .fad 43 42 1⟩,
  ⟨none, .store 43 1 (.t 41)⟩])
 (.seq (.reg [⟨none, .mov 44 (.t 10)⟩,
  ⟨none, .mov 45 (.t 8)⟩,
  ⟨none, .bin 46 .add (.t 45) (.k (.int .i64 1))⟩,
  ⟨none, .mov 47 (.t 1)⟩,
  ⟨none, .fad 48 9 1⟩,
  ⟨none, .load 49 48 1 false⟩,
  ⟨none, .mov 50 (.t 2)⟩,
  ⟨none, .build 51 [.int .u64 0, .int .u64 0, .int .i64 0] [(0, 1, (.t 47)), (1, 1, (.t 49)), (2, 1, (.t 50))]⟩,
  ⟨none, .lit 52 7 1 [.int .u64 0, .int .u64 0, .int .i64 0] [(0, (.t 51))]⟩,
  ⟨none, .call (some 53) 269 [(.t 44), (.t 46), (.t 52)] false⟩,
  ⟨none, .mov 6 (.t 53)⟩,
  ⟨none, .mov 7 (.k (.bool true))⟩])
 (.ret))))))))⟩
/-- impl.mergeRange -/
def r256 : RF :=
 ⟨2, [.tmp 4, .tmp 5],
 .seq (.reg [⟨none, .mov 4 (.k (.nil))⟩,
  ⟨none, .mov 5 (.k (.bool false))⟩])
 (.seq (.seq (.reg [⟨none, .chk []⟩,
   ⟨none, .mov 7 (.t 0)⟩,
   ⟨none, .call (some 8) 124 [(.t 7)] true⟩,
   ⟨none, .not 9 (.t 8)⟩,
   ⟨none, .mov 10 (.t 9)⟩,
   ⟨some (10, false), .mov 11 (.t 1)⟩,
   ⟨some (10, false), .bin 12 .lss (.t 11) (.k (.int .i64 0))⟩,
   ⟨none, .pick 13 (.t 10) (.k (.bool true)) (.t 12)⟩,
   ⟨none, .mov 14 (.t 13)⟩,
   ⟨some (14, false), .mov 15 (.t 1)⟩,
   ⟨some (14, false), .mov 16 (.t 0)⟩,
   ⟨some (14, false), .len 17 (.t 16)⟩,
   ⟨some (14, false), .bin 18 .sub (.t 17) (.k (.int .i64 1))⟩,
   ⟨some (14, false), .bin 19 .geq (.t 15) (.t 18)⟩,
   ⟨none, .pick 20 (.t 14) (.k (.bool true)) (.t 19)⟩,
   ⟨none, .mov 21 (.t 20)⟩,
   ⟨some (21, false), .mov 22 (.t 0)⟩,
   ⟨some (21, false), .mov 23 (.t 1)⟩,
   ⟨some (21, false), .idx 24 7 (.t 22) (.t 23)⟩,
   ⟨some (21, false), .mov 27 (.t 0)⟩,
   ⟨some (21, false), .mov 28 (.t 1)⟩,
   ⟨some (21, false), .bin 29 .add (.t 28) (.k (.int .i64 1))⟩,
   ⟨some (21, false), .idx 30 7 (.t 27) (.t 29)⟩,
   ⟨some (21, false), .fad 25 24 2⟩,
   ⟨some (21, false), .load 26 25 1 false⟩,
   ⟨some (21, false), .fad 31 30 2⟩,
   ⟨some (21, false), .load 32 31 1 false⟩,
   ⟨some (21, false), .bin 33 .neq (.t 26) (.t 32)⟩,
   ⟨none, .pick 34 (.t 21) (.k (.bool true)) (.t 33)⟩])
  (.cond (.t 34)
  (.seq (.reg [⟨none, .mov 4 (.k (.nil))⟩,
    ⟨none, .mov 5 (.k (.bool false))⟩])
   (.ret))
  (.skip)))
 (.seq (.reg [⟨none, .lit 35 7 0 [.int .u64 0, .int .u64 0, .int .i64 0] []⟩,
  ⟨none, .mov 36 (.t 0)⟩,
  ⟨none, .app 37 7 24 (.t 35) (.t 36)⟩,
  ⟨none, .mov 6 (.t 37)⟩])
 (.seq (.reg [⟨none, .mov 38 (.t 6)⟩,
  ⟨none, .mov 39 (.t 1)⟩,
  ⟨none, .mov 40 (.t 0)⟩,
  ⟨none, .mov 41 (.t 1)⟩,
  ⟨none, .bin 42 .add (.t 41) (.k (.int .i64 1))⟩,
  ⟨none, .idx 43 7 (.t 40) (.t 42)⟩,
  ⟨none, .fad 44 43 1⟩,
  ⟨none, .load 45 44 1 false⟩,
  ⟨none, .idx 46 7 (.t 38) (.t 39)⟩,
  ⟨none, .fad 47 46 1⟩,
  ⟨none, .store 47 1 (.t 45)⟩])
 (.seq (.reg [⟨none, .mov 48 (.t 6)⟩,
  ⟨none, .mov 49 (.t 1)⟩,
  ⟨none, .bin 50 .add (.t 49) (.k (.int .i64 1))⟩,
  ⟨none, .mov 51 (.t 1)⟩,
  ⟨none, .bin 52 .add (.t 51) (.k (.int .i64 2))⟩,
  ⟨none, .call (some 53) 270 [(.t 48), (.t 50), (.t 52)] false⟩,
  ⟨none, .mov 4 (.t 53)⟩,
  ⟨none, .mov 5 (.k (.bool true))⟩])
 (.ret)))))⟩
/-- The functions of this text, with their numbers. -/
def tI11 : List (Nat × RF) := [(7, r7), (107, r107), (124, r124), (125, r125), (255, r255), (256, r256)]
end Go.Proofs.Ytlbagejkjkfkjaa.A
/- The compact code of some functions: impl.StoreOk, impl.StoreTotal, impl.ExportShard, impl.isStore, impl.shardWith, impl.shardAt, impl.copyShard, impl.isShard, impl.shardWith$1, impl.shardAt$1, impl.compareFins. -/
namespace Go.Proofs.Ytlbagejkjkfkjaa.A
open Go
/-- impl.StoreOk -/
def r157 : RF :=
 ⟨1, [.tmp 2],
 .seq (.reg [⟨none, .locb 1 (.t 0)⟩,
  ⟨none, .mov 2 (.k (.bool false))⟩])
 (.seq (.reg [⟨none, .load 3 1 3 true⟩,
  ⟨none, .call (some 4) 206 [(.t 3)] false⟩,
  ⟨none, .mov 2 (.t 4)⟩])
 (.ret))⟩
/-- A loop of impl.StoreTotal. -/
def r164L0 : RC :=
 .seq (.reg [⟨none, .bin 19 .lss (.t 18) (.t 17)⟩])
    (.seq (.cond (.t 19)
     (.skip)
     (.exit 0))
    (.seq (.block 1 (.seq (.reg [⟨none, .idx 20 16 (.t 16) (.t 18)⟩,
       ⟨none, .load 21 20 6 true⟩,
       ⟨none, .loc 7 [.int .u64 0, .int .u64 0, .int .i64 0, .int .i64 0, .nil, .nil]⟩,
       ⟨none, .store 7 6 (.t 21)⟩])
      (.seq (.reg [⟨none, .fad 23 7 4⟩,
       ⟨none, .load 24 23 1 true⟩,
       ⟨none, .call (some 25) 209 [(.t 24)] false⟩,
       ⟨none, .mov 22 (.t 25)⟩,
       ⟨none, .ext 26 (.t 22) 0⟩,
       ⟨none, .ext 27 (.t 22) 1⟩,
       ⟨none, .mov 8 (.t 26)⟩,
       ⟨none, .mov 9 (.t 27)⟩])
      (.seq (.reg [⟨none, .mov 29 (.t 5)⟩,
       ⟨none, .mov 30 (.t 9)⟩,
       ⟨none, .add 31 (.t 29) (.t 30) (.k (.int .u64 0))⟩,
       ⟨none, .mov 28 (.t 31)⟩,
       ⟨none, .ext 32 (.t 28) 0⟩,
       ⟨none, .ext 33 (.t 28) 1⟩,
       ⟨none, .mov 10 (.t 32)⟩,
       ⟨none, .mov 11 (.t 33)⟩])
      (.seq (.reg [⟨none, .mov 34 (.t 10)⟩,
       ⟨none, .mov 5 (.t 34)⟩])
      (.reg [⟨none, .mov 35 (.t 4)⟩,
      ⟨none, .mov 36 (.t 8)⟩,
      ⟨none, .mov 37 (.t 11)⟩,
      ⟨none, .bin 38 .add (.t 36) (.t 37)⟩,
      ⟨none, .bin 39 .add (.t 35) (.t 38)⟩,
      ⟨none, .mov 4 (.t 39)⟩]))))))
    (.reg [⟨none, .bin 40 .add (.t 18) (.k (.int .i64 1))⟩,
    ⟨none, .mov 18 (.t 40)⟩])))
/-- impl.StoreTotal -/
def r164 : RF :=
 ⟨1, [.tmp 2, .tmp 3],
 .seq (.reg [⟨none, .locb 1 (.t 0)⟩,
  ⟨none, .mov 2 (.k (.int .u64 0))⟩,
  ⟨none, .mov 3 (.k (.int .u64 0))⟩])
 (.seq (.seq (.reg [⟨none, .load 12 1 3 true⟩,
   ⟨none, .call (some 13) 206 [(.t 12)] false⟩,
   ⟨none, .not 14 (.t 13)⟩])
  (.cond (.t 14)
  (.seq (.reg [⟨none, .mov 2 (.k (.int .u64 0))⟩,
    ⟨none, .mov 3 (.k (.int .u64 0))⟩])
   (.ret))
  (.skip)))
 (.seq (.reg [⟨none, .mov 4 (.k (.int .u64 0))⟩,
  ⟨none, .mov 5 (.k (.int .u64 0))⟩])
 (.seq (.seq (.reg [⟨none, .fad 15 1 2⟩,
   ⟨none, .load 16 15 1 false⟩,
   ⟨none, .len 17 (.t 16)⟩,
   ⟨none, .mov 18 (.k (.int .i64 0))⟩])
  (.block 0 (.loop [4, 5, 16, 17, 18]
   r164L0)))
 (.seq (.reg [⟨none, .mov 41 (.t 4)⟩,
  ⟨none, .mov 42 (.t 5)⟩,
  ⟨none, .mov 2 (.t 41)⟩,
  ⟨none, .mov 3 (.t 42)⟩])
 (.ret)))))⟩
/-- impl.ExportShard -/
def r190 : RF :=
 ⟨2, [.cell 4 6 true, .tmp 5],
 .seq (.reg [⟨none, .locb 2 (.t 0)⟩,
  ⟨none, .loc 4 [.int .u64 0, .int .u64 0, .int .i64 0, .int .i64 0, .nil, .nil]⟩,
  ⟨none, .mov 5 (.k (.bool false))⟩])
 (.seq (.reg [⟨none, .load 7 2 3 true⟩,
  ⟨none, .mov 8 (.t 1)⟩,
  ⟨none, .call (some 9) 213 [(.t 7), (.t 8), (.k (.int .i64 1))] false⟩,
  ⟨none, .mov 6 (.t 9)⟩])
 (.seq (.seq (.reg [⟨none, .load 10 2 3 true⟩,
   ⟨none, .call (some 11) 206 [(.t 10)] false⟩,
   ⟨none, .not 12 (.t 11)⟩,
   ⟨none, .mov 13 (.t 12)⟩,
   ⟨some (13, false), .mov 14 (.t 6)⟩,
   ⟨some (13, false), .bin 15 .lss (.t 14) (.k (.int .i64 0))⟩,
   ⟨none, .pick 16 (.t 13) (.k (.bool true)) (.t 15)⟩])
  (.cond (.t 16)
  (.seq (.reg [⟨none, .build 17 [.int .u64 0, .int .u64 0, .int .i64 0, .int .i64 0, .nil, .nil] []⟩,
    ⟨none, .store 4 6 (.t 17)⟩,
    ⟨none, .mov 5 (.k (.bool false))⟩])
   (.ret))
  (.skip)))
 (.seq (.reg [⟨none, .fad 18 2 2⟩,
  ⟨none, .load 19 18 1 false⟩,
  ⟨none, .mov 20 (.t 6)⟩,
  ⟨none, .idx 21 16 (.t 19) (.t 20)⟩,
  ⟨none, .load 22 21 6 true⟩,
  ⟨none, .call (some 23) 229 [(.t 22)] false⟩,
  ⟨none, .store 4 6 (.t 23)⟩,
  ⟨none, .mov 5 (.k (.bool true))⟩])
 (.ret))))⟩
/-- A loop of impl.isStore. -/
def r206L0 : RC :=
 .seq (.reg [⟨none, .bin 29 .lss (.t 28) (.t 27)⟩])
    (.seq (.cond (.t 29)
     (.skip)
     (.exit 0))
    (.seq (.block 1 (.seq (.reg [⟨none, .mov 30 (.t 28)⟩,
       ⟨none, .idx 31 16 (.t 26) (.t 28)⟩,
       ⟨none, .load 32 31 6 true⟩,
       ⟨none, .loc 4 [.int .u64 0, .int .u64 0, .int .i64 0, .int .i64 0, .nil, .nil]⟩,
       ⟨none, .mov 3 (.t 30)⟩,
       ⟨none, .store 4 6 (.t 32)⟩])
      (.seq (.reg [⟨none, .chk []⟩,
       ⟨none, .load 33 4 6 true⟩,
       ⟨none, .call (some 34) 244 [(.t 33)] true⟩,
       ⟨none, .not 35 (.t 34)⟩,
       ⟨none, .mov 36 (.t 35)⟩,
       ⟨some (36, false), .fad 37 4 3⟩,
       ⟨some (36, false), .load 38 37 1 false⟩,
       ⟨some (36, false), .fad 39 1 1⟩,
       ⟨some (36, false), .load 40 39 1 false⟩,
       ⟨some (36, false), .bin 41 .gtr (.t 38) (.t 40)⟩,
       ⟨none, .pick 42 (.t 36) (.k (.bool true)) (.t 41)⟩,
       ⟨none, .mov 43 (.t 42)⟩,
       ⟨some (43, false), .mov 44 (.t 3)⟩,
       ⟨some (43, false), .bin 45 .gtr (.t 44) (.k (.int .i64 0))⟩,
       ⟨some (43, false), .mov 46 (.t 45)⟩,
       ⟨some (46, true), .mov 49 (.t 3)⟩,
       ⟨some (46, true), .bin 50 .sub (.t 49) (.k (.int .i64 1))⟩,
       ⟨some (46, true), .fad 47 1 2⟩,
       ⟨some (46, true), .load 48 47 1 false⟩,
       ⟨some (46, true), .idx 51 16 (.t 48) (.t 50)⟩,
       ⟨some (46, true), .fad 52 51 1⟩,
       ⟨some (46, true), .load 53 52 1 false⟩,
       ⟨some (46, true), .fad 54 4 0⟩,
       ⟨some (46, true), .load 55 54 1 false⟩,
       ⟨some (46, true), .bin 56 .geq (.t 53) (.t 55)⟩,
       ⟨some (43, false), .pick 57 (.t 46) (.t 56) (.k (.bool false))⟩,
       ⟨none, .pick 58 (.t 43) (.k (.bool true)) (.t 57)⟩])
      (.cond (.t 58)
      (.seq (.reg [⟨none, .mov 2 (.k (.bool false))⟩])
       (.ret))
      (.skip)))))
    (.reg [⟨none, .bin 59 .add (.t 28) (.k (.int .i64 1))⟩,
    ⟨none, .mov 28 (.t 59)⟩])))
/-- impl.isStore -/
def r206 : RF :=
 ⟨1, [.tmp 2],
 .seq (.reg [⟨none, .locb 1 (.t 0)⟩,
  ⟨none, .mov 2 (.k (.bool false))⟩])
 (.seq (.seq (.reg [⟨none, .fad 5 1 0⟩,
   ⟨none, .load 6 5 1 false⟩,
   ⟨none, .call (some 7) 7 [(.t 6)] false⟩,
   ⟨none, .not 8 (.t 7)⟩,
   ⟨none, .mov 9 (.t 8)⟩,
   ⟨some (9, false), .fad 10 1 1⟩,
   ⟨some (9, false), .load 11 10 1 false⟩,
   ⟨some (9, false), .bin 12 .lss (.t 11) (.k (.int .i64 0))⟩,
   ⟨none, .pick 13 (.t 9) (.k (.bool true)) (.t 12)⟩,
   ⟨none, .mov 14 (.t 13)⟩,
   ⟨some (14, false), .fad 15 1 1⟩,
   ⟨some (14, false), .load 16 15 1 false⟩,
   ⟨some (14, false), .bin 17 .gtr (.t 16) (.k (.int .i64 1000000))⟩,
   ⟨none, .pick 18 (.t 14) (.k (.bool true)) (.t 17)⟩,
   ⟨none, .mov 19 (.t 18)⟩,
   ⟨some (19, false), .fad 20 1 2⟩,
   ⟨some (19, false), .load 21 20 1 false⟩,
   ⟨some (19, false), .len 22 (.t 21)⟩,
   ⟨some (19, false), .bin 23 .gtr (.t 22) (.k (.int .i64 8))⟩,
   ⟨none, .pick 24 (.t 19) (.k (.bool true)) (.t 23)⟩])
  (.cond (.t 24)
  (.seq (.reg [⟨none, .mov 2 (.k (.bool false))⟩])
   (.ret))
  (.skip)))
 (.seq (.seq (.reg [⟨none, .fad 25 1 2⟩,
   ⟨none, .load 26 25 1 false⟩,
   ⟨none, .len 27 (.t 26)⟩,
   ⟨none, .mov 28 (.k (.int .i64 0))⟩])
  (.block 0 (.loop [1, 26, 27, 28]
   r206L0)))
 (.seq (.reg [⟨none, .mov 2 (.k (.bool true))⟩])
 (.ret))))⟩
/-- impl.shardWith -/
def r212 : RF :=
 ⟨2, [.tmp 4],
 .seq (.reg [⟨none, .locb 2 (.t 0)⟩,
  ⟨none, .newb 3 (.t 1)⟩,
  ⟨none, .mov 4 (.k (.int .i64 0))⟩])
 (.seq (.reg [⟨none, .fad 5 2 2⟩,
  ⟨none, .load 6 5 1 false⟩,
  ⟨none, .mkf 7 247 [3]⟩,
  ⟨none, .call (some 8) 248 [(.t 6), (.t 7)] false⟩,
  ⟨none, .mov 4 (.t 8)⟩])
 (.ret))⟩
/-- impl.shardAt -/
def r213 : RF :=
 ⟨3, [.tmp 6],
 .seq (.reg [⟨none, .locb 3 (.t 0)⟩,
  ⟨none, .newb 4 (.t 1)⟩,
  ⟨none, .newb 5 (.t 2)⟩,
  ⟨none, .mov 6 (.k (.int .i64 0))⟩])
 (.seq (.reg [⟨none, .fad 7 3 2⟩,
  ⟨none, .load 8 7 1 false⟩,
  ⟨none, .mkf 9 249 [4, 5]⟩,
  ⟨none, .call (some 10) 248 [(.t 8), (.t 9)] false⟩,
  ⟨none, .mov 6 (.t 10)⟩])
 (.ret))⟩
/-- impl.copyShard -/
def r229 : RF :=
 ⟨1, [.cell 2 6 true],
 .seq (.reg [⟨none, .locb 1 (.t 0)⟩,
  ⟨none, .loc 2 [.int .u64 0, .int .u64 0, .int .i64 0, .int .i64 0, .nil, .nil]⟩])
 (.seq (.reg [⟨none, .fad 3 1 4⟩,
  ⟨none, .load 4 3 1 true⟩,
  ⟨none, .call (some 5) 260 [(.t 4)] false⟩,
  ⟨none, .fad 6 1 4⟩,
  ⟨none, .store 6 1 (.t 5)⟩])
 (.seq (.reg [⟨none, .lit 7 9 0 [.int .i64 0, .int .u64 0] []⟩,
  ⟨none, .fad 8 1 5⟩,
  ⟨none, .load 9 8 1 false⟩,
  ⟨none, .app 10 9 16 (.t 7) (.t 9)⟩,
  ⟨none, .fad 11 1 5⟩,
  ⟨none, .store 11 1 (.t 10)⟩])
 (.seq (.reg [⟨none, .load 12 1 6 true⟩,
  ⟨none, .store 2 6 (.t 12)⟩])
 (.ret))))⟩
/-- A loop of impl.isShard. -/
def r244L0 : RC :=
 .seq (.reg [⟨none, .bin 79 .lss (.t 78) (.t 77)⟩])
    (.seq (.cond (.t 79)
     (.skip)
     (.exit 2))
    (.seq (.block 3 (.seq (.reg [⟨none, .mov 80 (.t 78)⟩,
       ⟨none, .idx 81 9 (.t 76) (.t 78)⟩,
       ⟨none, .load 82 81 2 true⟩,
       ⟨none, .loc 6 [.int .i64 0, .int .u64 0]⟩,
       ⟨none, .mov 5 (.t 80)⟩,
       ⟨none, .store 6 2 (.t 82)⟩])
      (.seq (.reg [⟨none, .chk []⟩,
       ⟨none, .fad 83 6 0⟩,
       ⟨none, .load 84 83 1 false⟩,
       ⟨none, .bin 85 .lss (.t 84) (.k (.int .i64 1))⟩,
       ⟨none, .mov 86 (.t 85)⟩,
       ⟨some (86, false), .fad 87 6 1⟩,
       ⟨some (86, false), .load 88 87 1 false⟩,
       ⟨some (86, false), .fad 89 1 0⟩,
       ⟨some (86, false), .load 90 89 1 false⟩,
       ⟨some (86, false), .bin 91 .lss (.t 88) (.t 90)⟩,
       ⟨none, .pick 92 (.t 86) (.k (.bool true)) (.t 91)⟩,
       ⟨none, .mov 93 (.t 92)⟩,
       ⟨some (93, false), .fad 94 6 1⟩,
       ⟨some (93, false), .load 95 94 1 false⟩,
       ⟨some (93, false), .fad 96 1 1⟩,
       ⟨some (93, false), .load 97 96 1 false⟩,
       ⟨some (93, false), .bin 98 .gtr (.t 95) (.t 97)⟩,
       ⟨none, .pick 99 (.t 93) (.k (.bool true)) (.t 98)⟩,
       ⟨none, .mov 100 (.t 99)⟩,
       ⟨some (100, false), .mov 101 (.t 5)⟩,
       ⟨some (100, false), .bin 102 .gtr (.t 101) (.k (.int .i64 0))⟩,
       ⟨some (100, false), .mov 103 (.t 102)⟩,
       ⟨some (103, true), .mov 106 (.t 5)⟩,
       ⟨some (103, true), .bin 107 .sub (.t 106) (.k (.int .i64 1))⟩,
       ⟨some (103, true), .fad 104 1 5⟩,
       ⟨some (103, true), .load 105 104 1 false⟩,
       ⟨some (103, true), .idx 108 9 (.t 105) (.t 107)⟩,
       ⟨some (103, true), .load 109 108 2 true⟩,
       ⟨some (103, true), .load 110 6 2 true⟩,
       ⟨some (103, true), .call (some 111) 267 [(.t 109), (.t 110)] true⟩,
       ⟨some (103, true), .bin 112 .geq (.t 111) (.k (.int .i64 0))⟩,
       ⟨some (100, false), .pick 113 (.t 103) (.t 112) (.k (.bool false))⟩,
       ⟨none, .pick 114 (.t 100) (.k (.bool true)) (.t 113)⟩])
      (.cond (.t 114)
      (.seq (.reg [⟨none, .mov 2 (.k (.bool false))⟩])
       (.ret))
      (.skip)))))
    (.reg [⟨none, .bin 115 .add (.t 78) (.k (.int .i64 1))⟩,
    ⟨none, .mov 78 (.t 115)⟩])))
/-- A loop of impl.isShard. -/
def r244L1 : RC :=
 .seq (.reg [⟨none, .bin 49 .lss (.t 48) (.t 47)⟩])
    (.seq (.cond (.t 49)
     (.skip)
     (.exit 0))
    (.seq (.block 1 (.seq (.reg [⟨none, .idx 50 11 (.t 46) (.t 48)⟩,
       ⟨none, .load 51 50 5 true⟩,
       ⟨none, .loc 4 [.int .u64 0, .int .u64 0, .int .u64 0, .int .u64 0, .int .i64 0]⟩,
       ⟨none, .store 4 5 (.t 51)⟩])
      (.seq (.reg [⟨none, .fad 52 4 0⟩,
       ⟨none, .load 53 52 1 false⟩,
       ⟨none, .fad 54 1 0⟩,
       ⟨none, .load 55 54 1 false⟩,
       ⟨none, .bin 56 .lss (.t 53) (.t 55)⟩,
       ⟨none, .mov 57 (.t 56)⟩,
       ⟨some (57, false), .fad 58 4 0⟩,
       ⟨some (57, false), .load 59 58 1 false⟩,
       ⟨some (57, false), .fad 60 1 1⟩,
       ⟨some (57, false), .load 61 60 1 false⟩,
       ⟨some (57, false), .bin 62 .gtr (.t 59) (.t 61)⟩,
       ⟨none, .pick 63 (.t 57) (.k (.bool true)) (.t 62)⟩,
       ⟨none, .mov 64 (.t 63)⟩,
       ⟨some (64, false), .fad 65 1 5⟩,
       ⟨some (64, false), .load 66 65 1 false⟩,
       ⟨some (64, false), .fad 67 4 4⟩,
       ⟨some (64, false), .load 68 67 1 false⟩,
       ⟨some (64, false), .fad 69 4 0⟩,
       ⟨some (64, false), .load 70 69 1 false⟩,
       ⟨some (64, false), .build 71 [.int .i64 0, .int .u64 0] [(0, 1, (.t 68)), (1, 1, (.t 70))]⟩,
       ⟨some (64, false), .call (some 72) 266 [(.t 66), (.t 71)] false⟩,
       ⟨none, .pick 73 (.t 64) (.k (.bool true)) (.t 72)⟩])
      (.cond (.t 73)
      (.seq (.reg [⟨none, .mov 2 (.k (.bool false))⟩])
       (.ret))
      (.skip)))))
    (.reg [⟨none, .bin 74 .add (.t 48) (.k (.int .i64 1))⟩,
    ⟨none, .mov 48 (.t 74)⟩])))
/-- impl.isShard -/
def r244 : RF :=
 ⟨1, [.tmp 2],
 .seq (.reg [⟨none, .locb 1 (.t 0)⟩,
  ⟨none, .mov 2 (.k (.bool false))⟩])
 (.seq (.seq (.reg [⟨none, .fad 7 1 0⟩,
   ⟨none, .load 8 7 1 false⟩,
   ⟨none, .fad 9 1 1⟩,
   ⟨none, .load 10 9 1 false⟩,
   ⟨none, .bin 11 .gtr (.t 8) (.t 10)⟩,
   ⟨none, .mov 12 (.t 11)⟩,
   ⟨some (12, false), .fad 13 1 2⟩,
   ⟨some (12, false), .load 14 13 1 false⟩,
   ⟨some (12, false), .bin 15 .neq (.t 14) (.k (.int .i64 0))⟩,
   ⟨some (12, false), .mov 16 (.t 15)⟩,
   ⟨some (16, true), .fad 17 1 2⟩,
   ⟨some (16, true), .load 18 17 1 false⟩,
   ⟨some (16, true), .bin 19 .neq (.t 18) (.k (.int .i64 1))⟩,
   ⟨some (12, false), .pick 20 (.t 16) (.t 19) (.k (.bool false))⟩,
   ⟨none, .pick 21 (.t 12) (.k (.bool true)) (.t 20)⟩,
   ⟨none, .mov 22 (.t 21)⟩,
   ⟨some (22, false), .fad 23 1 3⟩,
   ⟨some (22, false), .load 24 23 1 false⟩,
   ⟨some (22, false), .bin 25 .lss (.t 24) (.k (.int .i64 1))⟩,
   ⟨none, .pick 26 (.t 22) (.k (.bool true)) (.t 25)⟩,
   ⟨none, .mov 27 (.t 26)⟩,
   ⟨some (27, false), .fad 28 1 3⟩,
   ⟨some (27, false), .load 29 28 1 false⟩,
   ⟨some (27, false), .bin 30 .gtr (.t 29) (.k (.int .i64 1000000))⟩,
   ⟨none, .pick 31 (.t 27) (.k (.bool true)) (.t 30)⟩,
   ⟨none, .mov 32 (.t 31)⟩,
   ⟨some (32, false), .fad 33 1 4⟩,
   ⟨some (32, false), .load 34 33 1 true⟩,
   ⟨some (32, false), .call (some 35) 265 [(.t 34)] false⟩,
   ⟨some (32, false), .not 36 (.t 35)⟩,
   ⟨none, .pick 37 (.t 32) (.k (.bool true)) (.t 36)⟩,
   ⟨none, .mov 38 (.t 37)⟩,
   ⟨some (38, false), .fad 39 1 5⟩,
   ⟨some (38, false), .load 40 39 1 false⟩,
   ⟨some (38, false), .len 41 (.t 40)⟩,
   ⟨some (38, false), .bin 42 .gtr (.t 41) (.k (.int .i64 60))⟩,
   ⟨none, .pick 43 (.t 38) (.k (.bool true)) (.t 42)⟩])
  (.cond (.t 43)
  (.seq (.reg [⟨none, .mov 2 (.k (.bool false))⟩])
   (.ret))
  (.skip)))
 (.seq (.seq (.reg [⟨none, .fad 44 1 4⟩,
   ⟨none, .fad 45 44 0⟩,
   ⟨none, .load 46 45 1 false⟩,
   ⟨none, .len 47 (.t 46)⟩,
   ⟨none, .mov 48 (.k (.int .i64 0))⟩])
  (.block 0 (.loop [1, 46, 47, 48]
   r244L1)))
 (.seq (.seq (.reg [⟨none, .fad 75 1 5⟩,
   ⟨none, .load 76 75 1 false⟩,
   ⟨none, .len 77 (.t 76)⟩,
   ⟨none, .mov 78 (.k (.int .i64 0))⟩])
  (.block 2 (.loop [1, 76, 77, 78]
   r244L0)))
 (.seq (.reg [⟨none, .mov 2 (.k (.bool true))⟩])
 (.ret)))))⟩
/-- impl.shardWith$1 -/
def r247 : RF :=
 ⟨2, [.tmp 3],
 .seq (.reg [⟨none, .locb 2 (.t 0)⟩,
  ⟨none, .mov 3 (.k (.bool false))⟩])
 (.seq (.reg [⟨none, .fad 4 2 0⟩,
  ⟨none, .load 5 4 1 false⟩,
  ⟨none, .load 6 1 1 false⟩,
  ⟨none, .bin 7 .leq (.t 5) (.t 6)⟩,
  ⟨none, .mov 8 (.t 7)⟩,
  ⟨some (8, true), .load 9 1 1 false⟩,
  ⟨some (8, true), .fad 10 2 1⟩,
  ⟨some (8, true), .load 11 10 1 false⟩,
  ⟨some (8, true), .bin 12 .leq (.t 9) (.t 11)⟩,
  ⟨none, .pick 13 (.t 8) (.t 12) (.k (.bool false))⟩,
  ⟨none, .mov 3 (.t 13)⟩])
 (.ret))⟩
/-- impl.shardAt$1 -/
def r249 : RF :=
 ⟨3, [.tmp 4],
 .seq (.reg [⟨none, .locb 3 (.t 0)⟩,
  ⟨none, .mov 4 (.k (.bool false))⟩])
 (.seq (.reg [⟨none, .fad 5 3 0⟩,
  ⟨none, .load 6 5 1 false⟩,
  ⟨none, .load 7 1 1 false⟩,
  ⟨none, .bin 8 .eql (.t 6) (.t 7)⟩,
  ⟨none, .mov 9 (.t 8)⟩,
  ⟨some (9, true), .fad 10 3 2⟩,
  ⟨some (9, true), .load 11 10 1 false⟩,
  ⟨some (9, true), .load 12 2 1 false⟩,
  ⟨some (9, true), .bin 13 .eql (.t 11) (.t 12)⟩,
  ⟨none, .pick 14 (.t 9) (.t 13) (.k (.bool false))⟩,
  ⟨none, .mov 4 (.t 14)⟩])
 (.ret))⟩
/-- impl.compareFins -/
def r267 : RF :=
 ⟨2, [.tmp 4],
 .seq (.reg [⟨none, .locb 2 (.t 0)⟩,
  ⟨none, .locb 3 (.t 1)⟩,
  ⟨none, .mov 4 (.k (.int .i64 0))⟩])
 (.seq (.reg [⟨none, .chk []⟩,
  ⟨none, .fad 5 2 0⟩,
  ⟨none, .load 6 5 1 false⟩,
  ⟨none, .fad 7 3 0⟩,
  ⟨none, .load 8 7 1 false⟩,
  ⟨none, .fad 10 2 1⟩,
  ⟨none, .load 11 10 1 false⟩,
  ⟨none, .fad 12 3 1⟩,
  ⟨none, .load 13 12 1 false⟩,
  ⟨none, .call (some 9) 273 [(.t 6), (.t 8)] true⟩,
  ⟨none, .call (some 14) 274 [(.t 11), (.t 13)] true⟩,
  ⟨none, .lit 15 15 2 [.int .i64 0] [(0, (.t 9)), (1, (.t 14))]⟩,
  ⟨none, .call (some 16) 275 [(.t 15)] true⟩,
  ⟨none, .mov 4 (.t 16)⟩])
 (.ret))⟩
/-- The functions of this text, with their numbers. -/
def tI13 : List (Nat × RF) := [(157, r157), (164, r164), (190, r190), (206, r206), (212, r212), (213, r213), (229, r229), (244, r244), (247, r247), (249, r249), (267, r267)]
end Go.Proofs.Ytlbagejkjkfkjaa.A
/- The compact code of some functions: laws.szAccountS, laws.toAccountS, laws.eqAccountS, laws.toAccount, laws.eqAccount, laws.markAccountS, laws.heldAccountS. -/
namespace Go.Proofs.Ytlbagejkjkfkjaa.A
open Go
/-- laws.szAccountS -/
def r136 : RF :=
 ⟨2, [.tmp 4],
 .seq (.reg [⟨none, .mov 4 (.k (.int .i64 0))⟩])
 (.seq (.reg [⟨none, .mov 5 (.t 1)⟩,
  ⟨none, .mov 6 (.t 0)⟩,
  ⟨none, .len 7 (.t 6)⟩,
  ⟨none, .bin 8 .sub (.t 5) (.t 7)⟩,
  ⟨none, .mov 1 (.t 8)⟩])
 (.seq (.seq (.reg [⟨none, .mov 9 (.t 1)⟩,
   ⟨none, .bin 10 .lss (.t 9) (.k (.int .i64 0))⟩])
  (.cond (.t 10)
  (.seq (.reg [⟨none, .mov 4 (.k (.int .i64 (-1)))⟩])
   (.ret))
  (.skip)))
 (.seq (.reg [⟨none, .mov 11 (.t 1)⟩,
  ⟨none, .mov 4 (.t 11)⟩])
 (.ret))))⟩
/-- A loop of laws.toAccountS. -/
def r137L0 : RC :=
 .seq (.seq (.reg [⟨none, .mov 8 (.t 4)⟩,
      ⟨none, .mov 9 (.t 0)⟩,
      ⟨none, .len 10 (.t 9)⟩,
      ⟨none, .bin 11 .lss (.t 8) (.t 10)⟩])
     (.cond (.t 11)
     (.skip)
     (.exit 0)))
    (.seq (.block 1 (.reg [⟨none, .mov 14 (.t 3)⟩,
      ⟨none, .mov 15 (.t 4)⟩,
      ⟨none, .mov 16 (.t 0)⟩,
      ⟨none, .mov 17 (.t 4)⟩,
      ⟨none, .idx 18 12 (.t 16) (.t 17)⟩,
      ⟨none, .load 19 18 5 true⟩,
      ⟨none, .call (some 20) 141 [(.t 19)] false⟩,
      ⟨none, .idx 21 11 (.t 14) (.t 15)⟩,
      ⟨none, .store 21 5 (.t 20)⟩]))
    (.reg [⟨none, .mov 12 (.t 4)⟩,
    ⟨none, .bin 13 .add (.t 12) (.k (.int .i64 1))⟩,
    ⟨none, .mov 4 (.t 13)⟩]))
/-- laws.toAccountS -/
def r137 : RF :=
 ⟨1, [.tmp 2],
 .seq (.reg [⟨none, .mov 2 (.k (.nil))⟩])
 (.seq (.reg [⟨none, .mov 5 (.t 0)⟩,
  ⟨none, .len 6 (.t 5)⟩,
  ⟨none, .mks 7 11 40 [.int .u64 0, .int .u64 0, .int .u64 0, .int .u64 0, .int .i64 0] (.t 6) (.t 6)⟩,
  ⟨none, .mov 3 (.t 7)⟩])
 (.seq (.seq (.reg [⟨none, .mov 4 (.k (.int .i64 0))⟩])
  (.block 0 (.loop [0, 3, 4]
   r137L0)))
 (.seq (.reg [⟨none, .mov 22 (.t 3)⟩,
  ⟨none, .mov 2 (.t 22)⟩])
 (.ret))))⟩
/-- A loop of laws.eqAccountS. -/
def r139L0 : RC :=
 .seq (.seq (.reg [⟨none, .mov 11 (.t 5)⟩,
      ⟨none, .mov 12 (.t 0)⟩,
      ⟨none, .len 13 (.t 12)⟩,
      ⟨none, .bin 14 .lss (.t 11) (.t 13)⟩])
     (.cond (.t 14)
     (.skip)
     (.exit 0)))
    (.seq (.block 1 (.seq (.reg [⟨none, .chk []⟩,
       ⟨none, .mov 17 (.t 0)⟩,
       ⟨none, .mov 18 (.t 5)⟩,
       ⟨none, .idx 19 11 (.t 17) (.t 18)⟩,
       ⟨none, .mov 21 (.t 1)⟩,
       ⟨none, .mov 22 (.t 5)⟩,
       ⟨none, .idx 23 11 (.t 21) (.t 22)⟩,
       ⟨none, .load 20 19 5 true⟩,
       ⟨none, .load 24 23 5 true⟩,
       ⟨none, .call (some 25) 142 [(.t 20), (.t 24)] true⟩,
       ⟨none, .not 26 (.t 25)⟩])
      (.cond (.t 26)
      (.seq (.reg [⟨none, .mov 4 (.k (.bool false))⟩])
       (.ret))
      (.skip))))
    (.reg [⟨none, .mov 15 (.t 5)⟩,
    ⟨none, .bin 16 .add (.t 15) (.k (.int .i64 1))⟩,
    ⟨none, .mov 5 (.t 16)⟩]))
/-- laws.eqAccountS -/
def r139 : RF :=
 ⟨2, [.tmp 4],
 .seq (.reg [⟨none, .mov 4 (.k (.bool false))⟩])
 (.seq (.seq (.reg [⟨none, .mov 6 (.t 0)⟩,
   ⟨none, .len 7 (.t 6)⟩,
   ⟨none, .mov 8 (.t 1)⟩,
   ⟨none, .len 9 (.t 8)⟩,
   ⟨none, .bin 10 .neq (.t 7) (.t 9)⟩])
  (.cond (.t 10)
  (.seq (.reg [⟨none, .mov 4 (.k (.bool false))⟩])
   (.ret))
  (.skip)))
 (.seq (.seq (.reg [⟨none, .mov 5 (.k (.int .i64 0))⟩])
  (.block 0 (.loop [0, 1, 5]
   r139L0)))
 (.seq (.reg [⟨none, .mov 4 (.k (.bool true))⟩])
 (.ret))))⟩
/-- laws.toAccount -/
def r141 : RF :=
 ⟨1, [.cell 2 5 true],
 .seq (.reg [⟨none, .locb 1 (.t 0)⟩,
  ⟨none, .loc 2 [.int .u64 0, .int .u64 0, .int .u64 0, .int .u64 0, .int .i64 0]⟩])
 (.seq (.reg [⟨none, .loc 3 [.int .u64 0, .int .u64 0, .int .u64 0, .int .u64 0, .int .i64 0]⟩])
 (.seq (.reg [⟨none, .fad 4 1 0⟩,
  ⟨none, .load 5 4 1 false⟩,
  ⟨none, .fad 6 3 0⟩,
  ⟨none, .store 6 1 (.t 5)⟩])
 (.seq (.reg [⟨none, .fad 7 1 1⟩,
  ⟨none, .load 8 7 1 false⟩,
  ⟨none, .fad 9 3 1⟩,
  ⟨none, .store 9 1 (.t 8)⟩])
 (.seq (.reg [⟨none, .fad 10 1 2⟩,
  ⟨none, .load 11 10 1 false⟩,
  ⟨none, .fad 12 3 2⟩,
  ⟨none, .store 12 1 (.t 11)⟩])
 (.seq (.reg [⟨none, .fad 13 1 3⟩,
  ⟨none, .load 14 13 1 false⟩,
  ⟨none, .fad 15 3 3⟩,
  ⟨none, .store 15 1 (.t 14)⟩])
 (.seq (.reg [⟨none, .fad 16 1 4⟩,
  ⟨none, .load 17 16 1 false⟩,
  ⟨none, .fad 18 3 4⟩,
  ⟨none, .store 18 1 (.t 17)⟩])
 (.seq (.reg [⟨none, .load 19 3 5 true⟩,
  ⟨none, .store 2 5 (.t 19)⟩])
 (.ret))))))))⟩
/-- laws.eqAccount -/
def r142 : RF :=
 ⟨2, [.tmp 4],
 .seq (.reg [⟨none, .locb 2 (.t 0)⟩,
  ⟨none, .locb 3 (.t 1)⟩,
  ⟨none, .mov 4 (.k (.bool false))⟩])
 (.seq (.seq (.reg [⟨none, .fad 5 2 0⟩,
   ⟨none, .load 6 5 1 false⟩,
   ⟨none, .fad 7 3 0⟩,
   ⟨none, .load 8 7 1 false⟩,
   ⟨none, .bin 9 .neq (.t 6) (.t 8)⟩])
  (.cond (.t 9)
  (.seq (.reg [⟨none, .mov 4 (.k (.bool false))⟩])
   (.ret))
  (.skip)))
 (.seq (.seq (.reg [⟨none, .fad 10 2 1⟩,
   ⟨none, .load 11 10 1 false⟩,
   ⟨none, .fad 12 3 1⟩,
   ⟨none, .load 13 12 1 false⟩,
   ⟨none, .bin 14 .neq (.t 11) (.t 13)⟩])
  (.cond (.t 14)
  (.seq (.reg [⟨none, .mov 4 (.k (.bool false))⟩])
   (.ret))
  (.skip)))
 (.seq (.seq (.reg [⟨none, .fad 15 2 2⟩,
   ⟨none, .load 16 15 1 false⟩,
   ⟨none, .fad 17 3 2⟩,
   ⟨none, .load 18 17 1 false⟩,
   ⟨none, .bin 19 .neq (.t 16) (.t 18)⟩])
  (.cond (.t 19)
  (.seq (.reg [⟨none, .mov 4 (.k (.bool false))⟩])
   (.ret))
  (.skip)))
 (.seq (.seq (.reg [⟨none, .fad 20 2 3⟩,
   ⟨none, .load 21 20 1 false⟩,
   ⟨none, .fad 22 3 3⟩,
   ⟨none, .load 23 22 1 false⟩,
   ⟨none, .bin 24 .neq (.t 21) (.t 23)⟩])
  (.cond (.t 24)
  (.seq (.reg [⟨none, .mov 4 (.k (.bool false))⟩])
   (.ret))
  (.skip)))
 (.seq (.seq (.reg [⟨none, .fad 25 2 4⟩,
   ⟨none, .load 26 25 1 false⟩,
   ⟨none, .fad 27 3 4⟩,
   ⟨none, .load 28 27 1 false⟩,
   ⟨none, .bin 29 .neq (.t 26) (.t 28)⟩])
  (.cond (.t 29)
  (.seq (.reg [⟨none, .mov 4 (.k (.bool false))⟩])
   (.ret))
  (.skip)))
 (.seq (.reg [⟨none, .mov 4 (.k (.bool true))⟩])
 (.ret)))))))⟩
/-- A loop of laws.markAccountS. -/
def r261L0 : RC :=
 .seq (.seq (.reg [⟨none, .mov 6 (.t 5)⟩,
      ⟨none, .mov 7 (.t 0)⟩,
      ⟨none, .len 8 (.t 7)⟩,
      ⟨none, .bin 9 .lss (.t 6) (.t 8)⟩])
     (.cond (.t 9)
     (.skip)
     (.exit 0)))
    (.seq (.block 1 (.seq (.reg [⟨none, .mov 12 (.t 0)⟩,
       ⟨none, .mov 13 (.t 5)⟩,
       ⟨none, .mov 14 (.t 1)⟩,
       ⟨none, .conv 15 .u64 (.t 14)⟩,
       ⟨none, .idx 16 11 (.t 12) (.t 13)⟩,
       ⟨none, .fad 17 16 0⟩,
       ⟨none, .store 17 1 (.t 15)⟩])
      (.seq (.reg [⟨none, .mov 18 (.t 1)⟩,
       ⟨none, .bin 19 .add (.t 18) (.k (.int .i64 1))⟩,
       ⟨none, .mov 1 (.t 19)⟩])
      (.seq (.reg [⟨none, .mov 20 (.t 0)⟩,
       ⟨none, .mov 21 (.t 5)⟩,
       ⟨none, .mov 22 (.t 1)⟩,
       ⟨none, .conv 23 .u64 (.t 22)⟩,
       ⟨none, .idx 24 11 (.t 20) (.t 21)⟩,
       ⟨none, .fad 25 24 1⟩,
       ⟨none, .store 25 1 (.t 23)⟩])
      (.seq (.reg [⟨none, .mov 26 (.t 1)⟩,
       ⟨none, .bin 27 .add (.t 26) (.k (.int .i64 1))⟩,
       ⟨none, .mov 1 (.t 27)⟩])
      (.seq (.reg [⟨none, .mov 28 (.t 0)⟩,
       ⟨none, .mov 29 (.t 5)⟩,
       ⟨none, .mov 30 (.t 1)⟩,
       ⟨none, .conv 31 .u64 (.t 30)⟩,
       ⟨none, .idx 32 11 (.t 28) (.t 29)⟩,
       ⟨none, .fad 33 32 2⟩,
       ⟨none, .store 33 1 (.t 31)⟩])
      (.seq (.reg [⟨none, .mov 34 (.t 1)⟩,
       ⟨none, .bin 35 .add (.t 34) (.k (.int .i64 1))⟩,
       ⟨none, .mov 1 (.t 35)⟩])
      (.seq (.reg [⟨none, .mov 36 (.t 0)⟩,
       ⟨none, .mov 37 (.t 5)⟩,
       ⟨none, .mov 38 (.t 1)⟩,
       ⟨none, .conv 39 .u64 (.t 38)⟩,
       ⟨none, .idx 40 11 (.t 36) (.t 37)⟩,
       ⟨none, .fad 41 40 3⟩,
       ⟨none, .store 41 1 (.t 39)⟩])
      (.seq (.reg [⟨none, .mov 42 (.t 1)⟩,
       ⟨none, .bin 43 .add (.t 42) (.k (.int .i64 1))⟩,
       ⟨none, .mov 1 (.t 43)⟩])
      (.seq (.reg [⟨none, .mov 44 (.t 0)⟩,
       ⟨none, .mov 45 (.t 5)⟩,
       ⟨none, .mov 46 (.t 1)⟩,
       ⟨none, .idx 47 11 (.t 44) (.t 45)⟩,
       ⟨none, .fad 48 47 4⟩,
       ⟨none, .store 48 1 (.t 46)⟩])
      (.reg [⟨none, .mov 49 (.t 1)⟩,
      ⟨none, .bin 50 .add (.t 49) (.k (.int .i64 1))⟩,
      ⟨none, .mov 1 (.t 50)⟩])))))))))))
    (.reg [⟨none, .mov 10 (.t 5)⟩,
    ⟨none, .bin 11 .add (.t 10) (.k (.int .i64 1))⟩,
    ⟨none, .mov 5 (.t 11)⟩]))
/-- laws.markAccountS -/
def r261 : RF :=
 ⟨2, [.tmp 4],
 .seq (.reg [⟨none, .mov 4 (.k (.int .i64 0))⟩])
 (.seq (.seq (.reg [⟨none, .mov 5 (.k (.int .i64 0))⟩])
  (.block 0 (.loop [0, 1, 5]
   r261L0)))
 (.seq (.reg [⟨none, .mov 51 (.t 1)⟩,
  ⟨none, .mov 4 (.t 51)⟩])
 (.ret)))⟩
/-- A loop of laws.heldAccountS. -/
def r262L0 : RC :=
 .seq (.seq (.reg [⟨none, .mov 6 (.t 5)⟩,
      ⟨none, .mov 7 (.t 0)⟩,
      ⟨none, .len 8 (.t 7)⟩,
      ⟨none, .bin 9 .lss (.t 6) (.t 8)⟩])
     (.cond (.t 9)
     (.skip)
     (.exit 0)))
    (.seq (.block 1 (.seq (.seq (.reg [⟨none, .mov 12 (.t 0)⟩,
        ⟨none, .mov 13 (.t 5)⟩,
        ⟨none, .idx 14 11 (.t 12) (.t 13)⟩,
        ⟨none, .fad 15 14 0⟩,
        ⟨none, .load 16 15 1 false⟩,
        ⟨none, .mov 17 (.t 1)⟩,
        ⟨none, .conv 18 .u64 (.t 17)⟩,
        ⟨none, .bin 19 .neq (.t 16) (.t 18)⟩])
       (.cond (.t 19)
       (.seq (.reg [⟨none, .mov 4 (.k (.int .i64 (-1)))⟩])
        (.ret))
       (.skip)))
      (.seq (.reg [⟨none, .mov 20 (.t 1)⟩,
       ⟨none, .bin 21 .add (.t 20) (.k (.int .i64 1))⟩,
       ⟨none, .mov 1 (.t 21)⟩])
      (.seq (.seq (.reg [⟨none, .mov 22 (.t 0)⟩,
        ⟨none, .mov 23 (.t 5)⟩,
        ⟨none, .idx 24 11 (.t 22) (.t 23)⟩,
        ⟨none, .fad 25 24 1⟩,
        ⟨none, .load 26 25 1 false⟩,
        ⟨none, .mov 27 (.t 1)⟩,
        ⟨none, .conv 28 .u64 (.t 27)⟩,
        ⟨none, .bin 29 .neq (.t 26) (.t 28)⟩])
       (.cond (.t 29)
       (.seq (.reg [⟨none, .mov 4 (.k (.int .i64 (-1)))⟩])
        (.ret))
       (.skip)))
      (.seq (.reg [⟨none, .mov 30 (.t 1)⟩,
       ⟨none, .bin 31 .add (.t 30) (.k (.int .i64 1))⟩,
       ⟨none, .mov 1 (.t 31)⟩])
      (.seq (.seq (.reg [⟨none, .mov 32 (.t 0)⟩,
        ⟨none, .mov 33 (.t 5)⟩,
        ⟨none, .idx 34 11 (.t 32) (.t 33)⟩,
        ⟨none, .fad 35 34 2⟩,
        ⟨none, .load 36 35 1 false⟩,
        ⟨none, .mov 37 (.t 1)⟩,
        ⟨none, .conv 38 .u64 (.t 37)⟩,
        ⟨none, .bin 39 .neq (.t 36) (.t 38)⟩])
       (.cond (.t 39)
       (.seq (.reg [⟨none, .mov 4 (.k (.int .i64 (-1)))⟩])
        (.ret))
       (.skip)))
      (.seq (.reg [⟨none, .mov 40 (.t 1)⟩,
       ⟨none, .bin 41 .add (.t 40) (.k (.int .i64 1))⟩,
       ⟨none, .mov 1 (.t 41)⟩])
      (.seq (.seq (.reg [⟨none, .mov 42 (.t 0)⟩,
        ⟨none, .mov 43 (.t 5)⟩,
        ⟨none, .idx 44 11 (.t 42) (.t 43)⟩,
        ⟨none, .fad 45 44 3⟩,
        ⟨none, .load 46 45 1 false⟩,
        ⟨none, .mov 47 (.t 1)⟩,
        ⟨none, .conv 48 .u64 (.t 47)⟩,
        ⟨none, .bin 49 .neq (.t 46) (.t 48)⟩])
       (.cond (.t 49)
       (.seq (.reg [⟨none, .mov 4 (.k (.int .i64 (-1)))⟩])
        (.ret))
       (.skip)))
      (.seq (.reg [⟨none, .mov 50 (.t 1)⟩,
       ⟨none, .bin 51 .add (.t 50) (.k (.int .i64 1))⟩,
       ⟨none, .mov 1 (.t 51)⟩])
      (.seq (.seq (.reg [⟨none, .mov 52 (.t 0)⟩,
        ⟨none, .mov 53 (.t 5)⟩,
        ⟨none, .idx 54 11 (.t 52) (.t 53)⟩,
        ⟨none, .fad 55 54 4⟩,
        ⟨none, .load 56 55 1 false⟩,
        ⟨none, .mov 57 (.t 1)⟩,
        ⟨none, .bin 58 .neq (.t 56) (.t 57)⟩])
       (.cond (.t 58)
       (.seq (.reg [⟨none, .mov 4 (.k (.int .i64 (-1)))⟩])
        (.ret))
       (.skip)))
      (.reg [⟨none, .mov 59 (.t 1)⟩,
      ⟨none, .bin 60 .add (.t 59) (.k (.int .i64 1))⟩,
      ⟨none, .mov 1 (.t 60)⟩])))))))))))
    (.reg [⟨none, .mov 10 (.t 5)⟩,
    ⟨none, .bin 11 .add (.t 10) (.k (.int .i64 1))⟩,
    ⟨none, .mov 5 (.t 11)⟩]))
/-- laws.heldAccountS -/
def r262 : RF :=
 ⟨2, [.tmp 4],
 .seq (.reg [⟨none, .mov 4 (.k (.int .i64 0))⟩])
 (.seq (.seq (.reg [⟨none, .mov 5 (.k (.int .i64 0))⟩])
  (.block 0 (.loop [0, 1, 5]
   r262L0)))
 (.seq (.reg [⟨none, .mov 61 (.t 1)⟩,
  ⟨none, .mov 4 (.t 61)⟩])
 (.ret)))⟩
/-- The functions of this text, with their numbers. -/
def tLAccount : List (Nat × RF) := [(136, r136), (137, r137), (139, r139), (141, r141), (142, r142), (261, r261), (262, r262)]
end Go.Proofs.Ytlbagejkjkfkjaa.A
/- The compact code of some functions: laws.szBook, laws.toBook, laws.eqBook, laws.markBook, laws.heldBook. -/
namespace Go.Proofs.Ytlbagejkjkfkjaa.A
open Go
/-- laws.szBook -/
def r128 : RF :=
 ⟨2, [.tmp 4],
 .seq (.reg [⟨none, .locb 2 (.t 0)⟩,
  ⟨none, .mov 4 (.k (.int .i64 0))⟩])
 (.seq (.reg [⟨none, .fad 5 2 0⟩,
  ⟨none, .load 6 5 1 false⟩,
  ⟨none, .mov 7 (.t 1)⟩,
  ⟨none, .call (some 8) 136 [(.t 6), (.t 7)] false⟩,
  ⟨none, .mov 1 (.t 8)⟩])
 (.seq (.seq (.reg [⟨none, .mov 9 (.t 1)⟩,
   ⟨none, .bin 10 .lss (.t 9) (.k (.int .i64 0))⟩])
  (.cond (.t 10)
  (.seq (.reg [⟨none, .mov 4 (.k (.int .i64 (-1)))⟩])
   (.ret))
  (.skip)))
 (.seq (.reg [⟨none, .mov 11 (.t 1)⟩,
  ⟨none, .mov 4 (.t 11)⟩])
 (.ret))))⟩
/-- laws.toBook -/
def r130 : RF :=
 ⟨1, [.cell 2 1 true],
 .seq (.reg [⟨none, .locb 1 (.t 0)⟩,
  ⟨none, .loc 2 [.nil]⟩])
 (.seq (.reg [⟨none, .loc 3 [.nil]⟩])
 (.seq (.reg [⟨none, .fad 4 1 0⟩,
  ⟨none, .load 5 4 1 false⟩,
  ⟨none, .call (some 6) 137 [(.t 5)] false⟩,
  ⟨none, .fad 7 3 0⟩,
  ⟨none, .store 7 1 (.t 6)⟩])
 (.seq (.reg [⟨none, .load 8 3 1 true⟩,
  ⟨none, .store 2 1 (.t 8)⟩])
 (.ret))))⟩
/-- laws.eqBook -/
def r133 : RF :=
 ⟨2, [.tmp 4],
 .seq (.reg [⟨none, .locb 2 (.t 0)⟩,
  ⟨none, .locb 3 (.t 1)⟩,
  ⟨none, .mov 4 (.k (.bool false))⟩])
 (.seq (.seq (.reg [⟨none, .fad 5 2 0⟩,
   ⟨none, .load 6 5 1 false⟩,
   ⟨none, .fad 7 3 0⟩,
   ⟨none, .load 8 7 1 false⟩,
   ⟨none, .call (some 9) 139 [(.t 6), (.t 8)] false⟩,
   ⟨none, .not 10 (.t 9)⟩])
  (.cond (.t 10)
  (.seq (.reg [⟨none, .mov 4 (.k (.bool false))⟩])
   (.ret))
  (.skip)))
 (.seq (.reg [⟨none, .mov 4 (.k (.bool true))⟩])
 (.ret)))⟩
/-- laws.markBook -/
def r231 : RF :=
 ⟨2, [.tmp 4],
 .seq (.reg [⟨none, .locb 2 (.t 0)⟩,
  ⟨none, .mov 4 (.k (.int .i64 0))⟩])
 (.seq (.reg [⟨none, .fad 5 2 0⟩,
  ⟨none, .load 6 5 1 false⟩,
  ⟨none, .mov 7 (.t 1)⟩,
  ⟨none, .call (some 8) 261 [(.t 6), (.t 7)] false⟩,
  ⟨none, .mov 1 (.t 8)⟩])
 (.seq (.reg [⟨none, .mov 9 (.t 1)⟩,
  ⟨none, .mov 4 (.t 9)⟩])
 (.ret)))⟩
/-- laws.heldBook -/
def r233 : RF :=
 ⟨2, [.tmp 4],
 .seq (.reg [⟨none, .locb 2 (.t 0)⟩,
  ⟨none, .mov 4 (.k (.int .i64 0))⟩])
 (.seq (.reg [⟨none, .fad 5 2 0⟩,
  ⟨none, .load 6 5 1 false⟩,
  ⟨none, .mov 7 (.t 1)⟩,
  ⟨none, .call (some 8) 262 [(.t 6), (.t 7)] false⟩,
  ⟨none, .mov 1 (.t 8)⟩])
 (.seq (.seq (.reg [⟨none, .mov 9 (.t 1)⟩,
   ⟨none, .bin 10 .lss (.t 9) (.k (.int .i64 0))⟩])
  (.cond (.t 10)
  (.seq (.reg [⟨none, .mov 4 (.k (.int .i64 (-1)))⟩])
   (.ret))
  (.skip)))
 (.seq (.reg [⟨none, .mov 11 (.t 1)⟩,
  ⟨none, .mov 4 (.t 11)⟩])
 (.ret))))⟩
/-- The functions of this text, with their numbers. -/
def tLBook : List (Nat × RF) := [(128, r128), (130, r130), (133, r133), (231, r231), (233, r233)]
end Go.Proofs.Ytlbagejkjkfkjaa.A
/- The compact code of some functions: laws.szFinS, laws.toFinS, laws.eqFinS, laws.toFin, laws.eqFin, laws.markFinS, laws.heldFinS. -/
namespace Go.Proofs.Ytlbagejkjkfkjaa.A
open Go
/-- laws.szFinS -/
def r129 : RF :=
 ⟨2, [.tmp 4],
 .seq (.reg [⟨none, .mov 4 (.k (.int .i64 0))⟩])
 (.seq (.reg [⟨none, .mov 5 (.t 1)⟩,
  ⟨none, .mov 6 (.t 0)⟩,
  ⟨none, .len 7 (.t 6)⟩,
  ⟨none, .bin 8 .sub (.t 5) (.t 7)⟩,
  ⟨none, .mov 1 (.t 8)⟩])
 (.seq (.seq (.reg [⟨none, .mov 9 (.t 1)⟩,
   ⟨none, .bin 10 .lss (.t 9) (.k (.int .i64 0))⟩])
  (.cond (.t 10)
  (.seq (.reg [⟨none, .mov 4 (.k (.int .i64 (-1)))⟩])
   (.ret))
  (.skip)))
 (.seq (.reg [⟨none, .mov 11 (.t 1)⟩,
  ⟨none, .mov 4 (.t 11)⟩])
 (.ret))))⟩
/-- A loop of laws.toFinS. -/
def r131L0 : RC :=
 .seq (.seq (.reg [⟨none, .mov 8 (.t 4)⟩,
      ⟨none, .mov 9 (.t 0)⟩,
      ⟨none, .len 10 (.t 9)⟩,
      ⟨none, .bin 11 .lss (.t 8) (.t 10)⟩])
     (.cond (.t 11)
     (.skip)
     (.exit 0)))
    (.seq (.block 1 (.reg [⟨none, .mov 14 (.t 3)⟩,
      ⟨none, .mov 15 (.t 4)⟩,
      ⟨none, .mov 16 (.t 0)⟩,
      ⟨none, .mov 17 (.t 4)⟩,
      ⟨none, .idx 18 10 (.t 16) (.t 17)⟩,
      ⟨none, .load 19 18 2 true⟩,
      ⟨none, .call (some 20) 138 [(.t 19)] false⟩,
      ⟨none, .idx 21 9 (.t 14) (.t 15)⟩,
      ⟨none, .store 21 2 (.t 20)⟩]))
    (.reg [⟨none, .mov 12 (.t 4)⟩,
    ⟨none, .bin 13 .add (.t 12) (.k (.int .i64 1))⟩,
    ⟨none, .mov 4 (.t 13)⟩]))
/-- laws.toFinS -/
def r131 : RF :=
 ⟨1, [.tmp 2],
 .seq (.reg [⟨none, .mov 2 (.k (.nil))⟩])
 (.seq (.reg [⟨none, .mov 5 (.t 0)⟩,
  ⟨none, .len 6 (.t 5)⟩,
  ⟨none, .mks 7 9 16 [.int .i64 0, .int .u64 0] (.t 6) (.t 6)⟩,
  ⟨none, .mov 3 (.t 7)⟩])
 (.seq (.seq (.reg [⟨none, .mov 4 (.k (.int .i64 0))⟩])
  (.block 0 (.loop [0, 3, 4]
   r131L0)))
 (.seq (.reg [⟨none, .mov 22 (.t 3)⟩,
  ⟨none, .mov 2 (.t 22)⟩])
 (.ret))))⟩
/-- A loop of laws.eqFinS. -/
def r134L0 : RC :=
 .seq (.seq (.reg [⟨none, .mov 11 (.t 5)⟩,
      ⟨none, .mov 12 (.t 0)⟩,
      ⟨none, .len 13 (.t 12)⟩,
      ⟨none, .bin 14 .lss (.t 11) (.t 13)⟩])
     (.cond (.t 14)
     (.skip)
     (.exit 0)))
    (.seq (.block 1 (.seq (.reg [⟨none, .chk []⟩,
       ⟨none, .mov 17 (.t 0)⟩,
       ⟨none, .mov 18 (.t 5)⟩,
       ⟨none, .idx 19 9 (.t 17) (.t 18)⟩,
       ⟨none, .mov 21 (.t 1)⟩,
       ⟨none, .mov 22 (.t 5)⟩,
       ⟨none, .idx 23 9 (.t 21) (.t 22)⟩,
       ⟨none, .load 20 19 2 true⟩,
       ⟨none, .load 24 23 2 true⟩,
       ⟨none, .call (some 25) 140 [(.t 20), (.t 24)] true⟩,
       ⟨none, .not 26 (.t 25)⟩])
      (.cond (.t 26)
      (.seq (.reg [⟨none, .mov 4 (.k (.bool false))⟩])
       (.ret))
      (.skip))))
    (.reg [⟨none, .mov 15 (.t 5)⟩,
    ⟨none, .bin 16 .add (.t 15) (.k (.int .i64 1))⟩,
    ⟨none, .mov 5 (.t 16)⟩]))
/-- laws.eqFinS -/
def r134 : RF :=
 ⟨2, [.tmp 4],
 .seq (.reg [⟨none, .mov 4 (.k (.bool false))⟩])
 (.seq (.seq (.reg [⟨none, .mov 6 (.t 0)⟩,
   ⟨none, .len 7 (.t 6)⟩,
   ⟨none, .mov 8 (.t 1)⟩,
   ⟨none, .len 9 (.t 8)⟩,
   ⟨none, .bin 10 .neq (.t 7) (.t 9)⟩])
  (.cond (.t 10)
  (.seq (.reg [⟨none, .mov 4 (.k (.bool false))⟩])
   (.ret))
  (.skip)))
 (.seq (.seq (.reg [⟨none, .mov 5 (.k (.int .i64 0))⟩])
  (.block 0 (.loop [0, 1, 5]
   r134L0)))
 (.seq (.reg [⟨none, .mov 4 (.k (.bool true))⟩])
 (.ret))))⟩
/-- laws.toFin -/
def r138 : RF :=
 ⟨1, [.cell 2 2 true],
 .seq (.reg [⟨none, .locb 1 (.t 0)⟩,
  ⟨none, .loc 2 [.int .i64 0, .int .u64 0]⟩])
 (.seq (.reg [⟨none, .loc 3 [.int .i64 0, .int .u64 0]⟩])
 (.seq (.reg [⟨none, .fad 4 1 0⟩,
  ⟨none, .load 5 4 1 false⟩,
  ⟨none, .fad 6 3 0⟩,
  ⟨none, .store 6 1 (.t 5)⟩])
 (.seq (.reg [⟨none, .fad 7 1 1⟩,
  ⟨none, .load 8 7 1 false⟩,
  ⟨none, .fad 9 3 1⟩,
  ⟨none, .store 9 1 (.t 8)⟩])
 (.seq (.reg [⟨none, .load 10 3 2 true⟩,
  ⟨none, .store 2 2 (.t 10)⟩])
 (.ret)))))⟩
/-- laws.eqFin -/
def r140 : RF :=
 ⟨2, [.tmp 4],
 .seq (.reg [⟨none, .locb 2 (.t 0)⟩,
  ⟨none, .locb 3 (.t 1)⟩,
  ⟨none, .mov 4 (.k (.bool false))⟩])
 (.seq (.seq (.reg [⟨none, .fad 5 2 0⟩,
   ⟨none, .load 6 5 1 false⟩,
   ⟨none, .fad 7 3 0⟩,
   ⟨none, .load 8 7 1 false⟩,
   ⟨none, .bin 9 .neq (.t 6) (.t 8)⟩])
  (.cond (.t 9)
  (.seq (.reg [⟨none, .mov 4 (.k (.bool false))⟩])
   (.ret))
  (.skip)))
 (.seq (.seq (.reg [⟨none, .fad 10 2 1⟩,
   ⟨none, .load 11 10 1 false⟩,
   ⟨none, .fad 12 3 1⟩,
   ⟨none, .load 13 12 1 false⟩,
   ⟨none, .bin 14 .neq (.t 11) (.t 13)⟩])
  (.cond (.t 14)
  (.seq (.reg [⟨none, .mov 4 (.k (.bool false))⟩])
   (.ret))
  (.skip)))
 (.seq (.reg [⟨none, .mov 4 (.k (.bool true))⟩])
 (.ret))))⟩
/-- A loop of laws.markFinS. -/
def r232L0 : RC :=
 .seq (.seq (.reg [⟨none, .mov 6 (.t 5)⟩,
      ⟨none, .mov 7 (.t 0)⟩,
      ⟨none, .len 8 (.t 7)⟩,
      ⟨none, .bin 9 .lss (.t 6) (.t 8)⟩])
     (.cond (.t 9)
     (.skip)
     (.exit 0)))
    (.seq (.block 1 (.seq (.reg [⟨none, .mov 12 (.t 0)⟩,
       ⟨none, .mov 13 (.t 5)⟩,
       ⟨none, .mov 14 (.t 1)⟩,
       ⟨none, .idx 15 9 (.t 12) (.t 13)⟩,
       ⟨none, .fad 16 15 0⟩,
       ⟨none, .store 16 1 (.t 14)⟩])
      (.seq (.reg [⟨none, .mov 17 (.t 1)⟩,
       ⟨none, .bin 18 .add (.t 17) (.k (.int .i64 1))⟩,
       ⟨none, .mov 1 (.t 18)⟩])
      (.seq (.reg [⟨none, .mov 19 (.t 0)⟩,
       ⟨none, .mov 20 (.t 5)⟩,
       ⟨none, .mov 21 (.t 1)⟩,
       ⟨none, .conv 22 .u64 (.t 21)⟩,
       ⟨none, .idx 23 9 (.t 19) (.t 20)⟩,
       ⟨none, .fad 24 23 1⟩,
       ⟨none, .store 24 1 (.t 22)⟩])
      (.reg [⟨none, .mov 25 (.t 1)⟩,
      ⟨none, .bin 26 .add (.t 25) (.k (.int .i64 1))⟩,
      ⟨none, .mov 1 (.t 26)⟩])))))
    (.reg [⟨none, .mov 10 (.t 5)⟩,
    ⟨none, .bin 11 .add (.t 10) (.k (.int .i64 1))⟩,
    ⟨none, .mov 5 (.t 11)⟩]))
/-- laws.markFinS -/
def r232 : RF :=
 ⟨2, [.tmp 4],
 .seq (.reg [⟨none, .mov 4 (.k (.int .i64 0))⟩])
 (.seq (.seq (.reg [⟨none, .mov 5 (.k (.int .i64 0))⟩])
  (.block 0 (.loop [0, 1, 5]
   r232L0)))
 (.seq (.reg [⟨none, .mov 27 (.t 1)⟩,
  ⟨none, .mov 4 (.t 27)⟩])
 (.ret)))⟩
/-- A loop of laws.heldFinS. -/
def r234L0 : RC :=
 .seq (.seq (.reg [⟨none, .mov 6 (.t 5)⟩,
      ⟨none, .mov 7 (.t 0)⟩,
      ⟨none, .len 8 (.t 7)⟩,
      ⟨none, .bin 9 .lss (.t 6) (.t 8)⟩])
     (.cond (.t 9)
     (.skip)
     (.exit 0)))
    (.seq (.block 1 (.seq (.seq (.reg [⟨none, .mov 12 (.t 0)⟩,
        ⟨none, .mov 13 (.t 5)⟩,
        ⟨none, .idx 14 9 (.t 12) (.t 13)⟩,
        ⟨none, .fad 15 14 0⟩,
        ⟨none, .load 16 15 1 false⟩,
        ⟨none, .mov 17 (.t 1)⟩,
        ⟨none, .bin 18 .neq (.t 16) (.t 17)⟩])
       (.cond (.t 18)
       (.seq (.reg [⟨none, .mov 4 (.k (.int .i64 (-1)))⟩])
        (.ret))
       (.skip)))
      (.seq (.reg [⟨none, .mov 19 (.t 1)⟩,
       ⟨none, .bin 20 .add (.t 19) (.k (.int .i64 1))⟩,
       ⟨none, .mov 1 (.t 20)⟩])
      (.seq (.seq (.reg [⟨none, .mov 21 (.t 0)⟩,
        ⟨none, .mov 22 (.t 5)⟩,
        ⟨none, .idx 23 9 (.t 21) (.t 22)⟩,
        ⟨none, .fad 24 23 1⟩,
        ⟨none, .load 25 24 1 false⟩,
        ⟨none, .mov 26 (.t 1)⟩,
        ⟨none, .conv 27 .u64 (.t 26)⟩,
        ⟨none, .bin 28 .neq (.t 25) (.t 27)⟩])
       (.cond (.t 28)
       (.seq (.reg [⟨none, .mov 4 (.k (.int .i64 (-1)))⟩])
        (.ret))
       (.skip)))
      (.reg [⟨none, .mov 29 (.t 1)⟩,
      ⟨none, .bin 30 .add (.t 29) (.k (.int .i64 1))⟩,
      ⟨none, .mov 1 (.t 30)⟩])))))
    (.reg [⟨none, .mov 10 (.t 5)⟩,
    ⟨none, .bin 11 .add (.t 10) (.k (.int .i64 1))⟩,
    ⟨none, .mov 5 (.t 11)⟩]))
/-- laws.heldFinS -/
def r234 : RF :=
 ⟨2, [.tmp 4],
 .seq (.reg [⟨none, .mov 4 (.k (.int .i64 0))⟩])
 (.seq (.seq (.reg [⟨none, .mov 5 (.k (.int .i64 0))⟩])
  (.block 0 (.loop [0, 1, 5]
   r234L0)))
 (.seq (.reg [⟨none, .mov 31 (.t 1)⟩,
  ⟨none, .mov 4 (.t 31)⟩])
 (.ret)))⟩
/-- The functions of this text, with their numbers. -/
def tLFin : List (Nat × RF) := [(129, r129), (131, r131), (134, r134), (138, r138), (140, r140), (232, r232), (234, r234)]
end Go.Proofs.Ytlbagejkjkfkjaa.A
/- The compact code of some functions: laws.szShard, laws.toShard, laws.eqShard, laws.markShard, laws.heldShard, laws.szShardS, laws.toShardS, laws.eqShardS, laws.markShardS. -/
namespace Go.Proofs.Ytlbagejkjkfkjaa.A
open Go
/-- laws.szShard -/
def r111 : RF :=
 ⟨2, [.tmp 4],
 .seq (.reg [⟨none, .locb 2 (.t 0)⟩,
  ⟨none, .mov 4 (.k (.int .i64 0))⟩])
 (.seq (.reg [⟨none, .fad 5 2 4⟩,
  ⟨none, .load 6 5 1 true⟩,
  ⟨none, .mov 7 (.t 1)⟩,
  ⟨none, .call (some 8) 128 [(.t 6), (.t 7)] false⟩,
  ⟨none, .mov 1 (.t 8)⟩])
 (.seq (.seq (.reg [⟨none, .mov 9 (.t 1)⟩,
   ⟨none, .bin 10 .lss (.t 9) (.k (.int .i64 0))⟩])
  (.cond (.t 10)
  (.seq (.reg [⟨none, .mov 4 (.k (.int .i64 (-1)))⟩])
   (.ret))
  (.skip)))
 (.seq (.reg [⟨none, .fad 11 2 5⟩,
  ⟨none, .load 12 11 1 false⟩,
  ⟨none, .mov 13 (.t 1)⟩,
  ⟨none, .call (some 14) 129 [(.t 12), (.t 13)] false⟩,
  ⟨none, .mov 1 (.t 14)⟩])
 (.seq (.seq (.reg [⟨none, .mov 15 (.t 1)⟩,
   ⟨none, .bin 16 .lss (.t 15) (.k (.int .i64 0))⟩])
  (.cond (.t 16)
  (.seq (.reg [⟨none, .mov 4 (.k (.int .i64 (-1)))⟩])
   (.ret))
  (.skip)))
 (.seq (.reg [⟨none, .mov 17 (.t 1)⟩,
  ⟨none, .mov 4 (.t 17)⟩])
 (.ret))))))⟩
/-- laws.toShard -/
def r112 : RF :=
 ⟨1, [.cell 2 6 true],
 .seq (.reg [⟨none, .locb 1 (.t 0)⟩,
  ⟨none, .loc 2 [.int .u64 0, .int .u64 0, .int .i64 0, .int .i64 0, .nil, .nil]⟩])
 (.seq (.reg [⟨none, .loc 3 [.int .u64 0, .int .u64 0, .int .i64 0, .int .i64 0, .nil, .nil]⟩])
 (.seq (.reg [⟨none, .fad 4 1 0⟩,
  ⟨none, .load 5 4 1 false⟩,
  ⟨none, .fad 6 3 0⟩,
  ⟨none, .store 6 1 (.t 5)⟩])
 (.seq (.reg [⟨none, .fad 7 1 1⟩,
  ⟨none, .load 8 7 1 false⟩,
  ⟨none, .fad 9 3 1⟩,
  ⟨none, .store 9 1 (.t 8)⟩])
 (.seq (.reg [⟨none, .fad 10 1 2⟩,
  ⟨none, .load 11 10 1 false⟩,
  ⟨none, .fad 12 3 2⟩,
  ⟨none, .store 12 1 (.t 11)⟩])
 (.seq (.reg [⟨none, .fad 13 1 3⟩,
  ⟨none, .load 14 13 1 false⟩,
  ⟨none, .fad 15 3 3⟩,
  ⟨none, .store 15 1 (.t 14)⟩])
 (.seq (.reg [⟨none, .fad 16 1 4⟩,
  ⟨none, .load 17 16 1 true⟩,
  ⟨none, .call (some 18) 130 [(.t 17)] false⟩,
  ⟨none, .fad 19 3 4⟩,
  ⟨none, .store 19 1 (.t 18)⟩])
 (.seq (.reg [⟨none, .fad 20 1 5⟩,
  ⟨none, .load 21 20 1 false⟩,
  ⟨none, .call (some 22) 131 [(.t 21)] false⟩,
  ⟨none, .fad 23 3 5⟩,
  ⟨none, .store 23 1 (.t 22)⟩])
 (.seq (.reg [⟨none, .load 24 3 6 true⟩,
  ⟨none, .store 2 6 (.t 24)⟩])
 (.ret)))))))))⟩
/-- laws.eqShard -/
def r114 : RF :=
 ⟨2, [.tmp 4],
 .seq (.reg [⟨none, .locb 2 (.t 0)⟩,
  ⟨none, .locb 3 (.t 1)⟩,
  ⟨none, .mov 4 (.k (.bool false))⟩])
 (.seq (.seq (.reg [⟨none, .fad 5 2 0⟩,
   ⟨none, .load 6 5 1 false⟩,
   ⟨none, .fad 7 3 0⟩,
   ⟨none, .load 8 7 1 false⟩,
   ⟨none, .bin 9 .neq (.t 6) (.t 8)⟩])
  (.cond (.t 9)
  (.seq (.reg [⟨none, .mov 4 (.k (.bool false))⟩])
   (.ret))
  (.skip)))
 (.seq (.seq (.reg [⟨none, .fad 10 2 1⟩,
   ⟨none, .load 11 10 1 false⟩,
   ⟨none, .fad 12 3 1⟩,
   ⟨none, .load 13 12 1 false⟩,
   ⟨none, .bin 14 .neq (.t 11) (.t 13)⟩])
  (.cond (.t 14)
  (.seq (.reg [⟨none, .mov 4 (.k (.bool false))⟩])
   (.ret))
  (.skip)))
 (.seq (.seq (.reg [⟨none, .fad 15 2 2⟩,
   ⟨none, .load 16 15 1 false⟩,
   ⟨none, .fad 17 3 2⟩,
   ⟨none, .load 18 17 1 false⟩,
   ⟨none, .bin 19 .neq (.t 16) (.t 18)⟩])
  (.cond (.t 19)
  (.seq (.reg [⟨none, .mov 4 (.k (.bool false))⟩])
   (.ret))
  (.skip)))
 (.seq (.seq (.reg [⟨none, .fad 20 2 3⟩,
   ⟨none, .load 21 20 1 false⟩,
   ⟨none, .fad 22 3 3⟩,
   ⟨none, .load 23 22 1 false⟩,
   ⟨none, .bin 24 .neq (.t 21) (.t 23)⟩])
  (.cond (.t 24)
  (.seq (.reg [⟨none, .mov 4 (.k (.bool false))⟩])
   (.ret))
  (.skip)))
 (.seq (.seq (.reg [⟨none, .fad 25 2 4⟩,
   ⟨none, .load 26 25 1 true⟩,
   ⟨none, .fad 27 3 4⟩,
   ⟨none, .load 28 27 1 true⟩,
   ⟨none, .call (some 29) 133 [(.t 26), (.t 28)] false⟩,
   ⟨none, .not 30 (.t 29)⟩])
  (.cond (.t 30)
  (.seq (.reg [⟨none, .mov 4 (.k (.bool false))⟩])
   (.ret))
  (.skip)))
 (.seq (.seq (.reg [⟨none, .fad 31 2 5⟩,
   ⟨none, .load 32 31 1 false⟩,
   ⟨none, .fad 33 3 5⟩,
   ⟨none, .load 34 33 1 false⟩,
   ⟨none, .call (some 35) 134 [(.t 32), (.t 34)] false⟩,
   ⟨none, .not 36 (.t 35)⟩])
  (.cond (.t 36)
  (.seq (.reg [⟨none, .mov 4 (.k (.bool false))⟩])
   (.ret))
  (.skip)))
 (.seq (.reg [⟨none, .mov 4 (.k (.bool true))⟩])
 (.ret))))))))⟩
/-- laws.markShard -/
def r192 : RF :=
 ⟨2, [.tmp 4],
 .seq (.reg [⟨none, .locb 2 (.t 0)⟩,
  ⟨none, .mov 4 (.k (.int .i64 0))⟩])
 (.seq (.reg [⟨none, .fad 5 2 4⟩,
  ⟨none, .load 6 5 1 true⟩,
  ⟨none, .mov 7 (.t 1)⟩,
  ⟨none, .call (some 8) 231 [(.t 6), (.t 7)] false⟩,
  ⟨none, .mov 1 (.t 8)⟩])
 (.seq (.reg [⟨none, .fad 9 2 5⟩,
  ⟨none, .load 10 9 1 false⟩,
  ⟨none, .mov 11 (.t 1)⟩,
  ⟨none, .call (some 12) 232 [(.t 10), (.t 11)] false⟩,
  ⟨none, .mov 1 (.t 12)⟩])
 (.seq (.reg [⟨none, .mov 13 (.t 1)⟩,
  ⟨none, .mov 4 (.t 13)⟩])
 (.ret))))⟩
/-- laws.heldShard -/
def r193 : RF :=
 ⟨2, [.tmp 4],
 .seq (.reg [⟨none, .locb 2 (.t 0)⟩,
  ⟨none, .mov 4 (.k (.int .i64 0))⟩])
 (.seq (.reg [⟨none, .fad 5 2 4⟩,
  ⟨none, .load 6 5 1 true⟩,
  ⟨none, .mov 7 (.t 1)⟩,
  ⟨none, .call (some 8) 233 [(.t 6), (.t 7)] false⟩,
  ⟨none, .mov 1 (.t 8)⟩])
 (.seq (.seq (.reg [⟨none, .mov 9 (.t 1)⟩,
   ⟨none, .bin 10 .lss (.t 9) (.k (.int .i64 0))⟩])
  (.cond (.t 10)
  (.seq (.reg [⟨none, .mov 4 (.k (.int .i64 (-1)))⟩])
   (.ret))
  (.skip)))
 (.seq (.reg [⟨none, .fad 11 2 5⟩,
  ⟨none, .load 12 11 1 false⟩,
  ⟨none, .mov 13 (.t 1)⟩,
  ⟨none, .call (some 14) 234 [(.t 12), (.t 13)] false⟩,
  ⟨none, .mov 1 (.t 14)⟩])
 (.seq (.seq (.reg [⟨none, .mov 15 (.t 1)⟩,
   ⟨none, .bin 16 .lss (.t 15) (.k (.int .i64 0))⟩])
  (.cond (.t 16)
  (.seq (.reg [⟨none, .mov 4 (.k (.int .i64 (-1)))⟩])
   (.ret))
  (.skip)))
 (.seq (.reg [⟨none, .mov 17 (.t 1)⟩,
  ⟨none, .mov 4 (.t 17)⟩])
 (.ret))))))⟩
/-- A loop of laws.szShardS. -/
def r203L0 : RC :=
 .seq (.seq (.reg [⟨none, .mov 12 (.t 5)⟩,
      ⟨none, .mov 13 (.t 0)⟩,
      ⟨none, .len 14 (.t 13)⟩,
      ⟨none, .bin 15 .lss (.t 12) (.t 14)⟩])
     (.cond (.t 15)
     (.skip)
     (.exit 0)))
    (.seq (.block 1 (.seq (.reg [⟨none, .mov 18 (.t 0)⟩,
       ⟨none, .mov 19 (.t 5)⟩,
       ⟨none, .idx 20 20 (.t 18) (.t 19)⟩,
       ⟨none, .load 21 20 6 true⟩,
       ⟨none, .mov 22 (.t 1)⟩,
       ⟨none, .call (some 23) 111 [(.t 21), (.t 22)] false⟩,
       ⟨none, .mov 1 (.t 23)⟩])
      (.seq (.reg [⟨none, .mov 24 (.t 1)⟩,
       ⟨none, .bin 25 .lss (.t 24) (.k (.int .i64 0))⟩])
      (.cond (.t 25)
      (.seq (.reg [⟨none, .mov 4 (.k (.int .i64 (-1)))⟩])
       (.ret))
      (.skip)))))
    (.reg [⟨none, .mov 16 (.t 5)⟩,
    ⟨none, .bin 17 .add (.t 16) (.k (.int .i64 1))⟩,
    ⟨none, .mov 5 (.t 17)⟩]))
/-- laws.szShardS -/
def r203 : RF :=
 ⟨2, [.tmp 4],
 .seq (.reg [⟨none, .mov 4 (.k (.int .i64 0))⟩])
 (.seq (.reg [⟨none, .mov 6 (.t 1)⟩,
  ⟨none, .mov 7 (.t 0)⟩,
  ⟨none, .len 8 (.t 7)⟩,
  ⟨none, .bin 9 .sub (.t 6) (.t 8)⟩,
  ⟨none, .mov 1 (.t 9)⟩])
 (.seq (.seq (.reg [⟨none, .mov 10 (.t 1)⟩,
   ⟨none, .bin 11 .lss (.t 10) (.k (.int .i64 0))⟩])
  (.cond (.t 11)
  (.seq (.reg [⟨none, .mov 4 (.k (.int .i64 (-1)))⟩])
   (.ret))
  (.skip)))
 (.seq (.seq (.reg [⟨none, .mov 5 (.k (.int .i64 0))⟩])
  (.block 0 (.loop [0, 1, 5]
   r203L0)))
 (.seq (.reg [⟨none, .mov 26 (.t 1)⟩,
  ⟨none, .mov 4 (.t 26)⟩])
 (.ret)))))⟩
/-- A loop of laws.toShardS. -/
def r205L0 : RC :=
 .seq (.seq (.reg [⟨none, .mov 8 (.t 4)⟩,
      ⟨none, .mov 9 (.t 0)⟩,
      ⟨none, .len 10 (.t 9)⟩,
      ⟨none, .bin 11 .lss (.t 8) (.t 10)⟩])
     (.cond (.t 11)
     (.skip)
     (.exit 0)))
    (.seq (.block 1 (.reg [⟨none, .mov 14 (.t 3)⟩,
      ⟨none, .mov 15 (.t 4)⟩,
      ⟨none, .mov 16 (.t 0)⟩,
      ⟨none, .mov 17 (.t 4)⟩,
      ⟨none, .idx 18 20 (.t 16) (.t 17)⟩,
      ⟨none, .load 19 18 6 true⟩,
      ⟨none, .call (some 20) 112 [(.t 19)] false⟩,
      ⟨none, .idx 21 16 (.t 14) (.t 15)⟩,
      ⟨none, .store 21 6 (.t 20)⟩]))
    (.reg [⟨none, .mov 12 (.t 4)⟩,
    ⟨none, .bin 13 .add (.t 12) (.k (.int .i64 1))⟩,
    ⟨none, .mov 4 (.t 13)⟩]))
/-- laws.toShardS -/
def r205 : RF :=
 ⟨1, [.tmp 2],
 .seq (.reg [⟨none, .mov 2 (.k (.nil))⟩])
 (.seq (.reg [⟨none, .mov 5 (.t 0)⟩,
  ⟨none, .len 6 (.t 5)⟩,
  ⟨none, .mks 7 16 80 [.int .u64 0, .int .u64 0, .int .i64 0, .int .i64 0, .nil, .nil] (.t 6) (.t 6)⟩,
  ⟨none, .mov 3 (.t 7)⟩])
 (.seq (.seq (.reg [⟨none, .mov 4 (.k (.int .i64 0))⟩])
  (.block 0 (.loop [0, 3, 4]
   r205L0)))
 (.seq (.reg [⟨none, .mov 22 (.t 3)⟩,
  ⟨none, .mov 2 (.t 22)⟩])
 (.ret))))⟩
/-- A loop of laws.eqShardS. -/
def r207L0 : RC :=
 .seq (.seq (.reg [⟨none, .mov 11 (.t 5)⟩,
      ⟨none, .mov 12 (.t 0)⟩,
      ⟨none, .len 13 (.t 12)⟩,
      ⟨none, .bin 14 .lss (.t 11) (.t 13)⟩])
     (.cond (.t 14)
     (.skip)
     (.exit 0)))
    (.seq (.block 1 (.seq (.reg [⟨none, .chk []⟩,
       ⟨none, .mov 17 (.t 0)⟩,
       ⟨none, .mov 18 (.t 5)⟩,
       ⟨none, .idx 19 16 (.t 17) (.t 18)⟩,
       ⟨none, .mov 21 (.t 1)⟩,
       ⟨none, .mov 22 (.t 5)⟩,
       ⟨none, .idx 23 16 (.t 21) (.t 22)⟩,
       ⟨none, .load 20 19 6 true⟩,
       ⟨none, .load 24 23 6 true⟩,
       ⟨none, .call (some 25) 114 [(.t 20), (.t 24)] true⟩,
       ⟨none, .not 26 (.t 25)⟩])
      (.cond (.t 26)
      (.seq (.reg [⟨none, .mov 4 (.k (.bool false))⟩])
       (.ret))
      (.skip))))
    (.reg [⟨none, .mov 15 (.t 5)⟩,
    ⟨none, .bin 16 .add (.t 15) (.k (.int .i64 1))⟩,
    ⟨none, .mov 5 (.t 16)⟩]))
/-- laws.eqShardS -/
def r207 : RF :=
 ⟨2, [.tmp 4],
 .seq (.reg [⟨none, .mov 4 (.k (.bool false))⟩])
 (.seq (.seq (.reg [⟨none, .mov 6 (.t 0)⟩,
   ⟨none, .len 7 (.t 6)⟩,
   ⟨none, .mov 8 (.t 1)⟩,
   ⟨none, .len 9 (.t 8)⟩,
   ⟨none, .bin 10 .neq (.t 7) (.t 9)⟩])
  (.cond (.t 10)
  (.seq (.reg [⟨none, .mov 4 (.k (.bool false))⟩])
   (.ret))
  (.skip)))
 (.seq (.seq (.reg [⟨none, .mov 5 (.k (.int .i64 0))⟩])
  (.block 0 (.loop [0, 1, 5]
   r207L0)))
 (.seq (.reg [⟨none, .mov 4 (.k (.bool true))⟩])
 (.ret))))⟩
/-- A loop of laws.markShardS. -/
def r230L0 : RC :=
 .seq (.seq (.reg [⟨none, .mov 6 (.t 5)⟩,
      ⟨none, .mov 7 (.t 0)⟩,
      ⟨none, .len 8 (.t 7)⟩,
      ⟨none, .bin 9 .lss (.t 6) (.t 8)⟩])
     (.cond (.t 9)
     (.skip)
     (.exit 0)))
    (.seq (.block 1 (.seq (.reg [⟨none, .mov 12 (.t 0)⟩,
       ⟨none, .mov 13 (.t 5)⟩,
       ⟨none, .mov 14 (.t 1)⟩,
       ⟨none, .conv 15 .u64 (.t 14)⟩,
       ⟨none, .idx 16 16 (.t 12) (.t 13)⟩,
       ⟨none, .fad 17 16 0⟩,
       ⟨none, .store 17 1 (.t 15)⟩])
      (.seq (.reg [⟨none, .mov 18 (.t 1)⟩,
       ⟨none, .bin 19 .add (.t 18) (.k (.int .i64 1))⟩,
       ⟨none, .mov 1 (.t 19)⟩])
      (.seq (.reg [⟨none, .mov 20 (.t 0)⟩,
       ⟨none, .mov 21 (.t 5)⟩,
       ⟨none, .mov 22 (.t 1)⟩,
       ⟨none, .conv 23 .u64 (.t 22)⟩,
       ⟨none, .idx 24 16 (.t 20) (.t 21)⟩,
       ⟨none, .fad 25 24 1⟩,
       ⟨none, .store 25 1 (.t 23)⟩])
      (.seq (.reg [⟨none, .mov 26 (.t 1)⟩,
       ⟨none, .bin 27 .add (.t 26) (.k (.int .i64 1))⟩,
       ⟨none, .mov 1 (.t 27)⟩])
      (.seq (.reg [⟨none, .mov 28 (.t 0)⟩,
       ⟨none, .mov 29 (.t 5)⟩,
       ⟨none, .mov 30 (.t 1)⟩,
       ⟨none, .idx 31 16 (.t 28) (.t 29)⟩,
       ⟨none, .fad 32 31 2⟩,
       ⟨none, .store 32 1 (.t 30)⟩])
      (.seq (.reg [⟨none, .mov 33 (.t 1)⟩,
       ⟨none, .bin 34 .add (.t 33) (.k (.int .i64 1))⟩,
       ⟨none, .mov 1 (.t 34)⟩])
      (.seq (.reg [⟨none, .mov 35 (.t 0)⟩,
       ⟨none, .mov 36 (.t 5)⟩,
       ⟨none, .mov 37 (.t 1)⟩,
       ⟨none, .idx 38 16 (.t 35) (.t 36)⟩,
       ⟨none, .fad 39 38 3⟩,
       ⟨none, .store 39 1 (.t 37)⟩])
      (.seq (.reg [⟨none, .mov 40 (.t 1)⟩,
       ⟨none, .bin 41 .add (.t 40) (.k (.int .i64 1))⟩,
       ⟨none, .mov 1 (.t 41)⟩])
      (.seq (.reg [⟨none, .mov 42 (.t 0)⟩,
       ⟨none, .mov 43 (.t 5)⟩,
       ⟨none, .idx 44 16 (.t 42) (.t 43)⟩,
       ⟨none, .fad 45 44 4⟩,
       ⟨none, .fad 46 45 0⟩,
       ⟨none, .load 47 46 1 false⟩,
       ⟨none, .mov 48 (.t 1)⟩,
       ⟨none, .call (some 49) 261 [(.t 47), (.t 48)] false⟩,
       ⟨none, .mov 1 (.t 49)⟩])
      (.reg [⟨none, .mov 50 (.t 0)⟩,
      ⟨none, .mov 51 (.t 5)⟩,
      ⟨none, .idx 52 16 (.t 50) (.t 51)⟩,
      ⟨none, .fad 53 52 5⟩,
      ⟨none, .load 54 53 1 false⟩,
      ⟨none, .mov 55 (.t 1)⟩,
      ⟨none, .call (some 56) 232 [(.t 54), (.t 55)] false⟩,
      ⟨none, .mov 1 (.t 56)⟩])))))))))))
    (.reg [⟨none, .mov 10 (.t 5)⟩,
    ⟨none, .bin 11 .add (.t 10) (.k (.int .i64 1))⟩,
    ⟨none, .mov 5 (.t 11)⟩]))
/-- laws.markShardS -/
def r230 : RF :=
 ⟨2, [.tmp 4],
 .seq (.reg [⟨none, .mov 4 (.k (.int .i64 0))⟩])
 (.seq (.seq (.reg [⟨none, .mov 5 (.k (.int .i64 0))⟩])
  (.block 0 (.loop [0, 1, 5]
   r230L0)))
 (.seq (.reg [⟨none, .mov 57 (.t 1)⟩,
  ⟨none, .mov 4 (.t 57)⟩])
 (.ret)))⟩
/-- The functions of this text, with their numbers. -/
def tLShard : List (Nat × RF) := [(111, r111), (112, r112), (114, r114), (192, r192), (193, r193), (203, r203), (205, r205), (207, r207), (230, r230)]
end Go.Proofs.Ytlbagejkjkfkjaa.A
/- The compact code of some functions: laws.szStore, laws.toStore, laws.eqStore, laws.szStoreS, laws.toStoreS, laws.eqStoreS, laws.markStore. -/
namespace Go.Proofs.Ytlbagejkjkfkjaa.A
open Go
/-- laws.szStore -/
def r154 : RF :=
 ⟨2, [.tmp 4],
 .seq (.reg [⟨none, .locb 2 (.t 0)⟩,
  ⟨none, .mov 4 (.k (.int .i64 0))⟩])
 (.seq (.reg [⟨none, .fad 5 2 2⟩,
  ⟨none, .load 6 5 1 false⟩,
  ⟨none, .mov 7 (.t 1)⟩,
  ⟨none, .call (some 8) 203 [(.t 6), (.t 7)] false⟩,
  ⟨none, .mov 1 (.t 8)⟩])
 (.seq (.seq (.reg [⟨none, .mov 9 (.t 1)⟩,
   ⟨none, .bin 10 .lss (.t 9) (.k (.int .i64 0))⟩])
  (.cond (.t 10)
  (.seq (.reg [⟨none, .mov 4 (.k (.int .i64 (-1)))⟩])
   (.ret))
  (.skip)))
 (.seq (.reg [⟨none, .mov 11 (.t 1)⟩,
  ⟨none, .mov 4 (.t 11)⟩])
 (.ret))))⟩
/-- laws.toStore -/
def r155 : RF :=
 ⟨1, [.cell 2 3 true],
 .seq (.reg [⟨none, .locb 1 (.t 0)⟩,
  ⟨none, .loc 2 [.int .i64 0, .int .i64 0, .nil]⟩])
 (.seq (.reg [⟨none, .loc 3 [.int .i64 0, .int .i64 0, .nil]⟩])
 (.seq (.reg [⟨none, .fad 4 1 0⟩,
  ⟨none, .load 5 4 1 false⟩,
  ⟨none, .fad 6 3 0⟩,
  ⟨none, .store 6 1 (.t 5)⟩])
 (.seq (.reg [⟨none, .fad 7 1 1⟩,
  ⟨none, .load 8 7 1 false⟩,
  ⟨none, .fad 9 3 1⟩,
  ⟨none, .store 9 1 (.t 8)⟩])
 (.seq (.reg [⟨none, .fad 10 1 2⟩,
  ⟨none, .load 11 10 1 false⟩,
  ⟨none, .call (some 12) 205 [(.t 11)] false⟩,
  ⟨none, .fad 13 3 2⟩,
  ⟨none, .store 13 1 (.t 12)⟩])
 (.seq (.reg [⟨none, .load 14 3 3 true⟩,
  ⟨none, .store 2 3 (.t 14)⟩])
 (.ret))))))⟩
/-- laws.eqStore -/
def r158 : RF :=
 ⟨2, [.tmp 4],
 .seq (.reg [⟨none, .locb 2 (.t 0)⟩,
  ⟨none, .locb 3 (.t 1)⟩,
  ⟨none, .mov 4 (.k (.bool false))⟩])
 (.seq (.seq (.reg [⟨none, .fad 5 2 0⟩,
   ⟨none, .load 6 5 1 false⟩,
   ⟨none, .fad 7 3 0⟩,
   ⟨none, .load 8 7 1 false⟩,
   ⟨none, .bin 9 .neq (.t 6) (.t 8)⟩])
  (.cond (.t 9)
  (.seq (.reg [⟨none, .mov 4 (.k (.bool false))⟩])
   (.ret))
  (.skip)))
 (.seq (.seq (.reg [⟨none, .fad 10 2 1⟩,
   ⟨none, .load 11 10 1 false⟩,
   ⟨none, .fad 12 3 1⟩,
   ⟨none, .load 13 12 1 false⟩,
   ⟨none, .bin 14 .neq (.t 11) (.t 13)⟩])
  (.cond (.t 14)
  (.seq (.reg [⟨none, .mov 4 (.k (.bool false))⟩])
   (.ret))
  (.skip)))
 (.seq (.seq (.reg [⟨none, .fad 15 2 2⟩,
   ⟨none, .load 16 15 1 false⟩,
   ⟨none, .fad 17 3 2⟩,
   ⟨none, .load 18 17 1 false⟩,
   ⟨none, .call (some 19) 207 [(.t 16), (.t 18)] false⟩,
   ⟨none, .not 20 (.t 19)⟩])
  (.cond (.t 20)
  (.seq (.reg [⟨none, .mov 4 (.k (.bool false))⟩])
   (.ret))
  (.skip)))
 (.seq (.reg [⟨none, .mov 4 (.k (.bool true))⟩])
 (.ret)))))⟩
/-- A loop of laws.szStoreS. -/
def r169L0 : RC :=
 .seq (.seq (.reg [⟨none, .mov 12 (.t 5)⟩,
      ⟨none, .mov 13 (.t 0)⟩,
      ⟨none, .len 14 (.t 13)⟩,
      ⟨none, .bin 15 .lss (.t 12) (.t 14)⟩])
     (.cond (.t 15)
     (.skip)
     (.exit 0)))
    (.seq (.block 1 (.seq (.reg [⟨none, .mov 18 (.t 0)⟩,
       ⟨none, .mov 19 (.t 5)⟩,
       ⟨none, .idx 20 17 (.t 18) (.t 19)⟩,
       ⟨none, .load 21 20 3 true⟩,
       ⟨none, .mov 22 (.t 1)⟩,
       ⟨none, .call (some 23) 154 [(.t 21), (.t 22)] false⟩,
       ⟨none, .mov 1 (.t 23)⟩])
      (.seq (.reg [⟨none, .mov 24 (.t 1)⟩,
       ⟨none, .bin 25 .lss (.t 24) (.k (.int .i64 0))⟩])
      (.cond (.t 25)
      (.seq (.reg [⟨none, .mov 4 (.k (.int .i64 (-1)))⟩])
       (.ret))
      (.skip)))))
    (.reg [⟨none, .mov 16 (.t 5)⟩,
    ⟨none, .bin 17 .add (.t 16) (.k (.int .i64 1))⟩,
    ⟨none, .mov 5 (.t 17)⟩]))
/-- laws.szStoreS -/
def r169 : RF :=
 ⟨2, [.tmp 4],
 .seq (.reg [⟨none, .mov 4 (.k (.int .i64 0))⟩])
 (.seq (.reg [⟨none, .mov 6 (.t 1)⟩,
  ⟨none, .mov 7 (.t 0)⟩,
  ⟨none, .len 8 (.t 7)⟩,
  ⟨none, .bin 9 .sub (.t 6) (.t 8)⟩,
  ⟨none, .mov 1 (.t 9)⟩])
 (.seq (.seq (.reg [⟨none, .mov 10 (.t 1)⟩,
   ⟨none, .bin 11 .lss (.t 10) (.k (.int .i64 0))⟩])
  (.cond (.t 11)
  (.seq (.reg [⟨none, .mov 4 (.k (.int .i64 (-1)))⟩])
   (.ret))
  (.skip)))
 (.seq (.seq (.reg [⟨none, .mov 5 (.k (.int .i64 0))⟩])
  (.block 0 (.loop [0, 1, 5]
   r169L0)))
 (.seq (.reg [⟨none, .mov 26 (.t 1)⟩,
  ⟨none, .mov 4 (.t 26)⟩])
 (.ret)))))⟩
/-- A loop of laws.toStoreS. -/
def r170L0 : RC :=
 .seq (.seq (.reg [⟨none, .mov 8 (.t 4)⟩,
      ⟨none, .mov 9 (.t 0)⟩,
      ⟨none, .len 10 (.t 9)⟩,
      ⟨none, .bin 11 .lss (.t 8) (.t 10)⟩])
     (.cond (.t 11)
     (.skip)
     (.exit 0)))
    (.seq (.block 1 (.reg [⟨none, .mov 14 (.t 3)⟩,
      ⟨none, .mov 15 (.t 4)⟩,
      ⟨none, .mov 16 (.t 0)⟩,
      ⟨none, .mov 17 (.t 4)⟩,
      ⟨none, .idx 18 17 (.t 16) (.t 17)⟩,
      ⟨none, .load 19 18 3 true⟩,
      ⟨none, .call (some 20) 155 [(.t 19)] false⟩,
      ⟨none, .idx 21 18 (.t 14) (.t 15)⟩,
      ⟨none, .store 21 3 (.t 20)⟩]))
    (.reg [⟨none, .mov 12 (.t 4)⟩,
    ⟨none, .bin 13 .add (.t 12) (.k (.int .i64 1))⟩,
    ⟨none, .mov 4 (.t 13)⟩]))
/-- laws.toStoreS -/
def r170 : RF :=
 ⟨1, [.tmp 2],
 .seq (.reg [⟨none, .mov 2 (.k (.nil))⟩])
 (.seq (.reg [⟨none, .mov 5 (.t 0)⟩,
  ⟨none, .len 6 (.t 5)⟩,
  ⟨none, .mks 7 18 40 [.int .i64 0, .int .i64 0, .nil] (.t 6) (.t 6)⟩,
  ⟨none, .mov 3 (.t 7)⟩])
 (.seq (.seq (.reg [⟨none, .mov 4 (.k (.int .i64 0))⟩])
  (.block 0 (.loop [0, 3, 4]
   r170L0)))
 (.seq (.reg [⟨none, .mov 22 (.t 3)⟩,
  ⟨none, .mov 2 (.t 22)⟩])
 (.ret))))⟩
/-- A loop of laws.eqStoreS. -/
def r173L0 : RC :=
 .seq (.seq (.reg [⟨none, .mov 11 (.t 5)⟩,
      ⟨none, .mov 12 (.t 0)⟩,
      ⟨none, .len 13 (.t 12)⟩,
      ⟨none, .bin 14 .lss (.t 11) (.t 13)⟩])
     (.cond (.t 14)
     (.skip)
     (.exit 0)))
    (.seq (.block 1 (.seq (.reg [⟨none, .chk []⟩,
       ⟨none, .mov 17 (.t 0)⟩,
       ⟨none, .mov 18 (.t 5)⟩,
       ⟨none, .idx 19 18 (.t 17) (.t 18)⟩,
       ⟨none, .mov 21 (.t 1)⟩,
       ⟨none, .mov 22 (.t 5)⟩,
       ⟨none, .idx 23 18 (.t 21) (.t 22)⟩,
       ⟨none, .load 20 19 3 true⟩,
       ⟨none, .load 24 23 3 true⟩,
       ⟨none, .call (some 25) 158 [(.t 20), (.t 24)] true⟩,
       ⟨none, .not 26 (.t 25)⟩])
      (.cond (.t 26)
      (.seq (.reg [⟨none, .mov 4 (.k (.bool false))⟩])
       (.ret))
      (.skip))))
    (.reg [⟨none, .mov 15 (.t 5)⟩,
    ⟨none, .bin 16 .add (.t 15) (.k (.int .i64 1))⟩,
    ⟨none, .mov 5 (.t 16)⟩]))
/-- laws.eqStoreS -/
def r173 : RF :=
 ⟨2, [.tmp 4],
 .seq (.reg [⟨none, .mov 4 (.k (.bool false))⟩])
 (.seq (.seq (.reg [⟨none, .mov 6 (.t 0)⟩,
   ⟨none, .len 7 (.t 6)⟩,
   ⟨none, .mov 8 (.t 1)⟩,
   ⟨none, .len 9 (.t 8)⟩,
   ⟨none, .bin 10 .neq (.t 7) (.t 9)⟩])
  (.cond (.t 10)
  (.seq (.reg [⟨none, .mov 4 (.k (.bool false))⟩])
   (.ret))
  (.skip)))
 (.seq (.seq (.reg [⟨none, .mov 5 (.k (.int .i64 0))⟩])
  (.block 0 (.loop [0, 1, 5]
   r173L0)))
 (.seq (.reg [⟨none, .mov 4 (.k (.bool true))⟩])
 (.ret))))⟩
/-- laws.markStore -/
def r191 : RF :=
 ⟨2, [.tmp 4],
 .seq (.reg [⟨none, .locb 2 (.t 0)⟩,
  ⟨none, .mov 4 (.k (.int .i64 0))⟩])
 (.seq (.reg [⟨none, .fad 5 2 2⟩,
  ⟨none, .load 6 5 1 false⟩,
  ⟨none, .mov 7 (.t 1)⟩,
  ⟨none, .call (some 8) 230 [(.t 6), (.t 7)] false⟩,
  ⟨none, .mov 1 (.t 8)⟩])
 (.seq (.reg [⟨none, .mov 9 (.t 1)⟩,
  ⟨none, .mov 4 (.t 9)⟩])
 (.ret)))⟩
/-- The functions of this text, with their numbers. -/
def tLStore : List (Nat × RF) := [(154, r154), (155, r155), (158, r158), (169, r169), (170, r170), (173, r173), (191, r191)]
end Go.Proofs.Ytlbagejkjkfkjaa.A
/- The compact code of some functions: cmp.Compare[int]. -/
namespace Go.Proofs.Ytlbagejkjkfkjaa.A
open Go
/-- cmp.Compare[int] -/
def r273 : RF :=
 ⟨2, [.tmp 4],
 .seq (.reg [⟨none, .mov 4 (.k (.int .i64 0))⟩])
 (.seq (.reg [⟨none, .mov 7 (.t 0)⟩,
  ⟨none, .call (some 8) 276 [(.t 7)] false⟩,
  ⟨none, .mov 5 (.t 8)⟩])
 (.seq (.reg [⟨none, .mov 9 (.t 1)⟩,
  ⟨none, .call (some 10) 276 [(.t 9)] false⟩,
  ⟨none, .mov 6 (.t 10)⟩])
 (.seq (.seq (.reg [⟨none, .mov 11 (.t 5)⟩])
  (.cond (.t 11)
  (.seq (.seq (.reg [⟨none, .mov 12 (.t 6)⟩])
    (.cond (.t 12)
    (.seq (.reg [⟨none, .mov 4 (.k (.int .i64 0))⟩])
     (.ret))
    (.skip)))
   (.seq (.reg [⟨none, .mov 4 (.k (.int .i64 (-1)))⟩])
   (.ret)))
  (.skip)))
 (.seq (.seq (.reg [⟨none, .mov 13 (.t 6)⟩])
  (.cond (.t 13)
  (.seq (.reg [⟨none, .mov 4 (.k (.int .i64 1))⟩])
   (.ret))
  (.skip)))
 (.seq (.seq (.reg [⟨none, .mov 14 (.t 0)⟩,
   ⟨none, .mov 15 (.t 1)⟩,
   ⟨none, .bin 16 .lss (.t 14) (.t 15)⟩])
  (.cond (.t 16)
  (.seq (.reg [⟨none, .mov 4 (.k (.int .i64 (-1)))⟩])
   (.ret))
  (.skip)))
 (.seq (.seq (.reg [⟨none, .mov 17 (.t 0)⟩,
   ⟨none, .mov 18 (.t 1)⟩,
   ⟨none, .bin 19 .gtr (.t 17) (.t 18)⟩])
  (.cond (.t 19)
  (.seq (.reg [⟨none, .mov 4 (.k (.int .i64 1))⟩])
   (.ret))
  (.skip)))
 (.seq (.reg [⟨none, .mov 4 (.k (.int .i64 0))⟩])
 (.ret))))))))⟩
/-- The functions of this text, with their numbers. -/
def tLibcmpCompareint : List (Nat × RF) := [(273, r273)]
end Go.Proofs.Ytlbagejkjkfkjaa.A
/- The compact code of some functions: cmp.Compare[uint64]. -/
namespace Go.Proofs.Ytlbagejkjkfkjaa.A
open Go
/-- cmp.Compare[uint64] -/
def r274 : RF :=
 ⟨2, [.tmp 4],
 .seq (.reg [⟨none, .mov 4 (.k (.int .i64 0))⟩])
 (.seq (.reg [⟨none, .mov 7 (.t 0)⟩,
  ⟨none, .call (some 8) 277 [(.t 7)] false⟩,
  ⟨none, .mov 5 (.t 8)⟩])
 (.seq (.reg [⟨none, .mov 9 (.t 1)⟩,
  ⟨none, .call (some 10) 277 [(.t 9)] false⟩,
  ⟨none, .mov 6 (.t 10)⟩])
 (.seq (.seq (.reg [⟨none, .mov 11 (.t 5)⟩])
  (.cond (.t 11)
  (.seq (.seq (.reg [⟨none, .mov 12 (.t 6)⟩])
    (.cond (.t 12)
    (.seq (.reg [⟨none, .mov 4 (.k (.int .i64 0))⟩])
     (.ret))
    (.skip)))
   (.seq (.reg [⟨none, .mov 4 (.k (.int .i64 (-1)))⟩])
   (.ret)))
  (.skip)))
 (.seq (.seq (.reg [⟨none, .mov 13 (.t 6)⟩])
  (.cond (.t 13)
  (.seq (.reg [⟨none, .mov 4 (.k (.int .i64 1))⟩])
   (.ret))
  (.skip)))
 (.seq (.seq (.reg [⟨none, .mov 14 (.t 0)⟩,
   ⟨none, .mov 15 (.t 1)⟩,
   ⟨none, .bin 16 .lss (.t 14) (.t 15)⟩])
  (.cond (.t 16)
  (.seq (.reg [⟨none, .mov 4 (.k (.int .i64 (-1)))⟩])
   (.ret))
  (.skip)))
 (.seq (.seq (.reg [⟨none, .mov 17 (.t 0)⟩,
   ⟨none, .mov 18 (.t 1)⟩,
   ⟨none, .bin 19 .gtr (.t 17) (.t 18)⟩])
  (.cond (.t 19)
  (.seq (.reg [⟨none, .mov 4 (.k (.int .i64 1))⟩])
   (.ret))
  (.skip)))
 (.seq (.reg [⟨none, .mov 4 (.k (.int .i64 0))⟩])
 (.ret))))))))⟩
/-- The functions of this text, with their numbers. -/
def tLibcmpCompareuint64 : List (Nat × RF) := [(274, r274)]
end Go.Proofs.Ytlbagejkjkfkjaa.A
/- The compact code of some functions: cmp.Or[int]. -/
namespace Go.Proofs.Ytlbagejkjkfkjaa.A
open Go
/-- A loop of cmp.Or[int]. -/
def r275L0 : RC :=
 .seq (.reg [⟨none, .bin 9 .lss (.t 8) (.t 7)⟩])
    (.seq (.cond (.t 9)
     (.skip)
     (.exit 0))
    (.seq (.block 1 (.seq (.reg [⟨none, .idx 10 15 (.t 6) (.t 8)⟩,
       ⟨none, .load 11 10 1 false⟩,
       ⟨none, .mov 5 (.t 11)⟩])
      (.seq (.reg [⟨none, .mov 12 (.t 5)⟩,
       ⟨none, .mov 13 (.t 3)⟩,
       ⟨none, .bin 14 .neq (.t 12) (.t 13)⟩])
      (.cond (.t 14)
      (.seq (.reg [⟨none, .mov 15 (.t 5)⟩,
        ⟨none, .mov 2 (.t 15)⟩])
       (.ret))
      (.skip)))))
    (.reg [⟨none, .bin 16 .add (.t 8) (.k (.int .i64 1))⟩,
    ⟨none, .mov 8 (.t 16)⟩])))
/-- cmp.Or[int] -/
def r275 : RF :=
 ⟨1, [.tmp 2],
 .seq (.reg [⟨none, .mov 2 (.k (.int .i64 0))⟩])
 (.seq (.reg [⟨none, .mov 3 (.k (.int .i64 0))⟩])
 (.seq (.seq (.reg [⟨none, .mov 6 (.t 0)⟩,
   ⟨none, .len 7 (.t 6)⟩,
   ⟨none, .mov 8 (.k (.int .i64 0))⟩])
  (.block 0 (.loop [3, 6, 7, 8]
   r275L0)))
 (.seq (.reg [⟨none, .mov 17 (.t 3)⟩,
  ⟨none, .mov 2 (.t 17)⟩])
 (.ret))))⟩
/-- The functions of this text, with their numbers. -/
def tLibcmpOrint : List (Nat × RF) := [(275, r275)]
end Go.Proofs.Ytlbagejkjkfkjaa.A
/- The compact code of some functions: cmp.isNaN[int]. -/
namespace Go.Proofs.Ytlbagejkjkfkjaa.A
open Go
/-- cmp.isNaN[int] -/
def r276 : RF :=
 ⟨1, [.tmp 2],
 .seq (.reg [⟨none, .mov 2 (.k (.bool false))⟩])
 (.seq (.reg [⟨none, .mov 3 (.t 0)⟩,
  ⟨none, .mov 4 (.t 0)⟩,
  ⟨none, .bin 5 .neq (.t 3) (.t 4)⟩,
  ⟨none, .mov 2 (.t 5)⟩])
 (.ret))⟩
/-- The functions of this text, with their numbers. -/
def tLibcmpisNaNint : List (Nat × RF) := [(276, r276)]
end Go.Proofs.Ytlbagejkjkfkjaa.A
/- The compact code of some functions: cmp.isNaN[uint64]. -/
namespace Go.Proofs.Ytlbagejkjkfkjaa.A
open Go
/-- cmp.isNaN[uint64] -/
def r277 : RF :=
 ⟨1, [.tmp 2],
 .seq (.reg [⟨none, .mov 2 (.k (.bool false))⟩])
 (.seq (.reg [⟨none, .mov 3 (.t 0)⟩,
  ⟨none, .mov 4 (.t 0)⟩,
  ⟨none, .bin 5 .neq (.t 3) (.t 4)⟩,
  ⟨none, .mov 2 (.t 5)⟩])
 (.ret))⟩
/-- The functions of this text, with their numbers. -/
def tLibcmpisNaNuint64 : List (Nat × RF) := [(277, r277)]
end Go.Proofs.Ytlbagejkjkfkjaa.A
/- The compact code of some functions: slices.Contains[[]impl.Fin,impl.Fin]. -/
namespace Go.Proofs.Ytlbagejkjkfkjaa.A
open Go
/-- slices.Contains[[]impl.Fin,impl.Fin] -/
def r266 : RF :=
 ⟨2, [.tmp 4],
 .seq (.reg [⟨none, .locb 3 (.t 1)⟩,
  ⟨none, .mov 4 (.k (.bool false))⟩])
 (.seq (.reg [⟨none, .mov 5 (.t 0)⟩,
  ⟨none, .load 6 3 2 true⟩,
  ⟨none, .call (some 7) 272 [(.t 5), (.t 6)] false⟩,
  ⟨none, .bin 8 .geq (.t 7) (.k (.int .i64 0))⟩,
  ⟨none, .mov 4 (.t 8)⟩])
 (.ret))⟩
/-- The functions of this text, with their numbers. -/
def tLibslicesContainsimplFinimplFin : List (Nat × RF) := [(266, r266)]
end Go.Proofs.Ytlbagejkjkfkjaa.A
/- The compact code of some functions: slices.IndexFunc[[]impl.Shard,impl.Shard]. -/
namespace Go.Proofs.Ytlbagejkjkfkjaa.A
open Go
/-- A loop of slices.IndexFunc[[]impl.Shard,impl.Shard]. -/
def r248L0 : RC :=
 .seq (.reg [⟨none, .bin 9 .lss (.t 8) (.t 7)⟩])
    (.seq (.cond (.t 9)
     (.skip)
     (.exit 0))
    (.seq (.block 1 (.seq (.reg [⟨none, .mov 10 (.t 8)⟩,
       ⟨none, .mov 5 (.t 10)⟩])
      (.seq (.reg [⟨none, .mov 11 (.t 1)⟩,
       ⟨none, .mov 12 (.t 0)⟩,
       ⟨none, .mov 13 (.t 5)⟩,
       ⟨none, .idx 14 16 (.t 12) (.t 13)⟩,
       ⟨none, .load 15 14 6 true⟩,
       ⟨none, .calv (some 16) (.t 11) [(.t 15)] false⟩])
      (.cond (.t 16)
      (.seq (.reg [⟨none, .mov 17 (.t 5)⟩,
        ⟨none, .mov 4 (.t 17)⟩])
       (.ret))
      (.skip)))))
    (.reg [⟨none, .bin 18 .add (.t 8) (.k (.int .i64 1))⟩,
    ⟨none, .mov 8 (.t 18)⟩])))
/-- slices.IndexFunc[[]impl.Shard,impl.Shard] -/
def r248 : RF :=
 ⟨2, [.tmp 4],
 .seq (.reg [⟨none, .mov 4 (.k (.int .i64 0))⟩])
 (.seq (.seq (.reg [⟨none, .mov 6 (.t 0)⟩,
   ⟨none, .len 7 (.t 6)⟩,
   ⟨none, .mov 8 (.k (.int .i64 0))⟩])
  (.block 0 (.loop [0, 1, 7, 8]
   r248L0)))
 (.seq (.reg [⟨none, .mov 4 (.k (.int .i64 (-1)))⟩])
 (.ret)))⟩
/-- The functions of this text, with their numbers. -/
def tLibslicesIndexFuncimplShardimplShard : List (Nat × RF) := [(248, r248)]
end Go.Proofs.Ytlbagejkjkfkjaa.A
/- The compact code of some functions: slices.Index[[]impl.Fin,impl.Fin]. -/
namespace Go.Proofs.Ytlbagejkjkfkjaa.A
open Go
/-- A loop of slices.Index[[]impl.Fin,impl.Fin]. -/
def r272L0 : RC :=
 .seq (.reg [⟨none, .bin 9 .lss (.t 8) (.t 7)⟩])
    (.seq (.cond (.t 9)
     (.skip)
     (.exit 0))
    (.seq (.block 1 (.seq (.reg [⟨none, .mov 10 (.t 8)⟩,
       ⟨none, .mov 5 (.t 10)⟩])
      (.seq (.reg [⟨none, .chk []⟩,
       ⟨none, .mov 12 (.t 0)⟩,
       ⟨none, .mov 13 (.t 5)⟩,
       ⟨none, .idx 14 9 (.t 12) (.t 13)⟩,
       ⟨none, .load 11 3 2 true⟩,
       ⟨none, .load 15 14 2 true⟩,
       ⟨none, .eqs 16 false [.i .i64, .i .u64] (.t 11) (.t 15)⟩])
      (.cond (.t 16)
      (.seq (.reg [⟨none, .mov 17 (.t 5)⟩,
        ⟨none, .mov 4 (.t 17)⟩])
       (.ret))
      (.skip)))))
    (.reg [⟨none, .bin 18 .add (.t 8) (.k (.int .i64 1))⟩,
    ⟨none, .mov 8 (.t 18)⟩])))
/-- slices.Index[[]impl.Fin,impl.Fin] -/
def r272 : RF :=
 ⟨2, [.tmp 4],
 .seq (.reg [⟨none, .locb 3 (.t 1)⟩,
  ⟨none, .mov 4 (.k (.int .i64 0))⟩])
 (.seq (.seq (.reg [⟨none, .mov 6 (.t 0)⟩,
   ⟨none, .len 7 (.t 6)⟩,
   ⟨none, .mov 8 (.k (.int .i64 0))⟩])
  (.block 0 (.loop [0, 3, 7, 8]
   r272L0)))
 (.seq (.reg [⟨none, .mov 4 (.k (.int .i64 (-1)))⟩])
 (.ret)))⟩
/-- The functions of this text, with their numbers. -/
def tLibslicesIndeximplFinimplFin : List (Nat × RF) := [(272, r272)]
end Go.Proofs.Ytlbagejkjkfkjaa.A
/- The compact code of some functions: spec.l01In, spec.l01New, spec.l01Below, spec.l01Size, spec.l01PickInt, spec.l01Once, spec.l01Byte, spec.l01Big. -/
namespace Go.Proofs.Ytlbagejkjkfkjaa.A
open Go
/-- spec.l01In -/
def r5 : RF :=
 ⟨3, [.tmp 6],
 .seq (.reg [⟨none, .mov 6 (.k (.bool false))⟩])
 (.seq (.reg [⟨none, .mov 7 (.t 1)⟩,
  ⟨none, .mov 8 (.t 0)⟩,
  ⟨none, .bin 9 .leq (.t 7) (.t 8)⟩,
  ⟨none, .mov 10 (.t 9)⟩,
  ⟨some (10, true), .mov 11 (.t 0)⟩,
  ⟨some (10, true), .mov 12 (.t 2)⟩,
  ⟨some (10, true), .bin 13 .leq (.t 11) (.t 12)⟩,
  ⟨none, .pick 14 (.t 10) (.t 13) (.k (.bool false))⟩,
  ⟨none, .mov 6 (.t 14)⟩])
 (.ret))⟩
/-- A loop of spec.l01New. -/
def r194L0 : RC :=
 .seq (.seq (.reg [⟨none, .mov 8 (.t 4)⟩,
      ⟨none, .mov 9 (.t 0)⟩,
      ⟨none, .len 10 (.t 9)⟩,
      ⟨none, .bin 11 .lss (.t 8) (.t 10)⟩,
      ⟨none, .mov 12 (.t 11)⟩,
      ⟨some (12, true), .mov 13 (.t 4)⟩,
      ⟨some (12, true), .bin 14 .lss (.t 13) (.k (.int .i64 4000))⟩,
      ⟨none, .pick 15 (.t 12) (.t 14) (.k (.bool false))⟩])
     (.cond (.t 15)
     (.skip)
     (.exit 0)))
    (.seq (.block 1 (.reg [⟨none, .mov 18 (.t 3)⟩,
      ⟨none, .bin 19 .mul (.t 18) (.k (.int .i64 149))⟩,
      ⟨none, .mov 20 (.t 0)⟩,
      ⟨none, .mov 21 (.t 4)⟩,
      ⟨none, .idx 22 19 (.t 20) (.t 21)⟩,
      ⟨none, .load 23 22 1 false⟩,
      ⟨none, .conv 24 .i64 (.t 23)⟩,
      ⟨none, .bin 25 .add (.t 19) (.t 24)⟩,
      ⟨none, .bin 26 .add (.t 25) (.k (.int .i64 11))⟩,
      ⟨none, .bin 27 .and (.t 26) (.k (.int .i64 1073741823))⟩,
      ⟨none, .mov 3 (.t 27)⟩]))
    (.reg [⟨none, .mov 16 (.t 4)⟩,
    ⟨none, .bin 17 .add (.t 16) (.k (.int .i64 1))⟩,
    ⟨none, .mov 4 (.t 17)⟩]))
/-- spec.l01New -/
def r194 : RF :=
 ⟨1, [.tmp 2],
 .seq (.reg [⟨none, .mov 2 (.k (.nilp))⟩])
 (.seq (.reg [⟨none, .mov 5 (.t 0)⟩,
  ⟨none, .len 6 (.t 5)⟩,
  ⟨none, .bin 7 .add (.k (.int .i64 138138)) (.t 6)⟩,
  ⟨none, .mov 3 (.t 7)⟩])
 (.seq (.seq (.reg [⟨none, .mov 4 (.k (.int .i64 0))⟩])
  (.block 0 (.loop [0, 3, 4]
   r194L0)))
 (.seq (.reg [⟨none, .mov 28 (.t 0)⟩,
  ⟨none, .mov 29 (.t 3)⟩,
  ⟨none, .build 30 [.nil, .int .i64 0, .int .i64 0] [(0, 1, (.t 28)), (2, 1, (.t 29))]⟩,
  ⟨none, .newb 31 (.t 30)⟩,
  ⟨none, .mov 2 (.t 31)⟩])
 (.ret))))⟩
/-- spec.l01Below -/
def r236 : RF :=
 ⟨2, [.tmp 4],
 .seq (.reg [⟨none, .mov 4 (.k (.int .i64 0))⟩])
 (.seq (.seq (.reg [⟨none, .mov 8 (.t 1)⟩,
   ⟨none, .bin 9 .leq (.t 8) (.k (.int .i64 0))⟩])
  (.cond (.t 9)
  (.seq (.reg [⟨none, .mov 4 (.k (.int .i64 0))⟩])
   (.ret))
  (.skip)))
 (.seq (.seq (.reg [⟨none, .mov 10 (.t 1)⟩,
   ⟨none, .bin 11 .leq (.t 10) (.k (.int .i64 256))⟩])
  (.cond (.t 11)
  (.seq (.reg [⟨none, .mov 12 (.t 0)⟩,
    ⟨none, .call (some 13) 263 [(.t 12)] false⟩,
    ⟨none, .mov 14 (.t 1)⟩,
    ⟨none, .bin 15 .rem (.t 13) (.t 14)⟩,
    ⟨none, .mov 4 (.t 15)⟩])
   (.ret))
  (.skip)))
 (.seq (.reg [⟨none, .mov 16 (.t 0)⟩,
  ⟨none, .call (some 17) 263 [(.t 16)] false⟩,
  ⟨none, .mov 5 (.t 17)⟩])
 (.seq (.reg [⟨none, .mov 18 (.t 0)⟩,
  ⟨none, .call (some 19) 263 [(.t 18)] false⟩,
  ⟨none, .mov 6 (.t 19)⟩])
 (.seq (.reg [⟨none, .mov 20 (.t 0)⟩,
  ⟨none, .call (some 21) 263 [(.t 20)] false⟩,
  ⟨none, .mov 7 (.t 21)⟩])
 (.seq (.reg [⟨none, .mov 22 (.t 5)⟩,
  ⟨none, .bin 23 .mul (.t 22) (.k (.int .i64 65536))⟩,
  ⟨none, .mov 24 (.t 6)⟩,
  ⟨none, .bin 25 .mul (.t 24) (.k (.int .i64 256))⟩,
  ⟨none, .bin 26 .add (.t 23) (.t 25)⟩,
  ⟨none, .mov 27 (.t 7)⟩,
  ⟨none, .bin 28 .add (.t 26) (.t 27)⟩,
  ⟨none, .mov 29 (.t 1)⟩,
  ⟨none, .bin 30 .rem (.t 28) (.t 29)⟩,
  ⟨none, .mov 4 (.t 30)⟩])
 (.ret)))))))⟩
/-- spec.l01Size -/
def r238 : RF :=
 ⟨2, [.tmp 4],
 .seq (.reg [⟨none, .mov 4 (.k (.int .i64 0))⟩])
 (.seq (.reg [⟨none, .mov 6 (.t 0)⟩,
  ⟨none, .len 7 (.t 6)⟩,
  ⟨none, .bin 8 .quo (.t 7) (.k (.int .i64 16))⟩,
  ⟨none, .bin 9 .add (.k (.int .i64 2)) (.t 8)⟩,
  ⟨none, .mov 5 (.t 9)⟩])
 (.seq (.seq (.reg [⟨none, .mov 10 (.t 5)⟩,
   ⟨none, .mov 11 (.t 1)⟩,
   ⟨none, .bin 12 .gtr (.t 10) (.t 11)⟩])
  (.cond (.t 12)
  (.seq (.reg [⟨none, .mov 13 (.t 1)⟩,
    ⟨none, .mov 4 (.t 13)⟩])
   (.ret))
  (.skip)))
 (.seq (.reg [⟨none, .mov 14 (.t 5)⟩,
  ⟨none, .mov 4 (.t 14)⟩])
 (.ret))))⟩
/-- spec.l01PickInt -/
def r239 : RF :=
 ⟨2, [.tmp 4],
 .seq (.reg [⟨none, .mov 4 (.k (.int .i64 0))⟩])
 (.seq (.reg [⟨none, .mov 5 (.t 1)⟩,
  ⟨none, .mov 6 (.t 0)⟩,
  ⟨none, .mov 7 (.t 1)⟩,
  ⟨none, .len 8 (.t 7)⟩,
  ⟨none, .call (some 9) 236 [(.t 6), (.t 8)] false⟩,
  ⟨none, .idx 10 15 (.t 5) (.t 9)⟩,
  ⟨none, .load 11 10 1 false⟩,
  ⟨none, .mov 4 (.t 11)⟩])
 (.ret))⟩
/-- spec.l01Once -/
def r240 : RF :=
 ⟨2, [.tmp 4],
 .seq (.reg [⟨none, .mov 4 (.k (.bool false))⟩])
 (.seq (.reg [⟨none, .mov 5 (.t 0)⟩,
  ⟨none, .mov 6 (.t 1)⟩,
  ⟨none, .call (some 7) 236 [(.t 5), (.t 6)] false⟩,
  ⟨none, .bin 8 .eql (.t 7) (.k (.int .i64 0))⟩,
  ⟨none, .mov 4 (.t 8)⟩])
 (.ret))⟩
/-- spec.l01Byte -/
def r263 : RF :=
 ⟨1, [.tmp 2],
 .seq (.reg [⟨none, .mov 2 (.k (.int .i64 0))⟩])
 (.seq (.reg [⟨none, .mov 4 (.t 0)⟩,
  ⟨none, .mov 5 (.t 0)⟩,
  ⟨none, .nilc 6 (.t 5)⟩,
  ⟨none, .fad 7 6 2⟩,
  ⟨none, .load 8 7 1 false⟩,
  ⟨none, .bin 9 .mul (.t 8) (.k (.int .i64 6364136223846793005))⟩,
  ⟨none, .bin 10 .add (.t 9) (.k (.int .i64 1442695040888963407))⟩,
  ⟨none, .nilc 11 (.t 4)⟩,
  ⟨none, .fad 12 11 2⟩,
  ⟨none, .store 12 1 (.t 10)⟩])
 (.seq (.reg [⟨none, .chk []⟩,
  ⟨none, .mov 13 (.t 0)⟩,
  ⟨none, .nilc 14 (.t 13)⟩,
  ⟨none, .mov 18 (.t 0)⟩,
  ⟨none, .nilc 19 (.t 18)⟩,
  ⟨none, .fad 15 14 2⟩,
  ⟨none, .load 16 15 1 false⟩,
  ⟨none, .bin 17 .shr (.t 16) (.k (.int .u64 33))⟩,
  ⟨none, .fad 20 19 2⟩,
  ⟨none, .load 21 20 1 false⟩,
  ⟨none, .bin 22 .shr (.t 21) (.k (.int .u64 45))⟩,
  ⟨none, .bin 23 .xor (.t 17) (.t 22)⟩,
  ⟨none, .bin 24 .and (.t 23) (.k (.int .i64 255))⟩,
  ⟨none, .mov 3 (.t 24)⟩])
 (.seq (.seq (.reg [⟨none, .chk []⟩,
   ⟨none, .mov 25 (.t 0)⟩,
   ⟨none, .nilc 26 (.t 25)⟩,
   ⟨none, .mov 29 (.t 0)⟩,
   ⟨none, .nilc 30 (.t 29)⟩,
   ⟨none, .fad 27 26 1⟩,
   ⟨none, .load 28 27 1 false⟩,
   ⟨none, .fad 31 30 0⟩,
   ⟨none, .load 32 31 1 false⟩,
   ⟨none, .len 33 (.t 32)⟩,
   ⟨none, .bin 34 .lss (.t 28) (.t 33)⟩])
  (.cond (.t 34)
  (.seq (.reg [⟨none, .chk []⟩,
    ⟨none, .mov 35 (.t 3)⟩,
    ⟨none, .mov 36 (.t 0)⟩,
    ⟨none, .nilc 37 (.t 36)⟩,
    ⟨none, .mov 40 (.t 0)⟩,
    ⟨none, .nilc 41 (.t 40)⟩,
    ⟨none, .fad 38 37 0⟩,
    ⟨none, .load 39 38 1 false⟩,
    ⟨none, .fad 42 41 1⟩,
    ⟨none, .load 43 42 1 false⟩,
    ⟨none, .idx 44 19 (.t 39) (.t 43)⟩,
    ⟨none, .load 45 44 1 false⟩,
    ⟨none, .conv 46 .i64 (.t 45)⟩,
    ⟨none, .bin 47 .add (.t 35) (.t 46)⟩,
    ⟨none, .bin 48 .and (.t 47) (.k (.int .i64 255))⟩,
    ⟨none, .mov 3 (.t 48)⟩])
   (.reg [⟨none, .mov 49 (.t 0)⟩,
   ⟨none, .mov 50 (.t 0)⟩,
   ⟨none, .nilc 51 (.t 50)⟩,
   ⟨none, .fad 52 51 1⟩,
   ⟨none, .load 53 52 1 false⟩,
   ⟨none, .bin 54 .add (.t 53) (.k (.int .i64 1))⟩,
   ⟨none, .nilc 55 (.t 49)⟩,
   ⟨none, .fad 56 55 1⟩,
   ⟨none, .store 56 1 (.t 54)⟩]))
  (.skip)))
 (.seq (.reg [⟨none, .mov 57 (.t 3)⟩,
  ⟨none, .mov 2 (.t 57)⟩])
 (.ret)))))⟩
/-- A loop of spec.l01Big. -/
def r264L0 : RC :=
 .seq (.seq (.reg [⟨none, .mov 28 (.t 4)⟩,
      ⟨none, .bin 29 .lss (.t 28) (.k (.int .i64 8))⟩])
     (.cond (.t 29)
     (.skip)
     (.exit 1)))
    (.seq (.block 2 (.reg [⟨none, .mov 32 (.t 3)⟩,
      ⟨none, .bin 33 .mul (.t 32) (.k (.int .u64 256))⟩,
      ⟨none, .mov 34 (.t 0)⟩,
      ⟨none, .call (some 35) 236 [(.t 34), (.k (.int .i64 256))] false⟩,
      ⟨none, .conv 36 .u64 (.t 35)⟩,
      ⟨none, .bin 37 .add (.t 33) (.t 36)⟩,
      ⟨none, .mov 3 (.t 37)⟩]))
    (.reg [⟨none, .mov 30 (.t 4)⟩,
    ⟨none, .bin 31 .add (.t 30) (.k (.int .i64 1))⟩,
    ⟨none, .mov 4 (.t 31)⟩]))
/-- spec.l01Big -/
def r264 : RF :=
 ⟨1, [.tmp 2],
 .seq (.reg [⟨none, .mov 2 (.k (.int .u64 0))⟩])
 (.seq (.reg [⟨none, .mov 3 (.k (.int .u64 0))⟩])
 (.seq (.seq (.reg [⟨none, .mov 5 (.t 0)⟩,
   ⟨none, .call (some 6) 236 [(.t 5), (.k (.int .i64 8))] false⟩])
  (.block 0 (.seq (.reg [⟨none, .bin 8 .eql (.t 6) (.k (.int .i64 0))⟩,
    ⟨none, .mov 7 (.t 8)⟩])
   (.cond (.t 7)
   (.seq (.reg [⟨none, .mov 2 (.k (.int .u64 0))⟩])
    (.ret))
   (.seq (.reg [⟨none, .bin 10 .eql (.t 6) (.k (.int .i64 1))⟩,
     ⟨none, .mov 9 (.t 10)⟩])
    (.cond (.t 9)
    (.seq (.reg [⟨none, .mov 2 (.k (.int .u64 18446744073709551615))⟩])
     (.ret))
    (.seq (.reg [⟨none, .bin 12 .eql (.t 6) (.k (.int .i64 2))⟩,
      ⟨none, .mov 11 (.t 12)⟩])
     (.cond (.t 11)
     (.seq (.reg [⟨none, .mov 13 (.t 0)⟩,
       ⟨none, .call (some 14) 236 [(.t 13), (.k (.int .i64 300))] false⟩,
       ⟨none, .conv 15 .u64 (.t 14)⟩,
       ⟨none, .mov 2 (.t 15)⟩])
      (.ret))
     (.seq (.reg [⟨none, .bin 17 .eql (.t 6) (.k (.int .i64 3))⟩,
       ⟨none, .mov 16 (.t 17)⟩])
      (.cond (.t 16)
      (.seq (.reg [⟨none, .mov 18 (.t 0)⟩,
        ⟨none, .call (some 19) 236 [(.t 18), (.k (.int .i64 300))] false⟩,
        ⟨none, .conv 20 .u64 (.t 19)⟩,
        ⟨none, .bin 21 .sub (.k (.int .u64 18446744073709551615)) (.t 20)⟩,
        ⟨none, .mov 2 (.t 21)⟩])
       (.ret))
      (.seq (.reg [⟨none, .bin 23 .eql (.t 6) (.k (.int .i64 4))⟩,
        ⟨none, .mov 22 (.t 23)⟩])
       (.cond (.t 22)
       (.seq (.reg [⟨none, .mov 24 (.t 0)⟩,
         ⟨none, .call (some 25) 236 [(.t 24), (.k (.int .i64 64))] false⟩,
         ⟨none, .conv 26 .u64 (.t 25)⟩,
         ⟨none, .bin 27 .shl (.k (.int .u64 1)) (.t 26)⟩,
         ⟨none, .mov 2 (.t 27)⟩])
        (.ret))
       (.skip)))))))))))))
 (.seq (.seq (.reg [⟨none, .mov 4 (.k (.int .i64 0))⟩])
  (.block 1 (.loop [0, 3, 4]
   r264L0)))
 (.seq (.reg [⟨none, .mov 38 (.t 3)⟩,
  ⟨none, .mov 39 (.t 0)⟩,
  ⟨none, .call (some 40) 236 [(.t 39), (.k (.int .i64 64))] false⟩,
  ⟨none, .conv 41 .u64 (.t 40)⟩,
  ⟨none, .bin 42 .shr (.t 38) (.t 41)⟩,
  ⟨none, .mov 2 (.t 42)⟩])
 (.ret)))))⟩
/-- The functions of this text, with their numbers. -/
def tS01d : List (Nat × RF) := [(5, r5), (194, r194), (236, r236), (238, r238), (239, r239), (240, r240), (263, r263), (264, r264)]
end Go.Proofs.Ytlbagejkjkfkjaa.A
/- The compact code of some functions: spec.l10DrawId, spec.l10DrawAmount, spec.BookOk, spec.TotalOf, spec.l10Copy. -/
namespace Go.Proofs.Ytlbagejkjkfkjaa.A
open Go
/-- spec.l10DrawId -/
def r235 : RF :=
 ⟨1, [.tmp 2],
 .seq (.reg [⟨none, .mov 2 (.k (.int .u64 0))⟩])
 (.seq (.reg [⟨none, .lit 3 13 8 [.int .u64 0] [(0, (.k (.int .u64 0))), (1, (.k (.int .u64 1))), (2, (.k (.int .u64 2))), (3, (.k (.int .u64 5))), (4, (.k (.int .u64 9))), (5, (.k (.int .u64 100))), (6, (.k (.int .u64 9223372036854775808))), (7, (.k (.int .u64 18446744073709551615)))]⟩,
  ⟨none, .mov 4 (.t 0)⟩,
  ⟨none, .call (some 5) 236 [(.t 4), (.k (.int .i64 8))] false⟩,
  ⟨none, .idx 6 13 (.t 3) (.t 5)⟩,
  ⟨none, .load 7 6 1 false⟩,
  ⟨none, .mov 2 (.t 7)⟩])
 (.ret))⟩
/-- spec.l10DrawAmount -/
def r237 : RF :=
 ⟨1, [.tmp 2],
 .seq (.reg [⟨none, .mov 2 (.k (.int .u64 0))⟩])
 (.seq (.seq (.reg [⟨none, .mov 3 (.t 0)⟩,
   ⟨none, .call (some 4) 240 [(.t 3), (.k (.int .i64 5))] false⟩])
  (.cond (.t 4)
  (.seq (.reg [⟨none, .mov 5 (.t 0)⟩,
    ⟨none, .call (some 6) 264 [(.t 5)] false⟩,
    ⟨none, .mov 2 (.t 6)⟩])
   (.ret))
  (.skip)))
 (.seq (.reg [⟨none, .mov 7 (.t 0)⟩,
  ⟨none, .call (some 8) 236 [(.t 7), (.k (.int .i64 60))] false⟩,
  ⟨none, .conv 9 .u64 (.t 8)⟩,
  ⟨none, .mov 2 (.t 9)⟩])
 (.ret)))⟩
/-- A loop of spec.BookOk. -/
def r241L0 : RC :=
 .seq (.seq (.reg [⟨none, .mov 9 (.t 3)⟩,
      ⟨none, .fad 10 1 0⟩,
      ⟨none, .load 11 10 1 false⟩,
      ⟨none, .len 12 (.t 11)⟩,
      ⟨none, .bin 13 .lss (.t 9) (.t 12)⟩])
     (.cond (.t 13)
     (.skip)
     (.exit 0)))
    (.seq (.block 1 (.seq (.reg [⟨none, .fad 16 1 0⟩,
       ⟨none, .load 17 16 1 false⟩,
       ⟨none, .mov 18 (.t 3)⟩,
       ⟨none, .idx 19 11 (.t 17) (.t 18)⟩,
       ⟨none, .load 20 19 5 true⟩,
       ⟨none, .loc 4 [.int .u64 0, .int .u64 0, .int .u64 0, .int .u64 0, .int .i64 0]⟩,
       ⟨none, .store 4 5 (.t 20)⟩])
      (.seq (.seq (.reg [⟨none, .chk []⟩,
        ⟨none, .mov 21 (.t 3)⟩,
        ⟨none, .bin 22 .gtr (.t 21) (.k (.int .i64 0))⟩,
        ⟨none, .mov 23 (.t 22)⟩,
        ⟨some (23, true), .mov 26 (.t 3)⟩,
        ⟨some (23, true), .bin 27 .sub (.t 26) (.k (.int .i64 1))⟩,
        ⟨some (23, true), .fad 24 1 0⟩,
        ⟨some (23, true), .load 25 24 1 false⟩,
        ⟨some (23, true), .idx 28 11 (.t 25) (.t 27)⟩,
        ⟨some (23, true), .fad 29 28 0⟩,
        ⟨some (23, true), .load 30 29 1 false⟩,
        ⟨some (23, true), .fad 31 4 0⟩,
        ⟨some (23, true), .load 32 31 1 false⟩,
        ⟨some (23, true), .bin 33 .geq (.t 30) (.t 32)⟩,
        ⟨none, .pick 34 (.t 23) (.t 33) (.k (.bool false))⟩,
        ⟨none, .mov 35 (.t 34)⟩,
        ⟨some (35, false), .fad 36 4 4⟩,
        ⟨some (35, false), .load 37 36 1 false⟩,
        ⟨some (35, false), .bin 38 .lss (.t 37) (.k (.int .i64 0))⟩,
        ⟨none, .pick 39 (.t 35) (.k (.bool true)) (.t 38)⟩,
        ⟨none, .mov 40 (.t 39)⟩,
        ⟨some (40, false), .fad 41 4 4⟩,
        ⟨some (40, false), .load 42 41 1 false⟩,
        ⟨some (40, false), .bin 43 .eql (.t 42) (.k (.int .i64 0))⟩,
        ⟨some (40, false), .mov 44 (.t 43)⟩,
        ⟨some (44, true), .fad 45 4 2⟩,
        ⟨some (44, true), .load 46 45 1 false⟩,
        ⟨some (44, true), .bin 47 .neq (.t 46) (.k (.int .u64 0))⟩,
        ⟨some (44, true), .mov 48 (.t 47)⟩,
        ⟨some (48, false), .fad 49 4 3⟩,
        ⟨some (48, false), .load 50 49 1 false⟩,
        ⟨some (48, false), .bin 51 .neq (.t 50) (.k (.int .u64 0))⟩,
        ⟨some (44, true), .pick 52 (.t 48) (.k (.bool true)) (.t 51)⟩,
        ⟨some (40, false), .pick 53 (.t 44) (.t 52) (.k (.bool false))⟩,
        ⟨none, .pick 54 (.t 40) (.k (.bool true)) (.t 53)⟩])
       (.cond (.t 54)
       (.seq (.reg [⟨none, .mov 2 (.k (.bool false))⟩])
        (.ret))
       (.skip)))
      (.seq (.reg [⟨none, .fad 55 4 2⟩,
       ⟨none, .load 56 55 1 false⟩,
       ⟨none, .fad 57 4 1⟩,
       ⟨none, .load 58 57 1 false⟩,
       ⟨none, .bin 59 .sub (.k (.int .u64 18446744073709551615)) (.t 58)⟩,
       ⟨none, .bin 60 .gtr (.t 56) (.t 59)⟩,
       ⟨none, .mov 61 (.t 60)⟩,
       ⟨some (61, false), .fad 62 4 3⟩,
       ⟨some (61, false), .load 63 62 1 false⟩,
       ⟨some (61, false), .fad 64 4 1⟩,
       ⟨some (61, false), .load 65 64 1 false⟩,
       ⟨some (61, false), .bin 66 .sub (.k (.int .u64 18446744073709551615)) (.t 65)⟩,
       ⟨some (61, false), .fad 67 4 2⟩,
       ⟨some (61, false), .load 68 67 1 false⟩,
       ⟨some (61, false), .bin 69 .sub (.t 66) (.t 68)⟩,
       ⟨some (61, false), .bin 70 .gtr (.t 63) (.t 69)⟩,
       ⟨none, .pick 71 (.t 61) (.k (.bool true)) (.t 70)⟩])
      (.cond (.t 71)
      (.seq (.reg [⟨none, .mov 2 (.k (.bool false))⟩])
       (.ret))
      (.skip))))))
    (.reg [⟨none, .mov 14 (.t 3)⟩,
    ⟨none, .bin 15 .add (.t 14) (.k (.int .i64 1))⟩,
    ⟨none, .mov 3 (.t 15)⟩]))
/-- spec.BookOk -/
def r241 : RF :=
 ⟨1, [.tmp 2],
 .seq (.reg [⟨none, .locb 1 (.t 0)⟩,
  ⟨none, .mov 2 (.k (.bool false))⟩])
 (.seq (.seq (.reg [⟨none, .fad 5 1 0⟩,
   ⟨none, .load 6 5 1 false⟩,
   ⟨none, .len 7 (.t 6)⟩,
   ⟨none, .bin 8 .gtr (.t 7) (.k (.int .i64 40))⟩])
  (.cond (.t 8)
  (.seq (.reg [⟨none, .mov 2 (.k (.bool false))⟩])
   (.ret))
  (.skip)))
 (.seq (.seq (.reg [⟨none, .mov 3 (.k (.int .i64 0))⟩])
  (.block 0 (.loop [1, 3]
   r241L0)))
 (.seq (.reg [⟨none, .mov 2 (.k (.bool true))⟩])
 (.ret))))⟩
/-- A loop of spec.TotalOf. -/
def r245L0 : RC :=
 .seq (.seq (.reg [⟨none, .mov 11 (.t 6)⟩,
      ⟨none, .fad 12 1 0⟩,
      ⟨none, .load 13 12 1 false⟩,
      ⟨none, .len 14 (.t 13)⟩,
      ⟨none, .bin 15 .lss (.t 11) (.t 14)⟩])
     (.cond (.t 15)
     (.skip)
     (.exit 0)))
    (.seq (.block 1 (.seq (.reg [⟨none, .chk []⟩,
       ⟨none, .mov 20 (.t 6)⟩,
       ⟨none, .mov 26 (.t 6)⟩,
       ⟨none, .fad 18 1 0⟩,
       ⟨none, .load 19 18 1 false⟩,
       ⟨none, .idx 21 11 (.t 19) (.t 20)⟩,
       ⟨none, .fad 22 21 1⟩,
       ⟨none, .load 23 22 1 false⟩,
       ⟨none, .fad 24 1 0⟩,
       ⟨none, .load 25 24 1 false⟩,
       ⟨none, .idx 27 11 (.t 25) (.t 26)⟩,
       ⟨none, .fad 28 27 2⟩,
       ⟨none, .load 29 28 1 false⟩,
       ⟨none, .bin 30 .add (.t 23) (.t 29)⟩,
       ⟨none, .mov 7 (.t 30)⟩])
      (.seq (.seq (.reg [⟨none, .mov 31 (.t 7)⟩,
        ⟨none, .mov 32 (.t 5)⟩,
        ⟨none, .bin 33 .sub (.k (.int .u64 18446744073709551615)) (.t 32)⟩,
        ⟨none, .bin 34 .gtr (.t 31) (.t 33)⟩])
       (.cond (.t 34)
       (.reg [⟨none, .mov 35 (.t 4)⟩,
        ⟨none, .bin 36 .add (.t 35) (.k (.int .u64 1))⟩,
        ⟨none, .mov 4 (.t 36)⟩])
       (.skip)))
      (.reg [⟨none, .mov 37 (.t 5)⟩,
      ⟨none, .mov 38 (.t 7)⟩,
      ⟨none, .bin 39 .add (.t 37) (.t 38)⟩,
      ⟨none, .mov 5 (.t 39)⟩]))))
    (.reg [⟨none, .mov 16 (.t 6)⟩,
    ⟨none, .bin 17 .add (.t 16) (.k (.int .i64 1))⟩,
    ⟨none, .mov 6 (.t 17)⟩]))
/-- spec.TotalOf -/
def r245 : RF :=
 ⟨1, [.tmp 2, .tmp 3],
 .seq (.reg [⟨none, .locb 1 (.t 0)⟩,
  ⟨none, .mov 2 (.k (.int .u64 0))⟩,
  ⟨none, .mov 3 (.k (.int .u64 0))⟩])
 (.seq (.reg [⟨none, .mov 4 (.k (.int .u64 0))⟩,
  ⟨none, .mov 5 (.k (.int .u64 0))⟩])
 (.seq (.seq (.reg [⟨none, .load 8 1 1 true⟩,
   ⟨none, .call (some 9) 241 [(.t 8)] false⟩,
   ⟨none, .not 10 (.t 9)⟩])
  (.cond (.t 10)
  (.seq (.reg [⟨none, .mov 2 (.k (.int .u64 0))⟩,
    ⟨none, .mov 3 (.k (.int .u64 0))⟩])
   (.ret))
  (.skip)))
 (.seq (.seq (.reg [⟨none, .mov 6 (.k (.int .i64 0))⟩])
  (.block 0 (.loop [1, 4, 5, 6]
   r245L0)))
 (.seq (.reg [⟨none, .mov 40 (.t 4)⟩,
  ⟨none, .mov 41 (.t 5)⟩,
  ⟨none, .mov 2 (.t 40)⟩,
  ⟨none, .mov 3 (.t 41)⟩])
 (.ret)))))⟩
/-- A loop of spec.l10Copy. -/
def r259L0 : RC :=
 .seq (.seq (.reg [⟨none, .mov 6 (.t 4)⟩,
      ⟨none, .fad 7 1 0⟩,
      ⟨none, .load 8 7 1 false⟩,
      ⟨none, .len 9 (.t 8)⟩,
      ⟨none, .bin 10 .lss (.t 6) (.t 9)⟩])
     (.cond (.t 10)
     (.skip)
     (.exit 0)))
    (.seq (.block 1 (.reg [⟨none, .chk []⟩,
      ⟨none, .mov 17 (.t 4)⟩,
      ⟨none, .fad 13 3 0⟩,
      ⟨none, .load 14 13 1 false⟩,
      ⟨none, .fad 15 1 0⟩,
      ⟨none, .load 16 15 1 false⟩,
      ⟨none, .idx 18 11 (.t 16) (.t 17)⟩,
      ⟨none, .load 19 18 5 true⟩,
      ⟨none, .lit 20 11 1 [.int .u64 0, .int .u64 0, .int .u64 0, .int .u64 0, .int .i64 0] [(0, (.t 19))]⟩,
      ⟨none, .app 21 11 40 (.t 14) (.t 20)⟩,
      ⟨none, .fad 22 3 0⟩,
      ⟨none, .store 22 1 (.t 21)⟩]))
    (.reg [⟨none, .mov 11 (.t 4)⟩,
    ⟨none, .bin 12 .add (.t 11) (.k (.int .i64 1))⟩,
    ⟨none, .mov 4 (.t 12)⟩]))
/-- spec.l10Copy -/
def r259 : RF :=
 ⟨1, [.cell 2 1 true],
 .seq (.reg [⟨none, .locb 1 (.t 0)⟩,
  ⟨none, .loc 2 [.nil]⟩])
 (.seq (.reg [⟨none, .build 5 [.nil] []⟩,
  ⟨none, .loc 3 [.nil]⟩,
  ⟨none, .store 3 1 (.t 5)⟩])
 (.seq (.seq (.reg [⟨none, .mov 4 (.k (.int .i64 0))⟩])
  (.block 0 (.loop [1, 2, 3, 4]
   r259L0)))
 (.seq (.reg [⟨none, .load 23 3 1 true⟩,
  ⟨none, .store 2 1 (.t 23)⟩])
 (.ret))))⟩
/-- The functions of this text, with their numbers. -/
def tS10 : List (Nat × RF) := [(235, r235), (237, r237), (241, r241), (245, r245), (259, r259)]
end Go.Proofs.Ytlbagejkjkfkjaa.A
/- The compact code of some functions: spec.StoreOk, spec.StoreTotal, spec.ExportShard, spec.l13Shard, spec.l13Add, spec.l13At, spec.l13Find, spec.l13CopyShard, spec.l13Before, spec.l13Has. -/
namespace Go.Proofs.Ytlbagejkjkfkjaa.A
open Go
/-- A loop of spec.StoreOk. -/
def r156L0 : RC :=
 .seq (.seq (.reg [⟨none, .mov 21 (.t 3)⟩,
      ⟨none, .fad 22 1 2⟩,
      ⟨none, .load 23 22 1 false⟩,
      ⟨none, .len 24 (.t 23)⟩,
      ⟨none, .bin 25 .lss (.t 21) (.t 24)⟩])
     (.cond (.t 25)
     (.skip)
     (.exit 0)))
    (.seq (.block 1 (.seq (.reg [⟨none, .fad 28 1 2⟩,
       ⟨none, .load 29 28 1 false⟩,
       ⟨none, .mov 30 (.t 3)⟩,
       ⟨none, .idx 31 16 (.t 29) (.t 30)⟩,
       ⟨none, .load 32 31 6 true⟩,
       ⟨none, .loc 4 [.int .u64 0, .int .u64 0, .int .i64 0, .int .i64 0, .nil, .nil]⟩,
       ⟨none, .store 4 6 (.t 32)⟩])
      (.seq (.reg [⟨none, .chk []⟩,
       ⟨none, .load 33 4 6 true⟩,
       ⟨none, .call (some 34) 204 [(.t 33)] true⟩,
       ⟨none, .not 35 (.t 34)⟩,
       ⟨none, .mov 36 (.t 35)⟩,
       ⟨some (36, false), .fad 37 4 3⟩,
       ⟨some (36, false), .load 38 37 1 false⟩,
       ⟨some (36, false), .fad 39 1 1⟩,
       ⟨some (36, false), .load 40 39 1 false⟩,
       ⟨some (36, false), .bin 41 .gtr (.t 38) (.t 40)⟩,
       ⟨none, .pick 42 (.t 36) (.k (.bool true)) (.t 41)⟩,
       ⟨none, .mov 43 (.t 42)⟩,
       ⟨some (43, false), .mov 44 (.t 3)⟩,
       ⟨some (43, false), .bin 45 .gtr (.t 44) (.k (.int .i64 0))⟩,
       ⟨some (43, false), .mov 46 (.t 45)⟩,
       ⟨some (46, true), .mov 49 (.t 3)⟩,
       ⟨some (46, true), .bin 50 .sub (.t 49) (.k (.int .i64 1))⟩,
       ⟨some (46, true), .fad 47 1 2⟩,
       ⟨some (46, true), .load 48 47 1 false⟩,
       ⟨some (46, true), .idx 51 16 (.t 48) (.t 50)⟩,
       ⟨some (46, true), .fad 52 51 1⟩,
       ⟨some (46, true), .load 53 52 1 false⟩,
       ⟨some (46, true), .fad 54 4 0⟩,
       ⟨some (46, true), .load 55 54 1 false⟩,
       ⟨some (46, true), .bin 56 .geq (.t 53) (.t 55)⟩,
       ⟨some (43, false), .pick 57 (.t 46) (.t 56) (.k (.bool false))⟩,
       ⟨none, .pick 58 (.t 43) (.k (.bool true)) (.t 57)⟩])
      (.cond (.t 58)
      (.seq (.reg [⟨none, .mov 2 (.k (.bool false))⟩])
       (.ret))
      (.skip)))))
    (.reg [⟨none, .mov 26 (.t 3)⟩,
    ⟨none, .bin 27 .add (.t 26) (.k (.int .i64 1))⟩,
    ⟨none, .mov 3 (.t 27)⟩]))
/-- spec.StoreOk -/
def r156 : RF :=
 ⟨1, [.tmp 2],
 .seq (.reg [⟨none, .locb 1 (.t 0)⟩,
  ⟨none, .mov 2 (.k (.bool false))⟩])
 (.seq (.seq (.reg [⟨none, .fad 5 1 0⟩,
   ⟨none, .load 6 5 1 false⟩,
   ⟨none, .call (some 7) 5 [(.t 6), (.k (.int .i64 0)), (.k (.int .i64 99))] false⟩,
   ⟨none, .not 8 (.t 7)⟩,
   ⟨none, .mov 9 (.t 8)⟩,
   ⟨some (9, false), .fad 10 1 1⟩,
   ⟨some (9, false), .load 11 10 1 false⟩,
   ⟨some (9, false), .call (some 12) 5 [(.t 11), (.k (.int .i64 0)), (.k (.int .i64 1000000))] false⟩,
   ⟨some (9, false), .not 13 (.t 12)⟩,
   ⟨none, .pick 14 (.t 9) (.k (.bool true)) (.t 13)⟩,
   ⟨none, .mov 15 (.t 14)⟩,
   ⟨some (15, false), .fad 16 1 2⟩,
   ⟨some (15, false), .load 17 16 1 false⟩,
   ⟨some (15, false), .len 18 (.t 17)⟩,
   ⟨some (15, false), .bin 19 .gtr (.t 18) (.k (.int .i64 8))⟩,
   ⟨none, .pick 20 (.t 15) (.k (.bool true)) (.t 19)⟩])
  (.cond (.t 20)
  (.seq (.reg [⟨none, .mov 2 (.k (.bool false))⟩])
   (.ret))
  (.skip)))
 (.seq (.seq (.reg [⟨none, .mov 3 (.k (.int .i64 0))⟩])
  (.block 0 (.loop [1, 3]
   r156L0)))
 (.seq (.reg [⟨none, .mov 2 (.k (.bool true))⟩])
 (.ret))))⟩
/-- A loop of spec.StoreTotal. -/
def r163L0 : RC :=
 .seq (.seq (.reg [⟨none, .mov 10 (.t 6)⟩,
      ⟨none, .fad 11 1 2⟩,
      ⟨none, .load 12 11 1 false⟩,
      ⟨none, .len 13 (.t 12)⟩,
      ⟨none, .bin 14 .lss (.t 10) (.t 13)⟩])
     (.cond (.t 14)
     (.skip)
     (.exit 0)))
    (.seq (.block 1 (.reg [⟨none, .mov 18 (.t 4)⟩,
      ⟨none, .mov 19 (.t 5)⟩,
      ⟨none, .fad 20 1 2⟩,
      ⟨none, .load 21 20 1 false⟩,
      ⟨none, .mov 22 (.t 6)⟩,
      ⟨none, .idx 23 16 (.t 21) (.t 22)⟩,
      ⟨none, .fad 24 23 4⟩,
      ⟨none, .load 25 24 1 true⟩,
      ⟨none, .call (some 26) 208 [(.t 18), (.t 19), (.t 25)] false⟩,
      ⟨none, .mov 17 (.t 26)⟩,
      ⟨none, .ext 27 (.t 17) 0⟩,
      ⟨none, .ext 28 (.t 17) 1⟩,
      ⟨none, .mov 4 (.t 27)⟩,
      ⟨none, .mov 5 (.t 28)⟩]))
    (.reg [⟨none, .mov 15 (.t 6)⟩,
    ⟨none, .bin 16 .add (.t 15) (.k (.int .i64 1))⟩,
    ⟨none, .mov 6 (.t 16)⟩]))
/-- spec.StoreTotal -/
def r163 : RF :=
 ⟨1, [.tmp 2, .tmp 3],
 .seq (.reg [⟨none, .locb 1 (.t 0)⟩,
  ⟨none, .mov 2 (.k (.int .u64 0))⟩,
  ⟨none, .mov 3 (.k (.int .u64 0))⟩])
 (.seq (.reg [⟨none, .mov 4 (.k (.int .u64 0))⟩,
  ⟨none, .mov 5 (.k (.int .u64 0))⟩])
 (.seq (.seq (.reg [⟨none, .load 7 1 3 true⟩,
   ⟨none, .call (some 8) 156 [(.t 7)] false⟩,
   ⟨none, .not 9 (.t 8)⟩])
  (.cond (.t 9)
  (.seq (.reg [⟨none, .mov 2 (.k (.int .u64 0))⟩,
    ⟨none, .mov 3 (.k (.int .u64 0))⟩])
   (.ret))
  (.skip)))
 (.seq (.seq (.reg [⟨none, .mov 6 (.k (.int .i64 0))⟩])
  (.block 0 (.loop [1, 4, 5, 6]
   r163L0)))
 (.seq (.reg [⟨none, .mov 29 (.t 4)⟩,
  ⟨none, .mov 30 (.t 5)⟩,
  ⟨none, .mov 2 (.t 29)⟩,
  ⟨none, .mov 3 (.t 30)⟩])
 (.ret)))))⟩
/-- spec.ExportShard -/
def r189 : RF :=
 ⟨2, [.cell 4 6 true, .tmp 5],
 .seq (.reg [⟨none, .locb 2 (.t 0)⟩,
  ⟨none, .loc 4 [.int .u64 0, .int .u64 0, .int .i64 0, .int .i64 0, .nil, .nil]⟩,
  ⟨none, .mov 5 (.k (.bool false))⟩])
 (.seq (.reg [⟨none, .load 7 2 3 true⟩,
  ⟨none, .mov 8 (.t 1)⟩,
  ⟨none, .call (some 9) 210 [(.t 7), (.t 8), (.k (.int .i64 1))] false⟩,
  ⟨none, .mov 6 (.t 9)⟩])
 (.seq (.seq (.reg [⟨none, .load 10 2 3 true⟩,
   ⟨none, .call (some 11) 156 [(.t 10)] false⟩,
   ⟨none, .not 12 (.t 11)⟩,
   ⟨none, .mov 13 (.t 12)⟩,
   ⟨some (13, false), .mov 14 (.t 6)⟩,
   ⟨some (13, false), .bin 15 .lss (.t 14) (.k (.int .i64 0))⟩,
   ⟨none, .pick 16 (.t 13) (.k (.bool true)) (.t 15)⟩])
  (.cond (.t 16)
  (.seq (.reg [⟨none, .build 17 [.int .u64 0, .int .u64 0, .int .i64 0, .int .i64 0, .nil, .nil] []⟩,
    ⟨none, .store 4 6 (.t 17)⟩,
    ⟨none, .mov 5 (.k (.bool false))⟩])
   (.ret))
  (.skip)))
 (.seq (.reg [⟨none, .fad 18 2 2⟩,
  ⟨none, .load 19 18 1 false⟩,
  ⟨none, .mov 20 (.t 6)⟩,
  ⟨none, .idx 21 16 (.t 19) (.t 20)⟩,
  ⟨none, .load 22 21 6 true⟩,
  ⟨none, .call (some 23) 228 [(.t 22)] false⟩,
  ⟨none, .store 4 6 (.t 23)⟩,
  ⟨none, .mov 5 (.k (.bool true))⟩])
 (.ret))))⟩
/-- A loop of spec.l13Shard. -/
def r204L0 : RC :=
 .seq (.seq (.reg [⟨none, .mov 80 (.t 5)⟩,
      ⟨none, .fad 81 1 4⟩,
      ⟨none, .fad 82 81 0⟩,
      ⟨none, .load 83 82 1 false⟩,
      ⟨none, .len 84 (.t 83)⟩,
      ⟨none, .bin 85 .lss (.t 80) (.t 84)⟩])
     (.cond (.t 85)
     (.skip)
     (.exit 2)))
    (.seq (.block 3 (.seq (.reg [⟨none, .fad 88 1 4⟩,
       ⟨none, .fad 89 88 0⟩,
       ⟨none, .load 90 89 1 false⟩,
       ⟨none, .mov 91 (.t 5)⟩,
       ⟨none, .idx 92 11 (.t 90) (.t 91)⟩,
       ⟨none, .load 93 92 5 true⟩,
       ⟨none, .loc 6 [.int .u64 0, .int .u64 0, .int .u64 0, .int .u64 0, .int .i64 0]⟩,
       ⟨none, .store 6 5 (.t 93)⟩])
      (.seq (.reg [⟨none, .fad 94 6 0⟩,
       ⟨none, .load 95 94 1 false⟩,
       ⟨none, .fad 96 1 0⟩,
       ⟨none, .load 97 96 1 false⟩,
       ⟨none, .bin 98 .lss (.t 95) (.t 97)⟩,
       ⟨none, .mov 99 (.t 98)⟩,
       ⟨some (99, false), .fad 100 6 0⟩,
       ⟨some (99, false), .load 101 100 1 false⟩,
       ⟨some (99, false), .fad 102 1 1⟩,
       ⟨some (99, false), .load 103 102 1 false⟩,
       ⟨some (99, false), .bin 104 .gtr (.t 101) (.t 103)⟩,
       ⟨none, .pick 105 (.t 99) (.k (.bool true)) (.t 104)⟩,
       ⟨none, .mov 106 (.t 105)⟩,
       ⟨some (106, false), .fad 107 1 5⟩,
       ⟨some (106, false), .load 108 107 1 false⟩,
       ⟨some (106, false), .fad 109 6 4⟩,
       ⟨some (106, false), .load 110 109 1 false⟩,
       ⟨some (106, false), .fad 111 6 0⟩,
       ⟨some (106, false), .load 112 111 1 false⟩,
       ⟨some (106, false), .build 113 [.int .i64 0, .int .u64 0] [(0, 1, (.t 110)), (1, 1, (.t 112))]⟩,
       ⟨some (106, false), .call (some 114) 243 [(.t 108), (.t 113)] false⟩,
       ⟨none, .pick 115 (.t 106) (.k (.bool true)) (.t 114)⟩])
      (.cond (.t 115)
      (.seq (.reg [⟨none, .mov 2 (.k (.bool false))⟩])
       (.ret))
      (.skip)))))
    (.reg [⟨none, .mov 86 (.t 5)⟩,
    ⟨none, .bin 87 .add (.t 86) (.k (.int .i64 1))⟩,
    ⟨none, .mov 5 (.t 87)⟩]))
/-- A loop of spec.l13Shard. -/
def r204L1 : RC :=
 .seq (.seq (.reg [⟨none, .mov 36 (.t 3)⟩,
      ⟨none, .fad 37 1 5⟩,
      ⟨none, .load 38 37 1 false⟩,
      ⟨none, .len 39 (.t 38)⟩,
      ⟨none, .bin 40 .lss (.t 36) (.t 39)⟩])
     (.cond (.t 40)
     (.skip)
     (.exit 0)))
    (.seq (.block 1 (.seq (.reg [⟨none, .fad 43 1 5⟩,
       ⟨none, .load 44 43 1 false⟩,
       ⟨none, .mov 45 (.t 3)⟩,
       ⟨none, .idx 46 9 (.t 44) (.t 45)⟩,
       ⟨none, .load 47 46 2 true⟩,
       ⟨none, .loc 4 [.int .i64 0, .int .u64 0]⟩,
       ⟨none, .store 4 2 (.t 47)⟩])
      (.seq (.reg [⟨none, .chk []⟩,
       ⟨none, .fad 48 4 0⟩,
       ⟨none, .load 49 48 1 false⟩,
       ⟨none, .bin 50 .lss (.t 49) (.k (.int .i64 1))⟩,
       ⟨none, .mov 51 (.t 50)⟩,
       ⟨some (51, false), .fad 52 4 1⟩,
       ⟨some (51, false), .load 53 52 1 false⟩,
       ⟨some (51, false), .fad 54 1 0⟩,
       ⟨some (51, false), .load 55 54 1 false⟩,
       ⟨some (51, false), .bin 56 .lss (.t 53) (.t 55)⟩,
       ⟨none, .pick 57 (.t 51) (.k (.bool true)) (.t 56)⟩,
       ⟨none, .mov 58 (.t 57)⟩,
       ⟨some (58, false), .fad 59 4 1⟩,
       ⟨some (58, false), .load 60 59 1 false⟩,
       ⟨some (58, false), .fad 61 1 1⟩,
       ⟨some (58, false), .load 62 61 1 false⟩,
       ⟨some (58, false), .bin 63 .gtr (.t 60) (.t 62)⟩,
       ⟨none, .pick 64 (.t 58) (.k (.bool true)) (.t 63)⟩,
       ⟨none, .mov 65 (.t 64)⟩,
       ⟨some (65, false), .mov 66 (.t 3)⟩,
       ⟨some (65, false), .bin 67 .gtr (.t 66) (.k (.int .i64 0))⟩,
       ⟨some (65, false), .mov 68 (.t 67)⟩,
       ⟨some (68, true), .mov 71 (.t 3)⟩,
       ⟨some (68, true), .bin 72 .sub (.t 71) (.k (.int .i64 1))⟩,
       ⟨some (68, true), .fad 69 1 5⟩,
       ⟨some (68, true), .load 70 69 1 false⟩,
       ⟨some (68, true), .idx 73 9 (.t 70) (.t 72)⟩,
       ⟨some (68, true), .load 74 73 2 true⟩,
       ⟨some (68, true), .load 75 4 2 true⟩,
       ⟨some (68, true), .call (some 76) 242 [(.t 74), (.t 75)] true⟩,
       ⟨some (68, true), .not 77 (.t 76)⟩,
       ⟨some (65, false), .pick 78 (.t 68) (.t 77) (.k (.bool false))⟩,
       ⟨none, .pick 79 (.t 65) (.k (.bool true)) (.t 78)⟩])
      (.cond (.t 79)
      (.seq (.reg [⟨none, .mov 2 (.k (.bool false))⟩])
       (.ret))
      (.skip)))))
    (.reg [⟨none, .mov 41 (.t 3)⟩,
    ⟨none, .bin 42 .add (.t 41) (.k (.int .i64 1))⟩,
    ⟨none, .mov 3 (.t 42)⟩]))
/-- spec.l13Shard -/
def r204 : RF :=
 ⟨1, [.tmp 2],
 .seq (.reg [⟨none, .locb 1 (.t 0)⟩,
  ⟨none, .mov 2 (.k (.bool false))⟩])
 (.seq (.seq (.reg [⟨none, .fad 7 1 0⟩,
   ⟨none, .load 8 7 1 false⟩,
   ⟨none, .fad 9 1 1⟩,
   ⟨none, .load 10 9 1 false⟩,
   ⟨none, .bin 11 .gtr (.t 8) (.t 10)⟩,
   ⟨none, .mov 12 (.t 11)⟩,
   ⟨some (12, false), .fad 13 1 2⟩,
   ⟨some (12, false), .load 14 13 1 false⟩,
   ⟨some (12, false), .call (some 15) 5 [(.t 14), (.k (.int .i64 0)), (.k (.int .i64 1))] false⟩,
   ⟨some (12, false), .not 16 (.t 15)⟩,
   ⟨none, .pick 17 (.t 12) (.k (.bool true)) (.t 16)⟩,
   ⟨none, .mov 18 (.t 17)⟩,
   ⟨some (18, false), .fad 19 1 3⟩,
   ⟨some (18, false), .load 20 19 1 false⟩,
   ⟨some (18, false), .call (some 21) 5 [(.t 20), (.k (.int .i64 1)), (.k (.int .i64 1000000))] false⟩,
   ⟨some (18, false), .not 22 (.t 21)⟩,
   ⟨none, .pick 23 (.t 18) (.k (.bool true)) (.t 22)⟩,
   ⟨none, .mov 24 (.t 23)⟩,
   ⟨some (24, false), .fad 25 1 4⟩,
   ⟨some (24, false), .load 26 25 1 true⟩,
   ⟨some (24, false), .call (some 27) 241 [(.t 26)] false⟩,
   ⟨some (24, false), .not 28 (.t 27)⟩,
   ⟨none, .pick 29 (.t 24) (.k (.bool true)) (.t 28)⟩,
   ⟨none, .mov 30 (.t 29)⟩,
   ⟨some (30, false), .fad 31 1 5⟩,
   ⟨some (30, false), .load 32 31 1 false⟩,
   ⟨some (30, false), .len 33 (.t 32)⟩,
   ⟨some (30, false), .bin 34 .gtr (.t 33) (.k (.int .i64 60))⟩,
   ⟨none, .pick 35 (.t 30) (.k (.bool true)) (.t 34)⟩])
  (.cond (.t 35)
  (.seq (.reg [⟨none, .mov 2 (.k (.bool false))⟩])
   (.ret))
  (.skip)))
 (.seq (.seq (.reg [⟨none, .mov 3 (.k (.int .i64 0))⟩])
  (.block 0 (.loop [1, 3]
   r204L1)))
 (.seq (.seq (.reg [⟨none, .mov 5 (.k (.int .i64 0))⟩])
  (.block 2 (.loop [1, 5]
   r204L0)))
 (.seq (.reg [⟨none, .mov 2 (.k (.bool true))⟩])
 (.ret)))))⟩
/-- spec.l13Add -/
def r208 : RF :=
 ⟨3, [.tmp 6, .tmp 7],
 .seq (.reg [⟨none, .locb 5 (.t 2)⟩,
  ⟨none, .mov 6 (.k (.int .u64 0))⟩,
  ⟨none, .mov 7 (.k (.int .u64 0))⟩])
 (.seq (.reg [⟨none, .load 11 5 1 true⟩,
  ⟨none, .call (some 12) 245 [(.t 11)] false⟩,
  ⟨none, .mov 10 (.t 12)⟩,
  ⟨none, .ext 13 (.t 10) 0⟩,
  ⟨none, .ext 14 (.t 10) 1⟩,
  ⟨none, .mov 8 (.t 13)⟩,
  ⟨none, .mov 9 (.t 14)⟩])
 (.seq (.seq (.reg [⟨none, .mov 15 (.t 9)⟩,
   ⟨none, .mov 16 (.t 1)⟩,
   ⟨none, .bin 17 .sub (.k (.int .u64 18446744073709551615)) (.t 16)⟩,
   ⟨none, .bin 18 .gtr (.t 15) (.t 17)⟩])
  (.cond (.t 18)
  (.reg [⟨none, .mov 19 (.t 0)⟩,
   ⟨none, .bin 20 .add (.t 19) (.k (.int .u64 1))⟩,
   ⟨none, .mov 0 (.t 20)⟩])
  (.skip)))
 (.seq (.reg [⟨none, .mov 21 (.t 0)⟩,
  ⟨none, .mov 22 (.t 8)⟩,
  ⟨none, .bin 23 .add (.t 21) (.t 22)⟩,
  ⟨none, .mov 24 (.t 1)⟩,
  ⟨none, .mov 25 (.t 9)⟩,
  ⟨none, .bin 26 .add (.t 24) (.t 25)⟩,
  ⟨none, .mov 6 (.t 23)⟩,
  ⟨none, .mov 7 (.t 26)⟩])
 (.ret))))⟩
/-- A loop of spec.l13At. -/
def r210L0 : RC :=
 .seq (.seq (.reg [⟨none, .mov 8 (.t 7)⟩,
      ⟨none, .fad 9 3 2⟩,
      ⟨none, .load 10 9 1 false⟩,
      ⟨none, .len 11 (.t 10)⟩,
      ⟨none, .bin 12 .lss (.t 8) (.t 11)⟩])
     (.cond (.t 12)
     (.skip)
     (.exit 0)))
    (.seq (.block 1 (.seq (.reg [⟨none, .fad 15 3 2⟩,
       ⟨none, .load 16 15 1 false⟩,
       ⟨none, .mov 17 (.t 7)⟩,
       ⟨none, .idx 18 16 (.t 16) (.t 17)⟩,
       ⟨none, .fad 19 18 0⟩,
       ⟨none, .load 20 19 1 false⟩,
       ⟨none, .mov 21 (.t 1)⟩,
       ⟨none, .bin 22 .eql (.t 20) (.t 21)⟩,
       ⟨none, .mov 23 (.t 22)⟩,
       ⟨some (23, true), .fad 24 3 2⟩,
       ⟨some (23, true), .load 25 24 1 false⟩,
       ⟨some (23, true), .mov 26 (.t 7)⟩,
       ⟨some (23, true), .idx 27 16 (.t 25) (.t 26)⟩,
       ⟨some (23, true), .fad 28 27 2⟩,
       ⟨some (23, true), .load 29 28 1 false⟩,
       ⟨some (23, true), .mov 30 (.t 2)⟩,
       ⟨some (23, true), .bin 31 .eql (.t 29) (.t 30)⟩,
       ⟨none, .pick 32 (.t 23) (.t 31) (.k (.bool false))⟩])
      (.cond (.t 32)
      (.seq (.reg [⟨none, .mov 33 (.t 7)⟩,
        ⟨none, .mov 6 (.t 33)⟩])
       (.ret))
      (.skip))))
    (.reg [⟨none, .mov 13 (.t 7)⟩,
    ⟨none, .bin 14 .add (.t 13) (.k (.int .i64 1))⟩,
    ⟨none, .mov 7 (.t 14)⟩]))
/-- spec.l13At -/
def r210 : RF :=
 ⟨3, [.tmp 6],
 .seq (.reg [⟨none, .locb 3 (.t 0)⟩,
  ⟨none, .mov 6 (.k (.int .i64 0))⟩])
 (.seq (.seq (.reg [⟨none, .mov 7 (.k (.int .i64 0))⟩])
  (.block 0 (.loop [1, 2, 3, 7]
   r210L0)))
 (.seq (.reg [⟨none, .mov 6 (.k (.int .i64 (-1)))⟩])
 (.ret)))⟩
/-- A loop of spec.l13Find. -/
def r211L0 : RC :=
 .seq (.seq (.reg [⟨none, .mov 6 (.t 5)⟩,
      ⟨none, .fad 7 2 2⟩,
      ⟨none, .load 8 7 1 false⟩,
      ⟨none, .len 9 (.t 8)⟩,
      ⟨none, .bin 10 .lss (.t 6) (.t 9)⟩])
     (.cond (.t 10)
     (.skip)
     (.exit 0)))
    (.seq (.block 1 (.seq (.reg [⟨none, .fad 13 2 2⟩,
       ⟨none, .load 14 13 1 false⟩,
       ⟨none, .mov 15 (.t 5)⟩,
       ⟨none, .idx 16 16 (.t 14) (.t 15)⟩,
       ⟨none, .fad 17 16 0⟩,
       ⟨none, .load 18 17 1 false⟩,
       ⟨none, .mov 19 (.t 1)⟩,
       ⟨none, .bin 20 .leq (.t 18) (.t 19)⟩,
       ⟨none, .mov 21 (.t 20)⟩,
       ⟨some (21, true), .mov 22 (.t 1)⟩,
       ⟨some (21, true), .fad 23 2 2⟩,
       ⟨some (21, true), .load 24 23 1 false⟩,
       ⟨some (21, true), .mov 25 (.t 5)⟩,
       ⟨some (21, true), .idx 26 16 (.t 24) (.t 25)⟩,
       ⟨some (21, true), .fad 27 26 1⟩,
       ⟨some (21, true), .load 28 27 1 false⟩,
       ⟨some (21, true), .bin 29 .leq (.t 22) (.t 28)⟩,
       ⟨none, .pick 30 (.t 21) (.t 29) (.k (.bool false))⟩])
      (.cond (.t 30)
      (.seq (.reg [⟨none, .mov 31 (.t 5)⟩,
        ⟨none, .mov 4 (.t 31)⟩])
       (.ret))
      (.skip))))
    (.reg [⟨none, .mov 11 (.t 5)⟩,
    ⟨none, .bin 12 .add (.t 11) (.k (.int .i64 1))⟩,
    ⟨none, .mov 5 (.t 12)⟩]))
/-- spec.l13Find -/
def r211 : RF :=
 ⟨2, [.tmp 4],
 .seq (.reg [⟨none, .locb 2 (.t 0)⟩,
  ⟨none, .mov 4 (.k (.int .i64 0))⟩])
 (.seq (.seq (.reg [⟨none, .mov 5 (.k (.int .i64 0))⟩])
  (.block 0 (.loop [1, 2, 5]
   r211L0)))
 (.seq (.reg [⟨none, .mov 4 (.k (.int .i64 (-1)))⟩])
 (.ret)))⟩
/-- A loop of spec.l13CopyShard. -/
def r228L0 : RC :=
 .seq (.seq (.reg [⟨none, .mov 10 (.t 4)⟩,
      ⟨none, .fad 11 1 5⟩,
      ⟨none, .load 12 11 1 false⟩,
      ⟨none, .len 13 (.t 12)⟩,
      ⟨none, .bin 14 .lss (.t 10) (.t 13)⟩])
     (.cond (.t 14)
     (.skip)
     (.exit 0)))
    (.seq (.block 1 (.reg [⟨none, .mov 17 (.t 3)⟩,
      ⟨none, .fad 18 1 5⟩,
      ⟨none, .load 19 18 1 false⟩,
      ⟨none, .mov 20 (.t 4)⟩,
      ⟨none, .idx 21 9 (.t 19) (.t 20)⟩,
      ⟨none, .load 22 21 2 true⟩,
      ⟨none, .lit 23 9 1 [.int .i64 0, .int .u64 0] [(0, (.t 22))]⟩,
      ⟨none, .app 24 9 16 (.t 17) (.t 23)⟩,
      ⟨none, .mov 3 (.t 24)⟩]))
    (.reg [⟨none, .mov 15 (.t 4)⟩,
    ⟨none, .bin 16 .add (.t 15) (.k (.int .i64 1))⟩,
    ⟨none, .mov 4 (.t 16)⟩]))
/-- spec.l13CopyShard -/
def r228 : RF :=
 ⟨1, [.cell 2 6 true],
 .seq (.reg [⟨none, .locb 1 (.t 0)⟩,
  ⟨none, .loc 2 [.int .u64 0, .int .u64 0, .int .i64 0, .int .i64 0, .nil, .nil]⟩])
 (.seq (.reg [⟨none, .fad 5 1 4⟩,
  ⟨none, .load 6 5 1 true⟩,
  ⟨none, .call (some 7) 259 [(.t 6)] false⟩,
  ⟨none, .fad 8 1 4⟩,
  ⟨none, .store 8 1 (.t 7)⟩])
 (.seq (.reg [⟨none, .lit 9 9 0 [.int .i64 0, .int .u64 0] []⟩,
  ⟨none, .mov 3 (.t 9)⟩])
 (.seq (.seq (.reg [⟨none, .mov 4 (.k (.int .i64 0))⟩])
  (.block 0 (.loop [1, 2, 3, 4]
   r228L0)))
 (.seq (.reg [⟨none, .mov 25 (.t 3)⟩,
  ⟨none, .fad 26 1 5⟩,
  ⟨none, .store 26 1 (.t 25)⟩])
 (.seq (.reg [⟨none, .load 27 1 6 true⟩,
  ⟨none, .store 2 6 (.t 27)⟩])
 (.ret))))))⟩
/-- spec.l13Before -/
def r242 : RF :=
 ⟨2, [.tmp 4],
 .seq (.reg [⟨none, .locb 2 (.t 0)⟩,
  ⟨none, .locb 3 (.t 1)⟩,
  ⟨none, .mov 4 (.k (.bool false))⟩])
 (.seq (.reg [⟨none, .fad 5 2 0⟩,
  ⟨none, .load 6 5 1 false⟩,
  ⟨none, .fad 7 3 0⟩,
  ⟨none, .load 8 7 1 false⟩,
  ⟨none, .bin 9 .lss (.t 6) (.t 8)⟩,
  ⟨none, .mov 10 (.t 9)⟩,
  ⟨some (10, false), .fad 11 2 0⟩,
  ⟨some (10, false), .load 12 11 1 false⟩,
  ⟨some (10, false), .fad 13 3 0⟩,
  ⟨some (10, false), .load 14 13 1 false⟩,
  ⟨some (10, false), .bin 15 .eql (.t 12) (.t 14)⟩,
  ⟨some (10, false), .mov 16 (.t 15)⟩,
  ⟨some (16, true), .fad 17 2 1⟩,
  ⟨some (16, true), .load 18 17 1 false⟩,
  ⟨some (16, true), .fad 19 3 1⟩,
  ⟨some (16, true), .load 20 19 1 false⟩,
  ⟨some (16, true), .bin 21 .lss (.t 18) (.t 20)⟩,
  ⟨some (10, false), .pick 22 (.t 16) (.t 21) (.k (.bool false))⟩,
  ⟨none, .pick 23 (.t 10) (.k (.bool true)) (.t 22)⟩,
  ⟨none, .mov 4 (.t 23)⟩])
 (.ret))⟩
/-- A loop of spec.l13Has. -/
def r243L0 : RC :=
 .seq (.seq (.reg [⟨none, .mov 6 (.t 5)⟩,
      ⟨none, .mov 7 (.t 0)⟩,
      ⟨none, .len 8 (.t 7)⟩,
      ⟨none, .bin 9 .lss (.t 6) (.t 8)⟩])
     (.cond (.t 9)
     (.skip)
     (.exit 0)))
    (.seq (.block 1 (.seq (.reg [⟨none, .chk []⟩,
       ⟨none, .mov 12 (.t 0)⟩,
       ⟨none, .mov 13 (.t 5)⟩,
       ⟨none, .idx 14 9 (.t 12) (.t 13)⟩,
       ⟨none, .load 15 14 2 true⟩,
       ⟨none, .load 16 3 2 true⟩,
       ⟨none, .eqs 17 false [.i .i64, .i .u64] (.t 15) (.t 16)⟩])
      (.cond (.t 17)
      (.seq (.reg [⟨none, .mov 4 (.k (.bool true))⟩])
       (.ret))
      (.skip))))
    (.reg [⟨none, .mov 10 (.t 5)⟩,
    ⟨none, .bin 11 .add (.t 10) (.k (.int .i64 1))⟩,
    ⟨none, .mov 5 (.t 11)⟩]))
/-- spec.l13Has -/
def r243 : RF :=
 ⟨2, [.tmp 4],
 .seq (.reg [⟨none, .locb 3 (.t 1)⟩,
  ⟨none, .mov 4 (.k (.bool false))⟩])
 (.seq (.seq (.reg [⟨none, .mov 5 (.k (.int .i64 0))⟩])
  (.block 0 (.loop [0, 3, 5]
   r243L0)))
 (.seq (.reg [⟨none, .mov 4 (.k (.bool false))⟩])
 (.ret)))⟩
/-- The functions of this text, with their numbers. -/
def tS13 : List (Nat × RF) := [(156, r156), (163, r163), (189, r189), (204, r204), (208, r208), (210, r210), (211, r211), (228, r228), (242, r242), (243, r243)]
end Go.Proofs.Ytlbagejkjkfkjaa.A
/- The compact code of some functions: laws.FnExactExportShard. -/
namespace Go.Proofs.Ytlbagejkjkfkjaa.A
open Go
/-- laws.FnExactExportShard -/
def r188 : RF :=
 ⟨2, [.tmp 4],
 .seq (.reg [⟨none, .locb 2 (.t 0)⟩,
  ⟨none, .mov 4 (.k (.bool false))⟩])
 (.seq (.reg [⟨none, .mov 5 (.k (.int .i64 1048576))⟩])
 (.seq (.reg [⟨none, .load 16 2 3 true⟩,
  ⟨none, .mov 17 (.t 5)⟩,
  ⟨none, .call (some 18) 154 [(.t 16), (.t 17)] false⟩,
  ⟨none, .mov 5 (.t 18)⟩])
 (.seq (.seq (.reg [⟨none, .mov 19 (.t 5)⟩,
   ⟨none, .bin 20 .lss (.t 19) (.k (.int .i64 0))⟩])
  (.cond (.t 20)
  (.seq (.reg [⟨none, .mov 4 (.k (.bool true))⟩])
   (.ret))
  (.skip)))
 (.seq (.reg [⟨none, .load 22 2 3 true⟩,
  ⟨none, .call (some 23) 155 [(.t 22)] false⟩,
  ⟨none, .mov 24 (.t 1)⟩,
  ⟨none, .call (some 25) 189 [(.t 23), (.t 24)] false⟩,
  ⟨none, .mov 21 (.t 25)⟩,
  ⟨none, .ext 26 (.t 21) 0⟩,
  ⟨none, .ext 27 (.t 21) 1⟩,
  ⟨none, .loc 6 [.int .u64 0, .int .u64 0, .int .i64 0, .int .i64 0, .nil, .nil]⟩,
  ⟨none, .store 6 6 (.t 26)⟩,
  ⟨none, .mov 7 (.t 27)⟩])
 (.seq (.reg [⟨none, .load 28 2 3 true⟩,
  ⟨none, .call (some 29) 155 [(.t 28)] false⟩,
  ⟨none, .loc 8 [.int .i64 0, .int .i64 0, .nil]⟩,
  ⟨none, .store 8 3 (.t 29)⟩])
 (.seq (.reg [⟨none, .load 31 8 3 true⟩,
  ⟨none, .mov 32 (.t 1)⟩,
  ⟨none, .call (some 33) 190 [(.t 31), (.t 32)] false⟩,
  ⟨none, .mov 30 (.t 33)⟩,
  ⟨none, .ext 34 (.t 30) 0⟩,
  ⟨none, .ext 35 (.t 30) 1⟩,
  ⟨none, .loc 9 [.int .u64 0, .int .u64 0, .int .i64 0, .int .i64 0, .nil, .nil]⟩,
  ⟨none, .store 9 6 (.t 34)⟩,
  ⟨none, .mov 10 (.t 35)⟩])
 (.seq (.seq (.reg [⟨none, .load 36 9 6 true⟩,
   ⟨none, .load 37 6 6 true⟩,
   ⟨none, .call (some 38) 114 [(.t 36), (.t 37)] false⟩,
   ⟨none, .not 39 (.t 38)⟩,
   ⟨none, .mov 40 (.t 39)⟩,
   ⟨some (40, false), .mov 41 (.t 10)⟩,
   ⟨some (40, false), .mov 42 (.t 7)⟩,
   ⟨some (40, false), .beq 43 true (.t 41) (.t 42)⟩,
   ⟨none, .pick 44 (.t 40) (.k (.bool true)) (.t 43)⟩])
  (.cond (.t 44)
  (.seq (.reg [⟨none, .mov 4 (.k (.bool false))⟩])
   (.ret))
  (.skip)))
 (.seq (.seq (.reg [⟨none, .chk []⟩,
   ⟨none, .load 45 8 3 true⟩,
   ⟨none, .load 46 2 3 true⟩,
   ⟨none, .call (some 47) 155 [(.t 46)] true⟩,
   ⟨none, .call (some 48) 158 [(.t 45), (.t 47)] true⟩,
   ⟨none, .not 49 (.t 48)⟩])
  (.cond (.t 49)
  (.seq (.reg [⟨none, .mov 4 (.k (.bool false))⟩])
   (.ret))
  (.skip)))
 (.seq (.reg [⟨none, .mov 11 (.k (.int .i64 1))⟩])
 (.seq (.reg [⟨none, .load 50 8 3 true⟩,
  ⟨none, .mov 51 (.t 11)⟩,
  ⟨none, .call (some 52) 191 [(.t 50), (.t 51)] false⟩,
  ⟨none, .mov 11 (.t 52)⟩])
 (.seq (.seq (.reg [⟨none, .mov 53 (.t 11)⟩,
   ⟨none, .bin 54 .lss (.t 53) (.k (.int .i64 0))⟩,
   ⟨none, .mov 55 (.t 54)⟩,
   ⟨some (55, false), .load 56 9 6 true⟩,
   ⟨some (55, false), .load 57 6 6 true⟩,
   ⟨some (55, false), .call (some 58) 114 [(.t 56), (.t 57)] false⟩,
   ⟨some (55, false), .not 59 (.t 58)⟩,
   ⟨none, .pick 60 (.t 55) (.k (.bool true)) (.t 59)⟩,
   ⟨none, .mov 61 (.t 60)⟩,
   ⟨some (61, false), .mov 62 (.t 10)⟩,
   ⟨some (61, false), .mov 63 (.t 7)⟩,
   ⟨some (61, false), .beq 64 true (.t 62) (.t 63)⟩,
   ⟨none, .pick 65 (.t 61) (.k (.bool true)) (.t 64)⟩])
  (.cond (.t 65)
  (.seq (.reg [⟨none, .mov 4 (.k (.bool false))⟩])
   (.ret))
  (.skip)))
 (.seq (.reg [⟨none, .mov 12 (.k (.int .i64 1))⟩])
 (.seq (.reg [⟨none, .load 66 9 6 true⟩,
  ⟨none, .mov 67 (.t 12)⟩,
  ⟨none, .call (some 68) 192 [(.t 66), (.t 67)] false⟩,
  ⟨none, .mov 12 (.t 68)⟩])
 (.seq (.reg [⟨none, .mov 13 (.k (.int .i64 1))⟩])
 (.seq (.reg [⟨none, .load 69 9 6 true⟩,
  ⟨none, .mov 70 (.t 13)⟩,
  ⟨none, .call (some 71) 193 [(.t 69), (.t 70)] false⟩,
  ⟨none, .mov 13 (.t 71)⟩])
 (.seq (.seq (.reg [⟨none, .mov 72 (.t 13)⟩,
   ⟨none, .bin 73 .lss (.t 72) (.k (.int .i64 0))⟩])
  (.cond (.t 73)
  (.seq (.reg [⟨none, .mov 4 (.k (.bool false))⟩])
   (.ret))
  (.skip)))
 (.seq (.seq (.reg [⟨none, .mov 74 (.t 13)⟩,
   ⟨none, .mov 75 (.t 12)⟩,
   ⟨none, .bin 76 .neq (.t 74) (.t 75)⟩])
  (.cond (.t 76)
  (.seq (.reg [⟨none, .mov 4 (.k (.bool false))⟩])
   (.ret))
  (.skip)))
 (.seq (.reg [⟨none, .load 78 2 3 true⟩,
  ⟨none, .call (some 79) 155 [(.t 78)] false⟩,
  ⟨none, .mov 80 (.t 1)⟩,
  ⟨none, .call (some 81) 190 [(.t 79), (.t 80)] false⟩,
  ⟨none, .mov 77 (.t 81)⟩,
  ⟨none, .ext 82 (.t 77) 0⟩,
  ⟨none, .ext 83 (.t 77) 1⟩,
  ⟨none, .loc 14 [.int .u64 0, .int .u64 0, .int .i64 0, .int .i64 0, .nil, .nil]⟩,
  ⟨none, .store 14 6 (.t 82)⟩,
  ⟨none, .mov 15 (.t 83)⟩])
 (.seq (.seq (.reg [⟨none, .load 84 14 6 true⟩,
   ⟨none, .load 85 6 6 true⟩,
   ⟨none, .call (some 86) 114 [(.t 84), (.t 85)] false⟩,
   ⟨none, .not 87 (.t 86)⟩,
   ⟨none, .mov 88 (.t 87)⟩,
   ⟨some (88, false), .mov 89 (.t 15)⟩,
   ⟨some (88, false), .mov 90 (.t 7)⟩,
   ⟨some (88, false), .beq 91 true (.t 89) (.t 90)⟩,
   ⟨none, .pick 92 (.t 88) (.k (.bool true)) (.t 91)⟩])
  (.cond (.t 92)
  (.seq (.reg [⟨none, .mov 4 (.k (.bool false))⟩])
   (.ret))
  (.skip)))
 (.seq (.reg [⟨none, .mov 13 (.k (.int .i64 1))⟩])
 (.seq (.reg [⟨none, .load 93 9 6 true⟩,
  ⟨none, .mov 94 (.t 13)⟩,
  ⟨none, .call (some 95) 193 [(.t 93), (.t 94)] false⟩,
  ⟨none, .mov 13 (.t 95)⟩])
 (.seq (.seq (.reg [⟨none, .mov 96 (.t 13)⟩,
   ⟨none, .bin 97 .lss (.t 96) (.k (.int .i64 0))⟩])
  (.cond (.t 97)
  (.seq (.reg [⟨none, .mov 4 (.k (.bool false))⟩])
   (.ret))
  (.skip)))
 (.seq (.seq (.reg [⟨none, .mov 98 (.t 13)⟩,
   ⟨none, .mov 99 (.t 12)⟩,
   ⟨none, .bin 100 .neq (.t 98) (.t 99)⟩])
  (.cond (.t 100)
  (.seq (.reg [⟨none, .mov 4 (.k (.bool false))⟩])
   (.ret))
  (.skip)))
 (.seq (.reg [⟨none, .mov 4 (.k (.bool true))⟩])
 (.ret)))))))))))))))))))))))))⟩
/-- The functions of this text, with their numbers. -/
def tWExportShard : List (Nat × RF) := [(188, r188)]
end Go.Proofs.Ytlbagejkjkfkjaa.A
/- Small functions of bounds that many use. -/
namespace Go.Proofs.Ytlbagejkjkfkjaa.A
open Go
set_option linter.unusedSimpArgs false
set_option linter.unusedVariables false
/-- A table's functions are those of F. -/
abbrev Has (F : Nat → Option RF) (t : List (Nat × RF)) : Prop := AllT (fun x => F x.1 = some x.2) t
def inR (x lo hi : Int) : Bool := decide (lo ≤ x) && decide (x ≤ hi)
section
variable {F : Nat → Option RF} {Z : CallF}
theorem isGroupId_run (hI11 : Has F tI11) (n : Int) (h : Heap) :
    call F Z 7 [.c (.int .i64 n)] h = some (.c (.bool (inR n 0 99)), h) := by
  rw [call_run F Z (hI11.lk (g := 7) rfl) _ _ rfl]
  simp only [run0, run1, run2, run3, run4, noSlot, memN, RO.dst, lk, drop, forget, number, Nat.reduceBEq, cut?, splice?, builds, List.length_cons, List.length_nil, List.drop_succ_cons, List.drop_zero, List.take_succ_cons, List.take_zero, List.cons_append, List.nil_append, List.append_nil, List.drop_nil, List.take_nil, Nat.reduceAdd, Nat.reduceLeDiff, Nat.zero_add, Nat.add_zero, ↓reduceIte, Bool.not_true, Bool.not_false, decide_true, decide_false, eq_self, bne_self_eq_false, List.getElem?_cons_zero, List.getElem?_cons_succ, decide_eq_true_eq, Bool.false_eq_true, Bool.true_eq_false, reduceCtorEq, Nat.le_refl]
  (repeat' ((first | (rw [gF_if]; split) | (rw [condC_if]; split) | (rw [pickR_if]; split)) <;> (rename_i hh; (try simp only [Bool.not_eq_true, decide_eq_true_eq] at hh); simp only [hh, run0, run1, run2, run3, run4, noSlot, memN, RO.dst, lk, drop, forget, number, Nat.reduceBEq, cut?, splice?, builds, List.length_cons, List.length_nil, List.drop_succ_cons, List.drop_zero, List.take_succ_cons, List.take_zero, List.cons_append, List.nil_append, List.append_nil, List.drop_nil, List.take_nil, Nat.reduceAdd, Nat.reduceLeDiff, Nat.zero_add, Nat.add_zero, ↓reduceIte, Bool.not_true, Bool.not_false, decide_true, decide_false, eq_self, bne_self_eq_false, List.getElem?_cons_zero, List.getElem?_cons_succ, decide_eq_true_eq, Bool.false_eq_true, Bool.true_eq_false, reduceCtorEq, Nat.le_refl]))) <;> simp [inR, *]
theorem l01In_run (hS : Has F tS01d) (n lo hi : Int) (h : Heap) :
    call F Z 5 [.c (.int .i64 n), .c (.int .i64 lo), .c (.int .i64 hi)] h = some (.c (.bool (inR n lo hi)), h) := by
  rw [call_run F Z (hS.lk (g := 5) rfl) _ _ rfl]
  simp only [run0, run1, run2, run3, run4, noSlot, memN, RO.dst, lk, drop, forget, number, Nat.reduceBEq, cut?, splice?, builds, List.length_cons, List.length_nil, List.drop_succ_cons, List.drop_zero, List.take_succ_cons, List.take_zero, List.cons_append, List.nil_append, List.append_nil, List.drop_nil, List.take_nil, Nat.reduceAdd, Nat.reduceLeDiff, Nat.zero_add, Nat.add_zero, ↓reduceIte, Bool.not_true, Bool.not_false, decide_true, decide_false, eq_self, bne_self_eq_false, List.getElem?_cons_zero, List.getElem?_cons_succ, decide_eq_true_eq, Bool.false_eq_true, Bool.true_eq_false, reduceCtorEq, Nat.le_refl]
  (repeat' ((first | (rw [gF_if]; split) | (rw [condC_if]; split) | (rw [pickR_if]; split)) <;> (rename_i hh; (try simp only [Bool.not_eq_true, decide_eq_true_eq] at hh); simp only [hh, run0, run1, run2, run3, run4, noSlot, memN, RO.dst, lk, drop, forget, number, Nat.reduceBEq, cut?, splice?, builds, List.length_cons, List.length_nil, List.drop_succ_cons, List.drop_zero, List.take_succ_cons, List.take_zero, List.cons_append, List.nil_append, List.append_nil, List.drop_nil, List.take_nil, Nat.reduceAdd, Nat.reduceLeDiff, Nat.zero_add, Nat.add_zero, ↓reduceIte, Bool.not_true, Bool.not_false, decide_true, decide_false, eq_self, bne_self_eq_false, List.getElem?_cons_zero, List.getElem?_cons_succ, decide_eq_true_eq, Bool.false_eq_true, Bool.true_eq_false, reduceCtorEq, Nat.le_refl]))) <;> simp [inR, *]
end
end Go.Proofs.Ytlbagejkjkfkjaa.A
/- Slices that show data: relations between cells of a heap and data, with their footprints; loops by their turns. -/
namespace Go.Proofs.Ytlbagejkjkfkjaa.A
open Go
set_option linter.unusedSimpArgs false
set_option linter.unusedVariables false

/-! ### numbers -/
theorem wrapI (z : Int) (h1 : -9223372036854775808 ≤ z) (h2 : z ≤ 9223372036854775807) : IntKind.i64.wrap z = z := by
  show (if (true && decide (z % 18446744073709551616 ≥ 9223372036854775808)) = true then z % 18446744073709551616 - 18446744073709551616 else z % 18446744073709551616) = z
  simp only [Bool.true_and, decide_eq_true_eq]
  split <;> omega
theorem wrapU (z : Int) (h1 : 0 ≤ z) (h2 : z ≤ 18446744073709551615) : IntKind.u64.wrap z = z := by
  show (if (false && decide (z % 18446744073709551616 ≥ 9223372036854775808)) = true then z % 18446744073709551616 - 18446744073709551616 else z % 18446744073709551616) = z
  rw [if_neg (by simp)]
  omega
theorem wrapS (i : Nat) (h : i < 9223372036854775807) : IntKind.i64.wrap ((i : Int) + 1) = ((i + 1 : Nat) : Int) := by rw [wrapI _ (by omega) (by omega)]; rfl

/-! ### cells that show data -/
/-- Cells of a heap show data; the rows that they lie in. -/
abbrev Rel (α : Type) := Heap → List Cell → α → List Nat → Prop
structure RelOk {α : Type} (R : Rel α) : Prop where
  lt : ∀ {h cs a fp}, R h cs a fp → ∀ id, id ∈ fp → id < h.next
  mv : ∀ {h h' cs a fp}, R h cs a fp → h.next ≤ h'.next → (∀ id, id ∈ fp → h'.get id = h.get id) → R h' cs a fp
def Fl {α : Type} (enc : α → List Cell) : Rel α := fun _ cs a fp => cs = enc a ∧ fp = []
theorem Fl.ok {α : Type} (enc : α → List Cell) : RelOk (Fl enc) where
  lt := by rintro h cs a fp ⟨rfl, rfl⟩ id hid; cases hid
  mv := fun e _ _ => e
def AllR {α : Type} (R : Rel α) (h : Heap) : List (List Cell) → List α → List (List Nat) → Prop
  | [], [], [] => True
  | r :: rs, a :: as, f :: fs => R h r a f ∧ AllR R h rs as fs
  | _, _, _ => False
def Cell.sid : Cell → Nat
  | .sl _ id _ _ => id
  | _ => 0
/-- A cell shows a list. -/
def SlR {α : Type} (tag : Nat) (R : Rel α) (h : Heap) (x : Cell) (xs : List α) (fp : List Nat) : Prop :=
  xs.length ≤ maxLen ∧ ((x = .nil ∧ xs = [] ∧ fp = []) ∨ ∃ id rows fps, x = .sl tag id 0 xs.length ∧ h.get id = some rows ∧ id < h.next ∧ fp = id :: fps.flatten ∧ AllR R h rows xs fps)

section
variable {α : Type} {R : Rel α} {h h' : Heap}
theorem AllR.len : ∀ {rows : List (List Cell)} {xs : List α} {fps : List (List Nat)}, AllR R h rows xs fps → rows.length = xs.length
  | [], [], [], _ => rfl
  | _ :: _, _ :: _, _ :: _, ⟨_, w⟩ => by simp only [List.length_cons, AllR.len w]
  | [], [], _ :: _, w => w.elim
  | [], _ :: _, _, w => w.elim
  | _ :: _, [], _, w => w.elim
  | _ :: _, _ :: _, [], w => w.elim
theorem AllR.at : ∀ {rows : List (List Cell)} {xs : List α} {fps : List (List Nat)}, AllR R h rows xs fps → ∀ (i : Nat) (hi : i < xs.length), ∃ r f, rows[i]? = some r ∧ fps[i]? = some f ∧ R h r xs[i] f
  | [], [], [], _ => fun i hi => absurd hi (Nat.not_lt_zero _)
  | r :: _, _ :: _, f :: _, ⟨w1, w⟩ => fun i hi => by
    cases i with
    | zero => exact ⟨r, f, rfl, rfl, w1⟩
    | succ i => exact AllR.at w i (by simpa using hi)
  | [], [], _ :: _, w => w.elim
  | [], _ :: _, _, w => w.elim
  | _ :: _, [], _, w => w.elim
  | _ :: _, _ :: _, [], w => w.elim
theorem AllR.mv (ok : RelOk R) : ∀ {rows : List (List Cell)} {xs : List α} {fps : List (List Nat)}, AllR R h rows xs fps → h.next ≤ h'.next → (∀ id, id ∈ fps.flatten → h'.get id = h.get id) → AllR R h' rows xs fps
  | [], [], [], _ => fun _ _ => trivial
  | _ :: _, _ :: _, _ :: _, ⟨w1, w⟩ => fun hn hg => ⟨ok.mv w1 hn fun id hid => hg id (by simp [hid]), w.mv ok hn fun id hid => hg id (by rw [List.flatten_cons]; exact List.mem_append_right _ hid)⟩
  | [], [], _ :: _, w => w.elim
  | [], _ :: _, _, w => w.elim
  | _ :: _, [], _, w => w.elim
  | _ :: _, _ :: _, [], w => w.elim
theorem AllR.lt (ok : RelOk R) : ∀ {rows : List (List Cell)} {xs : List α} {fps : List (List Nat)}, AllR R h rows xs fps → ∀ id, id ∈ fps.flatten → id < h.next
  | [], [], [], _ => fun id hid => by simp at hid
  | _ :: _, _ :: _, _ :: _, ⟨w1, w⟩ => fun id hid => by
    rw [List.flatten_cons] at hid
    rcases List.mem_append.1 hid with hid | hid
    · exact ok.lt w1 id hid
    · exact w.lt ok id hid
  | [], [], _ :: _, w => w.elim
  | [], _ :: _, _, w => w.elim
  | _ :: _, [], _, w => w.elim
  | _ :: _, _ :: _, [], w => w.elim
theorem AllR.flat {enc : α → List Cell} : ∀ {rows : List (List Cell)} {xs : List α} {fps : List (List Nat)}, AllR (Fl enc) h rows xs fps → rows = xs.map enc ∧ fps.flatten = []
  | [], [], [], _ => ⟨rfl, rfl⟩
  | _ :: _, _ :: _, _ :: _, ⟨⟨rfl, rfl⟩, w⟩ => ⟨by rw [w.flat.1]; rfl, by rw [List.flatten_cons, w.flat.2]; rfl⟩
  | [], [], _ :: _, w => w.elim
  | [], _ :: _, _, w => w.elim
  | _ :: _, [], _, w => w.elim
  | _ :: _, _ :: _, [], w => w.elim
theorem AllR.ofFlat {enc : α → List Cell} : ∀ (xs : List α), AllR (Fl enc) h (xs.map enc) xs (xs.map fun _ => [])
  | [] => trivial
  | _ :: r => ⟨⟨rfl, rfl⟩, AllR.ofFlat r⟩
variable {tag : Nat} {x : Cell} {xs : List α} {fp : List Nat}
theorem SlR.le (w : SlR tag R h x xs fp) : xs.length ≤ maxLen := w.1
theorem SlR.le2 (w : SlR tag R h x xs fp) : xs.length ≤ 9223372036854775807 := by have := w.1; unfold maxLen at this; omega
theorem SlR.lt (ok : RelOk R) (w : SlR tag R h x xs fp) : ∀ id, id ∈ fp → id < h.next := by
  rcases w with ⟨_, ⟨_, _, rfl⟩ | ⟨id, rows, fps, _, _, h1, rfl, h2⟩⟩
  · intro id hid; cases hid
  · intro i hi
    rcases List.mem_cons.1 hi with rfl | hi
    · exact h1
    · exact h2.lt ok i hi
theorem SlR.mv (ok : RelOk R) (w : SlR tag R h x xs fp) (hn : h.next ≤ h'.next) (hg : ∀ id, id ∈ fp → h'.get id = h.get id) : SlR tag R h' x xs fp := by
  rcases w with ⟨hl, ⟨h1, h2, rfl⟩ | ⟨id, rows, fps, h1, h2, h3, rfl, h4⟩⟩
  · exact ⟨hl, .inl ⟨h1, h2, rfl⟩⟩
  · exact ⟨hl, .inr ⟨id, rows, fps, h1, (hg id (by simp)).trans h2, Nat.lt_of_lt_of_le h3 hn, rfl, h4.mv ok hn fun i hi => hg i (by simp [hi])⟩⟩
theorem SlR.mono (ok : RelOk R) (w : SlR tag R h x xs fp) (hx : HExt h h') : SlR tag R h' x xs fp := w.mv ok hx.1 fun id hid => hx.2 id (w.lt ok id hid)
theorem RelOk.mono (ok : RelOk R) {cs : List Cell} {a : α} (w : R h cs a fp) (hx : HExt h h') : R h' cs a fp := ok.mv w hx.1 fun id hid => hx.2 id (ok.lt w id hid)
theorem SlR.len (w : SlR tag R h x xs fp) : lenR (some x) = some (.int .i64 (xs.length : Nat)) := by
  rcases w with ⟨_, ⟨rfl, rfl, _⟩ | ⟨id, rows, fps, rfl, _⟩⟩ <;> rfl
theorem SlR.idx (w : SlR tag R h x xs fp) {i : Nat} (hi : i < xs.length) : idxR tag (some x) (some (i : Int)) = some (.ptr x.sid i 0) := by
  rcases w with ⟨_, ⟨rfl, rfl, _⟩ | ⟨id, rows, fps, rfl, _⟩⟩
  · exact absurd hi (Nat.not_lt_zero _)
  · rw [idxR_s, if_pos (by omega)]; simp [Cell.sid]
theorem SlR.row (w : SlR tag R h x xs fp) {i : Nat} (hi : i < xs.length) : ∃ r f, rowOf h x.sid i = some r ∧ R h r xs[i] f ∧ ∀ id, id ∈ f → id ∈ fp := by
  rcases w with ⟨_, ⟨rfl, rfl, _⟩ | ⟨id, rows, fps, rfl, h1, _, rfl, h2⟩⟩
  · exact absurd hi (Nat.not_lt_zero _)
  · obtain ⟨r, f, q1, q2, q3⟩ := h2.at i hi
    refine ⟨r, f, by simp [rowOf, Cell.sid, h1, q1], q3, fun id hid => List.mem_cons_of_mem _ (List.mem_flatten.2 ⟨f, List.mem_of_getElem? q2, hid⟩)⟩
theorem SlR.flat {enc : α → List Cell} (w : SlR tag (Fl enc) h x xs fp) : (x = .nil ∧ xs = [] ∧ fp = []) ∨ x = .sl tag x.sid 0 xs.length ∧ h.get x.sid = some (xs.map enc) ∧ x.sid < h.next ∧ fp = [x.sid] := by
  rcases w with ⟨_, h0 | ⟨id, rows, fps, rfl, h1, h2, rfl, h3⟩⟩
  · exact .inl h0
  · obtain ⟨rfl, h4⟩ := h3.flat
    exact .inr ⟨rfl, h1, h2, by rw [h4]; rfl⟩
theorem SlR.ofFlat {enc : α → List Cell} (hl : xs.length ≤ maxLen) {id : Nat} (h1 : h.get id = some (xs.map enc)) (h2 : id < h.next) : SlR tag (Fl enc) h (.sl tag id 0 xs.length) xs [id] :=
  ⟨hl, .inr ⟨id, _, _, rfl, h1, h2, by simp, AllR.ofFlat xs⟩⟩
theorem SlR.nil (tag : Nat) (R : Rel α) (h : Heap) : SlR tag R h .nil [] [] := ⟨Nat.zero_le _, .inl ⟨rfl, rfl, rfl⟩⟩
theorem SlR.load {enc : α → List Cell} (w : SlR tag (Fl enc) h x xs fp) {i : Nat} (hi : i < xs.length) (j n : Nat) : loadP h x.sid i j n = cut? (enc xs[i]) j n := by
  obtain ⟨r, f, h1, ⟨rfl, _⟩, _⟩ := w.row hi
  simp [loadP, h1]
theorem SlR.loadD {enc : α → List Cell} (w : SlR tag (Fl enc) h x xs fp) (d : α) {i : Nat} (hi : i < xs.length) (j n : Nat) : loadP h x.sid i j n = cut? (enc (xs[i]?.getD d)) j n := by
  rw [w.load hi, List.getElem?_eq_getElem hi]; rfl
theorem SlR.rows {enc : α → List Cell} (w : SlR tag (Fl enc) h x xs fp) : rowsOf h x = some (xs.map enc) := by
  rcases w.flat with ⟨rfl, rfl, _⟩ | ⟨h1, h2, _⟩
  · rfl
  · rw [h1]; simp only [rowsOf]; rw [h2]; simp [List.take_of_length_le]
theorem SlR.isTag (w : SlR tag R h x xs fp) : A.isTag tag x = true := by
  rcases w with ⟨_, ⟨rfl, rfl, _⟩ | ⟨id, rows, fps, rfl, _⟩⟩ <;> simp [A.isTag]
theorem AllR.ofWf {A : α → Prop} {W : List Cell → Prop} (hr : ∀ r, W r → ∃ a f, R h r a f ∧ A a) : ∀ (rows : List (List Cell)), (∀ r, r ∈ rows → W r) → ∃ xs fps, AllR R h rows xs fps ∧ ∀ a, a ∈ xs → A a
  | [], _ => ⟨[], [], trivial, fun _ h => nomatch h⟩
  | r :: rs, w => by
    obtain ⟨a, f, h1, h2⟩ := hr r (w r (by simp))
    obtain ⟨as, fs, h3, h4⟩ := AllR.ofWf hr rs fun r hr => w r (by simp [hr])
    exact ⟨a :: as, f :: fs, ⟨h1, h3⟩, fun b hb => by (rcases List.mem_cons.1 hb with rfl | hb); exact h2; exact h4 b hb⟩
theorem SlR.ofWf {A : α → Prop} {n sz : Nat} {e : Sh} (hr : ∀ r, r.length = sz ∧ Wf h n e r → ∃ a f, R h r a f ∧ A a) (w : Wf h (n + 1) (.slice tag sz e) [x]) : ∃ xs fp, SlR tag R h x xs fp ∧ ∀ a, a ∈ xs → A a := by
  rcases w with w | ⟨id, rows, h1, h2, h3, h4, h5⟩
  · cases w; exact ⟨[], [], SlR.nil _ _ _, fun _ h => nomatch h⟩
  · cases h1
    obtain ⟨xs, fps, q1, q2⟩ := AllR.ofWf hr rows h5
    exact ⟨xs, _, ⟨q1.len ▸ h4, .inr ⟨id, rows, fps, by rw [q1.len], h3, h2, rfl, q1⟩⟩, q2⟩
end

/-! ### the heap -/
theorem push_put (h : Heap) (a b : List (List Cell)) : (h.push a).put h.next b = h.push b := by
  simp only [Heap.push, Heap.put]
  congr 1; funext i; split <;> rfl
theorem push_get (h : Heap) (a : List (List Cell)) : (h.push a).get h.next = some a := by simp [Heap.push]
theorem push_next (h : Heap) (a : List (List Cell)) : (h.push a).next = h.next + 1 := rfl
theorem push_floor (h : Heap) (a : List (List Cell)) : (h.push a).floor = h.floor := rfl
theorem put_put (h : Heap) (id : Nat) (a b : List (List Cell)) : (h.put id a).put id b = h.put id b := by
  simp only [Heap.put]
  congr 1; funext i; split <;> rfl
theorem push_kill (h : Heap) (a : List (List Cell)) : (h.push a).kill h.next = { h with next := h.next + 1, get := fun i => if i = h.next then none else h.get i } := by
  simp only [Heap.push, Heap.kill]
  congr 1; funext i; split <;> rfl

theorem storeP_push {h : Heap} {rows : List (List Cell)} (hf : h.floor ≤ h.next) {i : Nat} {old new : List Cell} (h1 : rows[i]? = some old) (h2 : new.length = old.length) : storeP (h.push rows) h.next i 0 new = some (h.push (rows.set i new)) := by
  simp only [storeP, push_floor, push_get]
  rw [if_pos hf]
  simp only [Option.bind_some, h1, splice?, List.take_zero, List.nil_append, Nat.zero_add]
  rw [if_pos (by omega), h2, List.drop_length]
  simp only [List.append_nil, Option.bind_some, push_put]
/-- A store into a row that may be written. -/
theorem storeP_at {h : Heap} {id : Nat} {rows : List (List Cell)} (hf : h.floor ≤ id) (hr : h.get id = some rows) {i j : Nat} {old new r : List Cell} (h1 : rows[i]? = some old) (h2 : splice? old j new = some r) : storeP h id i j new = some (h.put id (rows.set i r)) := by
  simp only [storeP]
  rw [if_pos hf, hr]
  simp only [Option.bind_some, h1, h2]
theorem HExt.fl {h h' : Heap} (hx : HExt h h') (hf : h'.floor = h.floor) (h0 : h.floor ≤ h.next) : h'.floor ≤ h'.next := by rw [hf]; exact Nat.le_trans h0 hx.1

/-- The heap goes on: what was there is there. -/
structure On (h h' : Heap) : Prop where
  ext : HExt h h'
  fl : h'.floor = h.floor
theorem On.refl (h : Heap) : On h h := ⟨HExt.refl h, rfl⟩
theorem On.trans {a b c : Heap} (p : On a b) (q : On b c) : On a c := ⟨p.ext.trans q.ext, q.fl.trans p.fl⟩
theorem On.push (h : Heap) (rows : List (List Cell)) : On h (h.push rows) := ⟨HExt.push h rows, rfl⟩
theorem On.le {h h' : Heap} (o : On h h') (hf : h.floor ≤ h.next) : h'.floor ≤ h'.next := o.ext.fl o.fl hf
/-- Rows that were made behind h, each named once. -/
structure Fre (h : Heap) (fp : List Nat) : Prop where
  lo : ∀ id, id ∈ fp → h.next ≤ id
  nd : fp.Nodup
theorem Fre.one (h : Heap) : Fre h [h.next] := ⟨fun id hid => by simp at hid; omega, by simp⟩
theorem Fre.nil (h : Heap) : Fre h [] := ⟨fun id hid => (nomatch hid), List.nodup_nil⟩
theorem RelOk.on {α : Type} {R : Rel α} (ok : RelOk R) {h h' : Heap} {cs : List Cell} {a : α} {fp : List Nat} (w : R h cs a fp) (o : On h h') : R h' cs a fp := ok.mono w o.ext
theorem SlR.on {α : Type} {R : Rel α} {tag : Nat} {h h' : Heap} {x : Cell} {xs : List α} {fp : List Nat} (w : SlR tag R h x xs fp) (ok : RelOk R) (o : On h h') : SlR tag R h' x xs fp := w.mono ok o.ext

/-! ### rows that are filled one by one -/
def fillR {α : Type} (f : α → List Cell) (z : List Cell) (xs : List α) (i : Nat) : List (List Cell) := (xs.take i).map f ++ List.replicate (xs.length - i) z
theorem fillR_0 {α : Type} (f : α → List Cell) (z : List Cell) (xs : List α) : fillR f z xs 0 = List.replicate xs.length z := by simp [fillR]
theorem fillR_n {α : Type} (f : α → List Cell) (z : List Cell) (xs : List α) : fillR f z xs xs.length = xs.map f := by simp [fillR]
theorem fillR_get {α : Type} (f : α → List Cell) (z : List Cell) (xs : List α) {i : Nat} (hi : i < xs.length) : (fillR f z xs i)[i]? = some z := by
  simp only [fillR]
  rw [List.getElem?_append_right (by simp; omega)]
  rw [List.getElem?_replicate, if_pos]
  simp only [List.length_map, List.length_take]; omega
theorem fillR_set {α : Type} (f : α → List Cell) (z : List Cell) (xs : List α) {i : Nat} (hi : i < xs.length) : (fillR f z xs i).set i (f xs[i]) = fillR f z xs (i + 1) := by
  simp only [fillR]
  rw [List.set_append_right _ _ (by simp; omega), show i - ((xs.take i).map f).length = 0 from by simp; omega, show xs.length - i = (xs.length - (i + 1)) + 1 from by omega, List.replicate_succ, List.set_cons_zero,
    show xs.take (i + 1) = xs.take i ++ [xs[i]] from by rw [List.take_add_one, List.getElem?_eq_getElem hi]; rfl, List.map_append, List.append_assoc]
  rfl

/-! ### rows that are turned one by one, in place -/
def putM (h : Heap) (id : Nat) (rows : List (List Cell)) (i : Nat) : Option (List Cell) → Option Heap
  | some r => some (h.put id (rows.set i r))
  | none => none
theorem putM_s (h : Heap) (id : Nat) (rows : List (List Cell)) (i : Nat) (r : List Cell) : putM h id rows i (some r) = some (h.put id (rows.set i r)) := rfl
theorem storeP_put {h : Heap} {id : Nat} (hf : h.floor ≤ id) {rows : List (List Cell)} {i : Nat} (hi : i < rows.length) (old new : List Cell) (j : Nat) : storeP (h.put id (rows.set i old)) id i j new = putM h id rows i (splice? old j new) := by
  have hf' : (h.put id (rows.set i old)).floor ≤ id := hf
  have hg : (h.put id (rows.set i old)).get id = some (rows.set i old) := by simp [Heap.put]
  simp only [storeP]
  rw [if_pos hf', hg]
  simp only [Option.bind_some, List.getElem?_set_self hi]
  cases splice? old j new with
  | none => rfl
  | some r => simp only [Option.bind_some, List.set_set, put_put, putM]
theorem put_same {h : Heap} {id : Nat} {rows : List (List Cell)} (hr : h.get id = some rows) : h.put id rows = h := by
  obtain ⟨a, b, g⟩ := h
  simp only [Heap.put]
  congr 1; funext i; split
  · rename_i he; subst he; exact hr.symm
  · rfl
def mixR {α : Type} (f : α → List Cell) (ms xs : List α) (i : Nat) : List (List Cell) := (ms.take i).map f ++ (xs.drop i).map f
theorem mixR_0 {α : Type} (f : α → List Cell) (ms xs : List α) : mixR f ms xs 0 = xs.map f := by simp [mixR]
theorem mixR_n {α : Type} (f : α → List Cell) {ms xs : List α} (hl : ms.length = xs.length) : mixR f ms xs xs.length = ms.map f := by simp [mixR, ← hl]
theorem mixR_len {α : Type} (f : α → List Cell) {ms xs : List α} (hl : ms.length = xs.length) (i : Nat) : (mixR f ms xs i).length = xs.length := by simp [mixR]; omega
theorem mixR_split {α : Type} (f : α → List Cell) {ms xs : List α} (hl : ms.length = xs.length) {i : Nat} (hi : i < xs.length) (c : List Cell) : (mixR f ms xs i).set i c = (ms.take i).map f ++ c :: (xs.drop (i + 1)).map f := by
  simp only [mixR]
  rw [List.set_append_right _ _ (by simp; omega), show i - ((ms.take i).map f).length = 0 from by simp; omega, List.drop_eq_getElem_cons hi, List.map_cons, List.set_cons_zero]
theorem mixR_cur {α : Type} (f : α → List Cell) {ms xs : List α} (hl : ms.length = xs.length) {i : Nat} (hi : i < xs.length) : (mixR f ms xs i).set i (f xs[i]) = mixR f ms xs i := by
  rw [mixR_split f hl hi, mixR, List.drop_eq_getElem_cons hi]; rfl
theorem mixR_set {α : Type} (f : α → List Cell) {ms xs : List α} (hl : ms.length = xs.length) {i : Nat} (hi : i < xs.length) : (mixR f ms xs i).set i (f (ms[i]'(by omega))) = mixR f ms xs (i + 1) := by
  have hi' : i < ms.length := by omega
  rw [mixR_split f hl hi, mixR, show ms.take (i + 1) = ms.take i ++ [ms[i]] from by rw [List.take_add_one, List.getElem?_eq_getElem hi']; rfl, List.map_append, List.append_assoc]
  rfl
/-- Only these rows have turned. -/
structure Mk (h h' : Heap) (fp : List Nat) : Prop where
  next : h'.next = h.next
  fl : h'.floor = h.floor
  get : ∀ id, id ∉ fp → h'.get id = h.get id
theorem Mk.refl (h : Heap) (fp : List Nat) : Mk h h fp := ⟨rfl, rfl, fun _ _ => rfl⟩
theorem Mk.put (h : Heap) (id : Nat) (rows : List (List Cell)) : Mk h (h.put id rows) [id] := ⟨rfl, rfl, fun k hk => by simp only [Heap.put]; rw [if_neg (by simpa using hk)]⟩
theorem RelOk.mk' {α : Type} {R : Rel α} (ok : RelOk R) {h h' : Heap} {cs : List Cell} {a : α} {fp fq : List Nat} (w : R h cs a fp) (m : Mk h h' fq) (hd : ∀ id, id ∈ fp → id ∉ fq) : R h' cs a fp := ok.mv w (by rw [m.next]; exact Nat.le_refl _) fun id hid => m.get id (hd id hid)
theorem Mk.trans {a b c : Heap} {p q : List Nat} (m : Mk a b p) (n : Mk b c q) : Mk a c (p ++ q) := ⟨n.next.trans m.next, n.fl.trans m.fl, fun id hid => by
  rw [List.mem_append, not_or] at hid
  rw [n.get id hid.2, m.get id hid.1]⟩
theorem SlR.mk {α : Type} {R : Rel α} {tag : Nat} {h h' : Heap} {x : Cell} {xs : List α} {fp fq : List Nat} (w : SlR tag R h x xs fp) (ok : RelOk R) (m : Mk h h' fq) (hd : ∀ id, id ∈ fp → id ∉ fq) : SlR tag R h' x xs fp := w.mv ok (by rw [m.next]; exact Nat.le_refl _) fun id hid => m.get id (hd id hid)

/-! ### what integers may be -/
theorem wfU {x : Int} (h : (Lit.int .u64 x).wf = true) : 0 ≤ x ∧ x ≤ 18446744073709551615 := by
  simp only [Lit.wf, Bool.and_eq_true, decide_eq_true_eq] at h; exact h
theorem wfI {x : Int} (h : (Lit.int .i64 x).wf = true) : -9223372036854775808 ≤ x ∧ x ≤ 9223372036854775807 := by
  simp only [Lit.wf, Bool.and_eq_true, decide_eq_true_eq] at h; exact h
theorem wrapI1 (z : Int) (h1 : 0 ≤ z) (h2 : z ≤ 4611686018427387904) : IntKind.i64.wrap (z + 1) = z + 1 := wrapI _ (by omega) (by omega)
theorem wrapU1 (z : Int) (h1 : 0 ≤ z) (h2 : z ≤ 4611686018427387904) : IntKind.u64.wrap z = z := wrapU _ (by omega) (by omega)
theorem wrapII (z : Int) (h1 : 0 ≤ z) (h2 : z ≤ 4611686018427387904) : IntKind.i64.wrap z = z := wrapI _ (by omega) (by omega)
theorem b_rem (k : IntKind) (a b : Int) (h : b ≠ 0) : binF .rem (.int k a) (.int k b) = some (.int k (a.tmod b)) := by simp [binF, h]
theorem b_quo (k : IntKind) (a b : Int) (h : b ≠ 0) : binF .quo (.int k a) (.int k b) = some (.int k (k.wrap (a.tdiv b))) := by simp [binF, h]

/-! ### loops -/
/-- One turn goes on, or returns. -/
def Turn (r next : Option (Ex × St)) (p : Bool) (Q : St → Prop) : Prop := (p = true ∧ r = next) ∨ (p = false ∧ ∃ s, r = some (.ret, s) ∧ Q s)
section
variable {F : Nat → Option RF} {Z : CallF} {live : List Nat} {b : RC}
theorem loop_allN (n : Nat) (st : Nat → St) (P : Nat → Bool) (Q : St → Prop) (hs : ∀ i, i < n → Turn (loop F Z live b (st i)) (loop F Z live b (st (i + 1))) (P i) Q) :
    Turn (loop F Z live b (st 0)) (loop F Z live b (st n)) ((List.range n).all P) Q := by
  induction n with
  | zero => exact .inl ⟨rfl, rfl⟩
  | succ n ih =>
    have hl : (List.range (n + 1)).all P = ((List.range n).all P && P n) := by rw [List.range_succ, List.all_append]; simp
    rcases ih fun i hi => hs i (by omega) with ⟨h1, h2⟩ | ⟨h1, h2⟩
    · rcases hs n (by omega) with ⟨h3, h4⟩ | ⟨h3, s, h4, h5⟩
      · exact .inl ⟨by rw [hl, h1, h3]; rfl, h2.trans h4⟩
      · exact .inr ⟨by rw [hl, h1, h3]; rfl, s, h2.trans h4, h5⟩
    · exact .inr ⟨by rw [hl, h1]; rfl, h2⟩
theorem loop_all {α : Type} (xs : List α) (st : Nat → St) (P : α → Bool) (Q : St → Prop) (hs : ∀ i (hi : i < xs.length), Turn (loop F Z live b (st i)) (loop F Z live b (st (i + 1))) (P xs[i]) Q) :
    Turn (loop F Z live b (st 0)) (loop F Z live b (st xs.length)) (xs.all P) Q := by
  have he : xs.all P = (List.range xs.length).all (fun i => (xs[i]?).all P) := by
    rw [Bool.eq_iff_iff, List.all_eq_true, List.all_eq_true]
    constructor
    · intro h i hi
      have hi' : i < xs.length := by simpa using hi
      rw [List.getElem?_eq_getElem hi']
      exact h _ (List.getElem_mem hi')
    · intro h a ha
      obtain ⟨i, hi, rfl⟩ := List.mem_iff_getElem.1 ha
      have := h i (by simpa using hi)
      rwa [List.getElem?_eq_getElem hi] at this
  rw [he]
  exact loop_allN _ _ _ _ fun i hi => by rw [List.getElem?_eq_getElem hi]; exact hs i hi
theorem all_same {α : Type} [DecidableEq α] {xs ys : List α} (he : xs.length = ys.length) : (List.range xs.length).all (fun i => decide (xs[i]? = ys[i]?)) = decide (xs = ys) := by
  rw [Bool.eq_iff_iff, List.all_eq_true, decide_eq_true_eq]
  constructor
  · intro hall
    apply List.ext_getElem? 
    intro i
    by_cases hi : i < xs.length
    · simpa using hall i (by simpa using hi)
    · rw [List.getElem?_eq_none (by omega), List.getElem?_eq_none (by omega)]
  · rintro rfl i _; simp
/-- A loop of so many turns, none of which leaves. -/
theorem loop_goes (n : Nat) (I : Nat → St → Prop) (hs : ∀ i s, i < n → I i s → ∃ s', I (i + 1) s' ∧ loop F Z live b s = loop F Z live b s') {s : St} (h0 : I 0 s) : ∃ s', I n s' ∧ loop F Z live b s = loop F Z live b s' := by
  induction n with
  | zero => exact ⟨s, h0, rfl⟩
  | succ n ih =>
    obtain ⟨s1, h1, h2⟩ := ih fun i s hi => hs i s (by omega)
    obtain ⟨s2, h3, h4⟩ := hs n s1 (by omega) h1
    exact ⟨s2, h3, h2.trans h4⟩
theorem loop_goesF (n : Nat) (st : Nat → St) (hs : ∀ i, i < n → loop F Z live b (st i) = loop F Z live b (st (i + 1))) : loop F Z live b (st 0) = loop F Z live b (st n) := by
  induction n with
  | zero => rfl
  | succ n ih => exact (ih fun i hi => hs i (by omega)).trans (hs n (by omega))
end
end Go.Proofs.Ytlbagejkjkfkjaa.A
/- The data of a Fin, and its cells. -/
namespace Go.Proofs.Ytlbagejkjkfkjaa.A
open Go
set_option linter.unusedSimpArgs false
set_option linter.unusedVariables false
structure Fin where
  tx : Int
  id : Int
  deriving DecidableEq
namespace Fin
def enc (t : Fin) : List Cell := [.int .i64 t.tx, .int .u64 t.id]
theorem len (t : Fin) : t.enc.length = 2 := rfl
theorem tak (t : Fin) : t.enc.take 2 = t.enc := rfl
def none_ : Fin := ⟨0, 0⟩
/-- The numbers are those of the machine. -/
structure Ok (t : Fin) : Prop where
  tx : -9223372036854775808 ≤ t.tx ∧ t.tx ≤ 9223372036854775807
  id : 0 ≤ t.id ∧ t.id ≤ 18446744073709551615
end Fin
theorem Wf.isFin {h : Heap} {n : Nat} {cs : List Cell} (w : Wf h (n + 2) shFin cs) : ∃ t : Fin, cs = t.enc ∧ t.Ok := by
  obtain ⟨_, _, rfl, _, ⟨tx0, rfl, h0⟩, _, _, rfl, _, ⟨id0, rfl, h1⟩, rfl⟩ := w
  exact ⟨⟨tx0, id0⟩, rfl, ⟨wfI h0, wfU h1⟩⟩
theorem Wf.isFinS {h : Heap} {n : Nat} {x : Cell} (w : Wf h (n + 3) shFinS [x]) : ∃ xs fp, SlR 10 (Fl Fin.enc) h x xs fp ∧ ∀ t, t ∈ xs → t.Ok :=
  SlR.ofWf (fun r hr => by obtain ⟨t, rfl, ht⟩ := Wf.isFin hr.2; exact ⟨t, [], ⟨rfl, rfl⟩, ht⟩) w
theorem Wf.isFinS' {h : Heap} {n : Nat} {a : List Cell} (w : Wf h (n + 3) shFinS a) : ∃ x xs fp, a = [x] ∧ SlR 10 (Fl Fin.enc) h x xs fp ∧ ∀ t, t ∈ xs → t.Ok := by
  have hx : ∃ x, a = [x] := by rcases w with w | ⟨_, _, w, _⟩ <;> exact ⟨_, w⟩
  obtain ⟨x, rfl⟩ := hx
  obtain ⟨xs, fp, v, ok⟩ := Wf.isFinS w
  exact ⟨x, xs, fp, rfl, v, ok⟩
end Go.Proofs.Ytlbagejkjkfkjaa.A
/- What the converters of Fin compute. -/
namespace Go.Proofs.Ytlbagejkjkfkjaa.A
open Go
set_option linter.unusedSimpArgs false
set_option linter.unusedVariables false
section
variable {F : Nat → Option RF} {Z : CallF} {h : Heap} {x y : Cell} {xs ys : List Fin} {fp fq : List Nat}
def Fin.zero : List Cell := [.int .i64 0, .int .u64 0]
theorem toFin_run (hL : Has F tLFin) (p : Fin) (h : Heap) : call F Z 138 [.agg p.enc] h = some (.agg p.enc, h) := by
  rw [call_run F Z (hL.lk (g := 138) rfl) _ _ rfl]
  simp only [Fin.enc, run0, run1, run2, run3, run4, noSlot, memN, RO.dst, lk, drop, forget, number, Nat.reduceBEq, cut?, splice?, builds, List.length_cons, List.length_nil, List.drop_succ_cons, List.drop_zero, List.take_succ_cons, List.take_zero, List.cons_append, List.nil_append, List.append_nil, List.drop_nil, List.take_nil, Nat.reduceAdd, Nat.reduceLeDiff, Nat.zero_add, Nat.add_zero, ↓reduceIte, Bool.not_true, Bool.not_false, decide_true, decide_false, eq_self, bne_self_eq_false, List.getElem?_cons_zero, List.getElem?_cons_succ, decide_eq_true_eq, Bool.false_eq_true, Bool.true_eq_false, reduceCtorEq, Nat.le_refl]
set_option maxHeartbeats 1000000 in
theorem eqFin_run (hL : Has F tLFin) (p q : Fin) (h : Heap) : call F Z 140 [.agg p.enc, .agg q.enc] h = some (.c (.bool (decide (p = q))), h) := by
  rw [call_run F Z (hL.lk (g := 140) rfl) _ _ rfl]
  obtain ⟨tx1, id1⟩ := p
  obtain ⟨tx2, id2⟩ := q
  simp only [Fin.enc, run0, run1, run2, run3, run4, noSlot, memN, RO.dst, lk, drop, forget, number, Nat.reduceBEq, cut?, splice?, builds, List.length_cons, List.length_nil, List.drop_succ_cons, List.drop_zero, List.take_succ_cons, List.take_zero, List.cons_append, List.nil_append, List.append_nil, List.drop_nil, List.take_nil, Nat.reduceAdd, Nat.reduceLeDiff, Nat.zero_add, Nat.add_zero, ↓reduceIte, Bool.not_true, Bool.not_false, decide_true, decide_false, eq_self, bne_self_eq_false, List.getElem?_cons_zero, List.getElem?_cons_succ, decide_eq_true_eq, Bool.false_eq_true, Bool.true_eq_false, reduceCtorEq, Nat.le_refl]
  (repeat' ((first | (rw [gF_if]; split) | (rw [condC_if]; split) | (rw [pickR_if]; split)) <;> (rename_i hh; (try simp only [Bool.not_eq_true, decide_eq_true_eq] at hh); simp only [hh, run0, run1, run2, run3, run4, noSlot, memN, RO.dst, lk, drop, forget, number, Nat.reduceBEq, cut?, splice?, builds, List.length_cons, List.length_nil, List.drop_succ_cons, List.drop_zero, List.take_succ_cons, List.take_zero, List.cons_append, List.nil_append, List.append_nil, List.drop_nil, List.take_nil, Nat.reduceAdd, Nat.reduceLeDiff, Nat.zero_add, Nat.add_zero, ↓reduceIte, Bool.not_true, Bool.not_false, decide_true, decide_false, eq_self, bne_self_eq_false, List.getElem?_cons_zero, List.getElem?_cons_succ, decide_eq_true_eq, Bool.false_eq_true, Bool.true_eq_false, reduceCtorEq, Nat.le_refl]))) <;> refine fin_bool ?_ <;> simp_all <;> (try (intros; omega))
theorem szFinS_run (hL : Has F tLFin) (w : SlR 10 (Fl Fin.enc) h x xs fp) (left : Int) (h1 : 0 ≤ left) (h2 : left ≤ 1048576) : call F Z 129 [.c x, .c (.int .i64 left)] h = some (.c (.int .i64 (if left - xs.length < 0 then -1 else left - xs.length)), h) := by
  have := w.le2
  rw [call_run F Z (hL.lk (g := 129) rfl) _ _ rfl]
  simp only [run0, run1, run2, run3, run4, noSlot, memN, RO.dst, lk, drop, forget, number, Nat.reduceBEq, cut?, splice?, builds, List.length_cons, List.length_nil, List.drop_succ_cons, List.drop_zero, List.take_succ_cons, List.take_zero, List.cons_append, List.nil_append, List.append_nil, List.drop_nil, List.take_nil, Nat.reduceAdd, Nat.reduceLeDiff, Nat.zero_add, Nat.add_zero, ↓reduceIte, Bool.not_true, Bool.not_false, decide_true, decide_false, eq_self, bne_self_eq_false, List.getElem?_cons_zero, List.getElem?_cons_succ, decide_eq_true_eq, Bool.false_eq_true, Bool.true_eq_false, reduceCtorEq, Nat.le_refl, w.len, wrapI (left - xs.length) (by omega) (by omega)]
  (repeat' ((first | (rw [gF_if]; split) | (rw [condC_if]; split) | (rw [pickR_if]; split)) <;> (rename_i hh; (try simp only [Bool.not_eq_true, decide_eq_true_eq] at hh); simp only [hh, run0, run1, run2, run3, run4, noSlot, memN, RO.dst, lk, drop, forget, number, Nat.reduceBEq, cut?, splice?, builds, List.length_cons, List.length_nil, List.drop_succ_cons, List.drop_zero, List.take_succ_cons, List.take_zero, List.cons_append, List.nil_append, List.append_nil, List.drop_nil, List.take_nil, Nat.reduceAdd, Nat.reduceLeDiff, Nat.zero_add, Nat.add_zero, ↓reduceIte, Bool.not_true, Bool.not_false, decide_true, decide_false, eq_self, bne_self_eq_false, List.getElem?_cons_zero, List.getElem?_cons_succ, decide_eq_true_eq, Bool.false_eq_true, Bool.true_eq_false, reduceCtorEq, Nat.le_refl]))) <;> simp_all
theorem szFinS_c (hL : Has F tLFin) (w : SlR 10 (Fl Fin.enc) h x xs fp) (left : Int) (h1 : 0 ≤ left) (h2 : left ≤ 1048576) : ∃ r, call F Z 129 [.c x, .c (.int .i64 left)] h = some (.c (.int .i64 r), h) ∧ r ≤ left ∧ (0 ≤ r → xs.length ≤ 1048576) :=
  ⟨_, szFinS_run hL w left h1 h2, by split <;> omega, by split <;> omega⟩
theorem toFin_lit (hL : Has F tLFin) (tx1 id1 : Int) (h : Heap) : call F Z 138 [.agg [.int .i64 tx1, .int .u64 id1]] h = some (.agg [.int .i64 tx1, .int .u64 id1], h) := toFin_run hL ⟨tx1, id1⟩ h
theorem eqFin_lit (hL : Has F tLFin) (tx1 id1 tx2 id2 : Int) (h : Heap) : call F Z 140 [.agg [.int .i64 tx1, .int .u64 id1], .agg [.int .i64 tx2, .int .u64 id2]] h = some (.c (.bool (decide ((⟨tx1, id1⟩ : Fin) = ⟨tx2, id2⟩))), h) := eqFin_run hL ⟨tx1, id1⟩ ⟨tx2, id2⟩ h
theorem toFinS_run (hL : Has F tLFin) (hf : h.floor ≤ h.next) (w : SlR 10 (Fl Fin.enc) h x xs fp) (hn : xs.length ≤ 1048576) : call F Z 131 [.c x] h = some (.c (.sl 9 h.next 0 xs.length), h.push (xs.map Fin.enc)) := by
  rw [call_run F Z (hL.lk (g := 131) rfl) _ _ rfl]
  simp only [run0, run1, run2, run3, run4, noSlot, memN, RO.dst, lk, drop, forget, number, Nat.reduceBEq, cut?, splice?, builds, List.length_cons, List.length_nil, List.drop_succ_cons, List.drop_zero, List.take_succ_cons, List.take_zero, List.cons_append, List.nil_append, List.append_nil, List.drop_nil, List.take_nil, Nat.reduceAdd, Nat.reduceLeDiff, Nat.zero_add, Nat.add_zero, ↓reduceIte, Bool.not_true, Bool.not_false, decide_true, decide_false, eq_self, bne_self_eq_false, List.getElem?_cons_zero, List.getElem?_cons_succ, decide_eq_true_eq, Bool.false_eq_true, Bool.true_eq_false, reduceCtorEq, Nat.le_refl, w.len]
  rw [if_pos (by omega)]
  simp only [run0, run1, run2, run3, run4, noSlot, memN, RO.dst, lk, drop, forget, number, Nat.reduceBEq, cut?, splice?, builds, List.length_cons, List.length_nil, List.drop_succ_cons, List.drop_zero, List.take_succ_cons, List.take_zero, List.cons_append, List.nil_append, List.append_nil, List.drop_nil, List.take_nil, Nat.reduceAdd, Nat.reduceLeDiff, Nat.zero_add, Nat.add_zero, ↓reduceIte, Bool.not_true, Bool.not_false, decide_true, decide_false, eq_self, bne_self_eq_false, List.getElem?_cons_zero, List.getElem?_cons_succ, decide_eq_true_eq, Bool.false_eq_true, Bool.true_eq_false, reduceCtorEq, Nat.le_refl, Int.toNat_natCast]
  have key : loop F Z [0, 3, 4] r131L0 ⟨[(0, .c x), (3, .c (.sl 9 h.next 0 xs.length)), (4, .c (.int .i64 (0 : Nat)))], [], [], h.push (fillR Fin.enc Fin.zero xs 0)⟩ = loop F Z [0, 3, 4] r131L0 ⟨[(0, .c x), (3, .c (.sl 9 h.next 0 xs.length)), (4, .c (.int .i64 (xs.length : Nat)))], [], [], h.push (fillR Fin.enc Fin.zero xs xs.length)⟩ :=
    loop_goesF xs.length (fun i => ⟨[(0, .c x), (3, .c (.sl 9 h.next 0 xs.length)), (4, .c (.int .i64 (i : Nat)))], [], [], h.push (fillR Fin.enc Fin.zero xs i)⟩) fun i hi => by
      have w' := w.mono (Fl.ok _) (HExt.push h (fillR Fin.enc Fin.zero xs i))
      have hlt : (i : Int) < xs.length := by omega
      have h0 : (0 : Int) ≤ i := by omega
      rw [loop_run]
      simp only [r131L0, run0, run1, run2, run3, run4, noSlot, memN, RO.dst, lk, drop, forget, number, Nat.reduceBEq, cut?, splice?, builds, List.length_cons, List.length_nil, List.drop_succ_cons, List.drop_zero, List.take_succ_cons, List.take_zero, List.cons_append, List.nil_append, List.append_nil, List.drop_nil, List.take_nil, Nat.reduceAdd, Nat.reduceLeDiff, Nat.zero_add, Nat.add_zero, ↓reduceIte, Bool.not_true, Bool.not_false, decide_true, decide_false, eq_self, bne_self_eq_false, List.getElem?_cons_zero, List.getElem?_cons_succ, decide_eq_true_eq, Bool.false_eq_true, Bool.true_eq_false, reduceCtorEq, Nat.le_refl, w.len, hlt, w.idx hi, w'.load hi, Fin.len, Fin.tak, toFin_run hL, h0, and_self, Int.toNat_natCast, storeP_push hf (fillR_get Fin.enc Fin.zero xs hi) (Fin.len xs[i]), wrapS i (by omega)]
      rw [← fillR_set Fin.enc Fin.zero xs hi]
  rw [fillR_0] at key
  rw [fillR_n] at key
  rw [show ((0 : Nat) : Int) = 0 from rfl] at key
  simp only [Fin.zero] at key
  rw [key, loop_run]
  have hlt : ¬ (xs.length : Int) < xs.length := by omega
  simp only [r131L0, run0, run1, run2, run3, run4, noSlot, memN, RO.dst, lk, drop, forget, number, Nat.reduceBEq, cut?, splice?, builds, List.length_cons, List.length_nil, List.drop_succ_cons, List.drop_zero, List.take_succ_cons, List.take_zero, List.cons_append, List.nil_append, List.append_nil, List.drop_nil, List.take_nil, Nat.reduceAdd, Nat.reduceLeDiff, Nat.zero_add, Nat.add_zero, ↓reduceIte, Bool.not_true, Bool.not_false, decide_true, decide_false, eq_self, bne_self_eq_false, List.getElem?_cons_zero, List.getElem?_cons_succ, decide_eq_true_eq, Bool.false_eq_true, Bool.true_eq_false, reduceCtorEq, Nat.le_refl, w.len, hlt]
theorem toFinS_c (hL : Has F tLFin) (hf : h.floor ≤ h.next) (w : SlR 10 (Fl Fin.enc) h x xs fp) (hn : xs.length ≤ 1048576) : ∃ y h' fq, call F Z 131 [.c x] h = some (.c y, h') ∧ On h h' ∧ SlR 9 (Fl Fin.enc) h' y xs fq ∧ Fre h fq :=
  ⟨_, _, _, toFinS_run hL hf w hn, On.push _ _, SlR.ofFlat w.le (push_get _ _) (by rw [push_next]; omega), Fre.one h⟩
theorem eqFinS_run (hL : Has F tLFin) (w : SlR 9 (Fl Fin.enc) h x xs fp) (v : SlR 9 (Fl Fin.enc) h y ys fq) : call F Z 134 [.c x, .c y] h = some (.c (.bool (decide (xs = ys))), h) := by
  have hw := w.le2
  have hv := v.le2
  rw [call_run F Z (hL.lk (g := 134) rfl) _ _ rfl]
  simp only [run0, run1, run2, run3, run4, noSlot, memN, RO.dst, lk, drop, forget, number, Nat.reduceBEq, cut?, splice?, builds, List.length_cons, List.length_nil, List.drop_succ_cons, List.drop_zero, List.take_succ_cons, List.take_zero, List.cons_append, List.nil_append, List.append_nil, List.drop_nil, List.take_nil, Nat.reduceAdd, Nat.reduceLeDiff, Nat.zero_add, Nat.add_zero, ↓reduceIte, Bool.not_true, Bool.not_false, decide_true, decide_false, eq_self, bne_self_eq_false, List.getElem?_cons_zero, List.getElem?_cons_succ, decide_eq_true_eq, Bool.false_eq_true, Bool.true_eq_false, reduceCtorEq, Nat.le_refl, w.len, v.len]
  rw [condC_if]
  split
  · rename_i hne
    have : xs ≠ ys := by rintro rfl; simp at hne
    simp only [run0, run1, run2, run3, run4, noSlot, memN, RO.dst, lk, drop, forget, number, Nat.reduceBEq, cut?, splice?, builds, List.length_cons, List.length_nil, List.drop_succ_cons, List.drop_zero, List.take_succ_cons, List.take_zero, List.cons_append, List.nil_append, List.append_nil, List.drop_nil, List.take_nil, Nat.reduceAdd, Nat.reduceLeDiff, Nat.zero_add, Nat.add_zero, ↓reduceIte, Bool.not_true, Bool.not_false, decide_true, decide_false, eq_self, bne_self_eq_false, List.getElem?_cons_zero, List.getElem?_cons_succ, decide_eq_true_eq, Bool.false_eq_true, Bool.true_eq_false, reduceCtorEq, Nat.le_refl, this]
  · rename_i he
    have he : xs.length = ys.length := by simp at he; omega
    simp only [run0, run1, run2, run3, run4, noSlot, memN, RO.dst, lk, drop, forget, number, Nat.reduceBEq, cut?, splice?, builds, List.length_cons, List.length_nil, List.drop_succ_cons, List.drop_zero, List.take_succ_cons, List.take_zero, List.cons_append, List.nil_append, List.append_nil, List.drop_nil, List.take_nil, Nat.reduceAdd, Nat.reduceLeDiff, Nat.zero_add, Nat.add_zero, ↓reduceIte, Bool.not_true, Bool.not_false, decide_true, decide_false, eq_self, bne_self_eq_false, List.getElem?_cons_zero, List.getElem?_cons_succ, decide_eq_true_eq, Bool.false_eq_true, Bool.true_eq_false, reduceCtorEq, Nat.le_refl]
    have key := loop_allN (F := F) (Z := Z) (live := [0, 1, 5]) (b := r134L0) xs.length (fun i => ⟨[(0, .c x), (1, .c y), (5, .c (.int .i64 (i : Nat)))], [], [], h⟩) (fun i => decide (xs[i]? = ys[i]?)) (fun s => lk s.env 4 = some (.c (.bool false)) ∧ s.hp = h) fun i hi => by
      have hi' : i < ys.length := by omega
      have hlt : (i : Int) < xs.length := by omega
      rw [loop_run]
      simp only [r134L0, run0, run1, run2, run3, run4, noSlot, memN, RO.dst, lk, drop, forget, number, Nat.reduceBEq, cut?, splice?, builds, List.length_cons, List.length_nil, List.drop_succ_cons, List.drop_zero, List.take_succ_cons, List.take_zero, List.cons_append, List.nil_append, List.append_nil, List.drop_nil, List.take_nil, Nat.reduceAdd, Nat.reduceLeDiff, Nat.zero_add, Nat.add_zero, ↓reduceIte, Bool.not_true, Bool.not_false, decide_true, decide_false, eq_self, bne_self_eq_false, List.getElem?_cons_zero, List.getElem?_cons_succ, decide_eq_true_eq, Bool.false_eq_true, Bool.true_eq_false, reduceCtorEq, Nat.le_refl, w.len, hlt, w.idx hi, v.idx hi', w.load hi, v.load hi', Fin.len, Fin.tak, eqFin_run hL, wrapS i (by omega)]
      rw [List.getElem?_eq_getElem hi, List.getElem?_eq_getElem hi']
      (repeat' ((first | (rw [gF_if]; split) | (rw [condC_if]; split) | (rw [pickR_if]; split)) <;> (rename_i hh; (try simp only [Bool.not_eq_true, decide_eq_true_eq] at hh); simp only [hh, run0, run1, run2, run3, run4, noSlot, memN, RO.dst, lk, drop, forget, number, Nat.reduceBEq, cut?, splice?, builds, List.length_cons, List.length_nil, List.drop_succ_cons, List.drop_zero, List.take_succ_cons, List.take_zero, List.cons_append, List.nil_append, List.append_nil, List.drop_nil, List.take_nil, Nat.reduceAdd, Nat.reduceLeDiff, Nat.zero_add, Nat.add_zero, ↓reduceIte, Bool.not_true, Bool.not_false, decide_true, decide_false, eq_self, bne_self_eq_false, List.getElem?_cons_zero, List.getElem?_cons_succ, decide_eq_true_eq, Bool.false_eq_true, Bool.true_eq_false, reduceCtorEq, Nat.le_refl, wrapS i (by omega)])))
      · exact .inr ⟨by simp_all, _, rfl, rfl, rfl⟩
      · exact .inl ⟨by simp_all, rfl⟩
    rw [all_same he] at key
    rcases key with ⟨k1, k2⟩ | ⟨k1, s, k2, k3, k4⟩
    · simp only [show ((0 : Nat) : Int) = 0 from rfl] at k2
      rw [k2, loop_run]
      have hlt : ¬ (xs.length : Int) < xs.length := by omega
      simp only [r134L0, run0, run1, run2, run3, run4, noSlot, memN, RO.dst, lk, drop, forget, number, Nat.reduceBEq, cut?, splice?, builds, List.length_cons, List.length_nil, List.drop_succ_cons, List.drop_zero, List.take_succ_cons, List.take_zero, List.cons_append, List.nil_append, List.append_nil, List.drop_nil, List.take_nil, Nat.reduceAdd, Nat.reduceLeDiff, Nat.zero_add, Nat.add_zero, ↓reduceIte, Bool.not_true, Bool.not_false, decide_true, decide_false, eq_self, bne_self_eq_false, List.getElem?_cons_zero, List.getElem?_cons_succ, decide_eq_true_eq, Bool.false_eq_true, Bool.true_eq_false, reduceCtorEq, Nat.le_refl, w.len, hlt, k1]
    · simp only [show ((0 : Nat) : Int) = 0 from rfl] at k2
      rw [k2]
      simp only [run0, run1, run2, run3, run4, noSlot, memN, RO.dst, lk, drop, forget, number, Nat.reduceBEq, cut?, splice?, builds, List.length_cons, List.length_nil, List.drop_succ_cons, List.drop_zero, List.take_succ_cons, List.take_zero, List.cons_append, List.nil_append, List.append_nil, List.drop_nil, List.take_nil, Nat.reduceAdd, Nat.reduceLeDiff, Nat.zero_add, Nat.add_zero, ↓reduceIte, Bool.not_true, Bool.not_false, decide_true, decide_false, eq_self, bne_self_eq_false, List.getElem?_cons_zero, List.getElem?_cons_succ, decide_eq_true_eq, Bool.false_eq_true, Bool.true_eq_false, reduceCtorEq, Nat.le_refl, k3, k4, k1]
/-- What is written to mark one. -/
def Fin.mk_ (k : Int) : Fin := ⟨k, k + 1⟩
def Fin.marks (n : Nat) (k : Int) : List Fin := (List.range n).map fun i : Nat => Fin.mk_ (k + 2 * (i : Int))
theorem Fin.marks_len (n : Nat) (k : Int) : (Fin.marks n k).length = n := by simp [Fin.marks]
set_option maxHeartbeats 1000000 in
theorem markFinS_run (hL : Has F tLFin) (w : SlR 9 (Fl Fin.enc) h x xs fp) (hlo : ∀ id, id ∈ fp → h.floor ≤ id) (k : Int) (h1 : 0 ≤ k) (h2 : k + 2 * xs.length ≤ 4611686018427387904) :
    ∃ h', call F Z 232 [.c x, .c (.int .i64 k)] h = some (.c (.int .i64 (k + 2 * xs.length)), h') ∧ Mk h h' fp ∧ SlR 9 (Fl Fin.enc) h' x (Fin.marks xs.length k) fp := by
  have hle := w.le2
  have hlm := Fin.marks_len xs.length k
  rw [call_run F Z (hL.lk (g := 232) rfl) _ _ rfl]
  simp only [run0, run1, run2, run3, run4, noSlot, memN, RO.dst, lk, drop, forget, number, Nat.reduceBEq, cut?, splice?, builds, List.length_cons, List.length_nil, List.drop_succ_cons, List.drop_zero, List.take_succ_cons, List.take_zero, List.cons_append, List.nil_append, List.append_nil, List.drop_nil, List.take_nil, Nat.reduceAdd, Nat.reduceLeDiff, Nat.zero_add, Nat.add_zero, ↓reduceIte, Bool.not_true, Bool.not_false, decide_true, decide_false, eq_self, bne_self_eq_false, List.getElem?_cons_zero, List.getElem?_cons_succ, decide_eq_true_eq, Bool.false_eq_true, Bool.true_eq_false, reduceCtorEq, Nat.le_refl]
  rcases w.flat with ⟨rfl, rfl, rfl⟩ | ⟨hx, hg, hn, rfl⟩
  · rw [loop_run]
    simp only [r232L0, run0, run1, run2, run3, run4, noSlot, memN, RO.dst, lk, drop, forget, number, Nat.reduceBEq, cut?, splice?, builds, List.length_cons, List.length_nil, List.drop_succ_cons, List.drop_zero, List.take_succ_cons, List.take_zero, List.cons_append, List.nil_append, List.append_nil, List.drop_nil, List.take_nil, Nat.reduceAdd, Nat.reduceLeDiff, Nat.zero_add, Nat.add_zero, ↓reduceIte, Bool.not_true, Bool.not_false, decide_true, decide_false, eq_self, bne_self_eq_false, List.getElem?_cons_zero, List.getElem?_cons_succ, decide_eq_true_eq, Bool.false_eq_true, Bool.true_eq_false, reduceCtorEq, Nat.le_refl, show ¬ ((0 : Int) < 0) from by omega]
    exact ⟨h, by simp, Mk.refl _ _, by simpa [Fin.marks] using w⟩
  · have hfl : h.floor ≤ x.sid := hlo _ (by simp)
    have key : loop F Z [0, 1, 5] r232L0 ⟨[(0, .c x), (1, .c (.int .i64 (k + 2 * (0 : Nat)))), (5, .c (.int .i64 (0 : Nat)))], [], [], h.put x.sid (mixR Fin.enc (Fin.marks xs.length k) xs 0)⟩ = loop F Z [0, 1, 5] r232L0 ⟨[(0, .c x), (1, .c (.int .i64 (k + 2 * (xs.length : Nat)))), (5, .c (.int .i64 (xs.length : Nat)))], [], [], h.put x.sid (mixR Fin.enc (Fin.marks xs.length k) xs xs.length)⟩ :=
      loop_goesF xs.length (fun i => ⟨[(0, .c x), (1, .c (.int .i64 (k + 2 * (i : Nat)))), (5, .c (.int .i64 (i : Nat)))], [], [], h.put x.sid (mixR Fin.enc (Fin.marks xs.length k) xs i)⟩) fun i hi => by
        have hlt : (i : Int) < xs.length := by omega
        have hi2 : i < (mixR Fin.enc (Fin.marks xs.length k) xs i).length := by rw [mixR_len _ hlm]; exact hi
        have hms : (Fin.marks xs.length k)[i]'(by omega) = Fin.mk_ (k + 2 * i) := by simp [Fin.marks]
        have hset := mixR_set Fin.enc hlm hi
        rw [hms] at hset
        have hput := storeP_put (h := h) hfl hi2
        rw [← mixR_cur Fin.enc hlm hi, ← hset, loop_run]
        simp (disch := omega) only [r232L0, run0, run1, run2, run3, run4, noSlot, memN, RO.dst, lk, drop, forget, number, Nat.reduceBEq, cut?, splice?, builds, List.length_cons, List.length_nil, List.drop_succ_cons, List.drop_zero, List.take_succ_cons, List.take_zero, List.cons_append, List.nil_append, List.append_nil, List.drop_nil, List.take_nil, Nat.reduceAdd, Nat.reduceLeDiff, Nat.zero_add, Nat.add_zero, ↓reduceIte, Bool.not_true, Bool.not_false, decide_true, decide_false, eq_self, bne_self_eq_false, List.getElem?_cons_zero, List.getElem?_cons_succ, decide_eq_true_eq, Bool.false_eq_true, Bool.true_eq_false, reduceCtorEq, Nat.le_refl, w.len, hlt, w.idx hi, hput, putM_s, wrapI1, wrapU1, Fin.enc, Int.reduceEq, Fin.mk_]
        rw [show k + 2 * ((i : Nat) : Int) + 1 + 1 = k + 2 * ((i + 1 : Nat) : Int) from by omega, show ((i : Nat) : Int) + 1 = ((i + 1 : Nat) : Int) from rfl]
    rw [mixR_0, put_same hg, mixR_n _ hlm] at key
    simp only [show ((0 : Nat) : Int) = 0 from rfl, Int.mul_zero, Int.add_zero] at key
    rw [key, loop_run]
    have hlt : ¬ (xs.length : Int) < xs.length := by omega
    simp only [r232L0, run0, run1, run2, run3, run4, noSlot, memN, RO.dst, lk, drop, forget, number, Nat.reduceBEq, cut?, splice?, builds, List.length_cons, List.length_nil, List.drop_succ_cons, List.drop_zero, List.take_succ_cons, List.take_zero, List.cons_append, List.nil_append, List.append_nil, List.drop_nil, List.take_nil, Nat.reduceAdd, Nat.reduceLeDiff, Nat.zero_add, Nat.add_zero, ↓reduceIte, Bool.not_true, Bool.not_false, decide_true, decide_false, eq_self, bne_self_eq_false, List.getElem?_cons_zero, List.getElem?_cons_succ, decide_eq_true_eq, Bool.false_eq_true, Bool.true_eq_false, reduceCtorEq, Nat.le_refl, w.len, hlt]
    refine ⟨_, rfl, Mk.put _ _ _, ?_⟩
    have := SlR.ofFlat (tag := 9) (h := h.put x.sid ((Fin.marks xs.length k).map Fin.enc)) (enc := Fin.enc) (xs := Fin.marks xs.length k) (id := x.sid) (by rw [hlm]; exact w.le) (by simp [Heap.put]) hn
    rw [hlm, ← hx] at this
    exact this
set_option maxHeartbeats 1000000 in
theorem heldFinS_run (hL : Has F tLFin) {n : Nat} {k : Int} (w : SlR 9 (Fl Fin.enc) h x (Fin.marks n k) fp) (h1 : 0 ≤ k) (h2 : k + 2 * n ≤ 4611686018427387904) :
    call F Z 234 [.c x, .c (.int .i64 k)] h = some (.c (.int .i64 (k + 2 * n)), h) := by
  have hle := w.le2
  have hwl := w.len
  rw [Fin.marks_len] at hle hwl
  rw [call_run F Z (hL.lk (g := 234) rfl) _ _ rfl]
  simp only [run0, run1, run2, run3, run4, noSlot, memN, RO.dst, lk, drop, forget, number, Nat.reduceBEq, cut?, splice?, builds, List.length_cons, List.length_nil, List.drop_succ_cons, List.drop_zero, List.take_succ_cons, List.take_zero, List.cons_append, List.nil_append, List.append_nil, List.drop_nil, List.take_nil, Nat.reduceAdd, Nat.reduceLeDiff, Nat.zero_add, Nat.add_zero, ↓reduceIte, Bool.not_true, Bool.not_false, decide_true, decide_false, eq_self, bne_self_eq_false, List.getElem?_cons_zero, List.getElem?_cons_succ, decide_eq_true_eq, Bool.false_eq_true, Bool.true_eq_false, reduceCtorEq, Nat.le_refl]
  have key : loop F Z [0, 1, 5] r234L0 ⟨[(0, .c x), (1, .c (.int .i64 (k + 2 * (0 : Nat)))), (5, .c (.int .i64 (0 : Nat)))], [], [], h⟩ = loop F Z [0, 1, 5] r234L0 ⟨[(0, .c x), (1, .c (.int .i64 (k + 2 * (n : Nat)))), (5, .c (.int .i64 (n : Nat)))], [], [], h⟩ :=
    loop_goesF n (fun i => ⟨[(0, .c x), (1, .c (.int .i64 (k + 2 * (i : Nat)))), (5, .c (.int .i64 (i : Nat)))], [], [], h⟩) fun i hi0 => by
      have hi : i < (Fin.marks n k).length := by rw [Fin.marks_len]; exact hi0
      have hlt : (i : Int) < n := by omega
      have hms : (Fin.marks n k)[i] = Fin.mk_ (k + 2 * i) := by simp [Fin.marks]
      have hld := w.load hi
      rw [hms] at hld
      rw [loop_run]
      simp (disch := omega) only [r234L0, run0, run1, run2, run3, run4, noSlot, memN, RO.dst, lk, drop, forget, number, Nat.reduceBEq, cut?, splice?, builds, List.length_cons, List.length_nil, List.drop_succ_cons, List.drop_zero, List.take_succ_cons, List.take_zero, List.cons_append, List.nil_append, List.append_nil, List.drop_nil, List.take_nil, Nat.reduceAdd, Nat.reduceLeDiff, Nat.zero_add, Nat.add_zero, ↓reduceIte, Bool.not_true, Bool.not_false, decide_true, decide_false, eq_self, bne_self_eq_false, List.getElem?_cons_zero, List.getElem?_cons_succ, decide_eq_true_eq, Bool.false_eq_true, Bool.true_eq_false, reduceCtorEq, Nat.le_refl, hwl, hlt, w.idx hi, hld, wrapI1, wrapU1, Fin.enc, Fin.mk_, Int.reduceEq]
      rw [show k + 2 * ((i : Nat) : Int) + 1 + 1 = k + 2 * ((i + 1 : Nat) : Int) from by omega, show ((i : Nat) : Int) + 1 = ((i + 1 : Nat) : Int) from rfl]
  simp only [show ((0 : Nat) : Int) = 0 from rfl, Int.mul_zero, Int.add_zero] at key
  rw [key, loop_run]
  have hlt : ¬ (n : Int) < n := by omega
  simp only [r234L0, run0, run1, run2, run3, run4, noSlot, memN, RO.dst, lk, drop, forget, number, Nat.reduceBEq, cut?, splice?, builds, List.length_cons, List.length_nil, List.drop_succ_cons, List.drop_zero, List.take_succ_cons, List.take_zero, List.cons_append, List.nil_append, List.append_nil, List.drop_nil, List.take_nil, Nat.reduceAdd, Nat.reduceLeDiff, Nat.zero_add, Nat.add_zero, ↓reduceIte, Bool.not_true, Bool.not_false, decide_true, decide_false, eq_self, bne_self_eq_false, List.getElem?_cons_zero, List.getElem?_cons_succ, decide_eq_true_eq, Bool.false_eq_true, Bool.true_eq_false, reduceCtorEq, Nat.le_refl, hwl, hlt]
end
end Go.Proofs.Ytlbagejkjkfkjaa.A
/- Slices that are built by appending: raw rows, made behind a heap. -/
namespace Go.Proofs.Ytlbagejkjkfkjaa.A
open Go
set_option linter.unusedSimpArgs false
set_option linter.unusedVariables false

/-- A cell shows rows that were made behind h0. -/
structure Acc (tag : Nat) (h0 h : Heap) (x : Cell) (rows : List (List Cell)) : Prop where
  on : On h0 h
  sh : ∃ fp, SlR tag (Fl fun r => r) h x rows fp ∧ Fre h0 fp
/-- What append answers, and the heap behind it. -/
def catX (tag : Nat) (h : Heap) (x : Cell) (n : Nat) : Cell := match x with
  | .sl _ _ _ m => .sl tag h.next 0 (m + n)
  | _ => if n = 0 then .nil else .sl tag h.next 0 n
def catH (h : Heap) (x : Cell) (new : List (List Cell)) : Heap := match x with
  | .sl _ id _ _ => (h.kill id).push (((h.get id).getD []) ++ new)
  | _ => if new.length = 0 then h else h.push new
theorem Fre.app {h h1 : Heap} {p q : List Nat} (f : Fre h p) (hl : ∀ id, id ∈ p → id < h1.next) (f1 : Fre h1 q) (hn : h.next ≤ h1.next) : Fre h (p ++ q) :=
  ⟨fun id hid => by
    rcases List.mem_append.1 hid with hid | hid
    · exact f.lo id hid
    · have := f1.lo id hid
      omega, List.nodup_append.2 ⟨f.nd, f1.nd, fun a ha b hb => by
        have := hl a ha
        have := f1.lo b hb
        omega⟩⟩
section
variable {tag : Nat} {h0 h : Heap} {x y : Cell} {rows new : List (List Cell)}
theorem Acc.nil (tag : Nat) (h : Heap) : Acc tag h h .nil [] := ⟨On.refl h, [], SlR.nil _ _ _, Fre.nil h⟩
theorem Acc.none (o : On h0 h) : Acc tag h0 h .nil [] := ⟨o, [], SlR.nil _ _ _, Fre.nil h0⟩
theorem Fre.at {h0 h : Heap} (hn : h0.next ≤ h.next) : Fre h0 [h.next] := ⟨fun id hid => by simp at hid; omega, by simp⟩
theorem Acc.lit (o : On h0 h) (rows : List (List Cell)) (hl : rows.length ≤ 140737488355328) : Acc tag h0 (h.push rows) (.sl tag h.next 0 rows.length) rows :=
  ⟨o.trans (On.push h rows), [h.next], SlR.ofFlat (enc := fun r => r) (by unfold maxLen; omega) (by rw [push_get]; simp) (by rw [push_next]; omega), Fre.at o.ext.1⟩
theorem Acc.lit0 (o : On h0 h) : Acc tag h0 (h.push []) (.sl tag h.next 0 0) [] := Acc.lit o [] (by simp)
theorem Acc.push (a : Acc tag h0 h x rows) (r : List (List Cell)) : Acc tag h0 (h.push r) x rows := by
  obtain ⟨o, fp, w, f⟩ := a
  exact ⟨o.trans (On.push h r), fp, w.on (Fl.ok _) (On.push h r), f⟩
theorem Acc.go {h' : Heap} (a : Acc tag h0 h x rows) (o' : On h h') : Acc tag h0 h' x rows := by
  obtain ⟨o, fp, w, f⟩ := a
  exact ⟨o.trans o', fp, w.on (Fl.ok _) o', f⟩
theorem Acc.cat_eq (a : Acc tag h0 h x rows) (hf : h0.floor ≤ h0.next) {bytes : Nat} (hy : A.isTag tag y = true) (hr : rowsOf h y = some new) (hb : (rows.length + new.length) * bytes ≤ 140737488355328) :
    appF h tag bytes x y = some (catX tag h x new.length, catH h x new) := by
  obtain ⟨o, fp, w, f⟩ := a
  rw [appF, if_pos hy, hr]
  simp only [Option.bind_some]
  rcases w.flat with ⟨rfl, rfl, rfl⟩ | ⟨hx, hg, hn, rfl⟩
  · simp only [List.length_nil, Nat.zero_add] at hb
    simp only [catX, catH]
    split
    · rfl
    · simp [hb]
  · have hfl : h.floor ≤ x.sid := by rw [o.fl]; exact Nat.le_trans hf (f.lo _ (by simp))
    rw [hx]
    simp only [Cell.sid, catX, catH] at hg hfl hb ⊢
    simp only [hg, Option.bind_some, List.length_map]
    simp [hfl, hb]
theorem Acc.cat (a : Acc tag h0 h x rows) (hf : h0.floor ≤ h0.next) (hl : rows.length + new.length ≤ 140737488355328) : Acc tag h0 (catH h x new) (catX tag h x new.length) (rows ++ new) := by
  obtain ⟨o, fp, w, f⟩ := a
  rcases w.flat with ⟨rfl, rfl, rfl⟩ | ⟨hx, hg, hn, rfl⟩
  · simp only [catX, catH]
    split
    · rename_i h0'
      have : new = [] := List.eq_nil_of_length_eq_zero h0'
      subst this
      exact Acc.none o
    · simp only [List.nil_append]
      exact Acc.lit o new (by simp at hl; omega)
  · have hlo : h0.next ≤ x.sid := f.lo _ (by simp)
    have o1 : On h0 (h.kill x.sid) := ⟨⟨o.ext.1, fun id hid => by
      simp only [Heap.kill]
      rw [if_neg (by omega)]
      exact o.ext.2 id hid⟩, o.fl⟩
    rw [hx] at o1 ⊢
    simp only [Cell.sid, catX, catH] at hg o1 ⊢
    simp only [hg, Option.getD_some, List.map_id_fun', id]
    have := Acc.lit (tag := tag) o1 (rows ++ new) (by simpa using hl)
    rw [List.length_append] at this
    exact this
/-- One element, laid and appended. -/
theorem Acc.one_eq (a : Acc tag h0 h x rows) (hf : h0.floor ≤ h0.next) {bytes : Nat} (hb : (rows.length + 1) * bytes ≤ 140737488355328) (row : List Cell) :
    appF (h.push [row]) tag bytes x (.sl tag h.next 0 1) = some (catX tag (h.push [row]) x 1, catH (h.push [row]) x [row]) :=
  (a.push [row]).cat_eq (y := .sl tag h.next 0 1) (new := [row]) hf (by simp [A.isTag]) (by simp [rowsOf, push_get]) hb
theorem Acc.one (a : Acc tag h0 h x rows) (hf : h0.floor ≤ h0.next) (hl : rows.length + 1 ≤ 140737488355328) (row : List Cell) : Acc tag h0 (catH (h.push [row]) x [row]) (catX tag (h.push [row]) x 1) (rows ++ [row]) :=
  (a.push [row]).cat hf (new := [row]) hl
theorem SlR.ofRaw {α : Type} {enc : α → List Cell} {xs : List α} {fp : List Nat} (w : SlR tag (Fl fun r => r) h x (xs.map enc) fp) : SlR tag (Fl enc) h x xs fp := by
  have hl := w.le
  rw [List.length_map] at hl
  rcases w.flat with ⟨rfl, h2, rfl⟩ | ⟨hx, hg, hn, rfl⟩
  · have : xs = [] := List.map_eq_nil_iff.1 h2
    subst this
    exact SlR.nil _ _ _
  · rw [List.length_map] at hx
    rw [hx]
    exact SlR.ofFlat hl (by rw [hg]; simp) hn
theorem Acc.flat {α : Type} {enc : α → List Cell} {xs : List α} (a : Acc tag h0 h x (xs.map enc)) : On h0 h ∧ ∃ fp, SlR tag (Fl enc) h x xs fp ∧ Fre h0 fp := by
  obtain ⟨o, fp, w, f⟩ := a
  exact ⟨o, fp, w.ofRaw, f⟩
end
end Go.Proofs.Ytlbagejkjkfkjaa.A
/- Loops that append. -/
namespace Go.Proofs.Ytlbagejkjkfkjaa.A
open Go
set_option linter.unusedSimpArgs false
set_option linter.unusedVariables false
theorem flatMap_le {α β : Type} (g : α → List β) (hg : ∀ a, (g a).length ≤ 1) : ∀ xs : List α, (xs.flatMap g).length ≤ xs.length
  | [] => by simp
  | a :: r => by
    rw [List.flatMap_cons, List.length_append, List.length_cons]
    have := hg a
    have := flatMap_le g hg r
    omega
/-- One turn goes on, or returns; the run stands here once. -/
def Step2 (r : Option (Ex × St)) (J Q : St → Prop) (L : St → Option (Ex × St)) : Prop := (∃ s', J s' ∧ r = L s') ∨ ∃ s', r = some (.ret, s') ∧ Q s'
section
variable {F : Nat → Option RF} {Z : CallF} {live : List Nat} {b : RC}
/-- A loop that appends at most one element at each turn. -/
theorem loop_acc {α : Type} (xs : List α) (g : α → List (List Cell)) (tag : Nat) (h0 : Heap) (st : Nat → Cell → Heap → St) (hg : ∀ a, (g a).length ≤ 1)
    (hs : ∀ i (hi : i < xs.length) y h rows, Acc tag h0 h y rows → rows.length ≤ i → ∃ y' h', Acc tag h0 h' y' (rows ++ g xs[i]) ∧ loop F Z live b (st i y h) = loop F Z live b (st (i + 1) y' h')) {y : Cell} {h : Heap} (a0 : Acc tag h0 h y []) :
    ∃ y' h', Acc tag h0 h' y' (xs.flatMap g) ∧ loop F Z live b (st 0 y h) = loop F Z live b (st xs.length y' h') := by
  have key : ∀ n, n ≤ xs.length → ∃ y' h', Acc tag h0 h' y' ((xs.take n).flatMap g) ∧ ((xs.take n).flatMap g).length ≤ n ∧ loop F Z live b (st 0 y h) = loop F Z live b (st n y' h') := by
    intro n
    induction n with
    | zero => intro _; exact ⟨y, h, by simpa using a0, by simp, rfl⟩
    | succ n ih =>
      intro hn
      obtain ⟨y1, h1, a1, l1, e1⟩ := ih (by omega)
      obtain ⟨y2, h2, a2, e2⟩ := hs n (by omega) y1 h1 _ a1 l1
      have ht : (xs.take (n + 1)).flatMap g = (xs.take n).flatMap g ++ g xs[n] := by
        rw [List.take_add_one, List.getElem?_eq_getElem (by omega), List.flatMap_append]; simp
      refine ⟨y2, h2, by rw [ht]; exact a2, ?_, e1.trans e2⟩
      rw [ht, List.length_append]
      have := hg xs[n]
      omega
  obtain ⟨y', h', a', _, e'⟩ := key xs.length (Nat.le_refl _)
  rw [List.take_length] at a'
  exact ⟨y', h', a', e'⟩
/-- A loop that returns at the first element that fits. -/
theorem loop_find {α : Type} (xs : List α) (p : α → Bool) (st : Nat → St) (Q : Nat → St → Prop) (hs : ∀ i (hi : i < xs.length), Turn (loop F Z live b (st i)) (loop F Z live b (st (i + 1))) (!p xs[i]) (Q i)) :
    (xs.findIdx? p = none ∧ loop F Z live b (st 0) = loop F Z live b (st xs.length)) ∨ ∃ i, xs.findIdx? p = some i ∧ i < xs.length ∧ ∃ s, loop F Z live b (st 0) = some (.ret, s) ∧ Q i s := by
  have key : ∀ n, n ≤ xs.length → ((∀ i (hi : i < xs.length), i < n → p xs[i] = false) ∧ loop F Z live b (st 0) = loop F Z live b (st n)) ∨ ∃ i, xs.findIdx? p = some i ∧ i < xs.length ∧ ∃ s, loop F Z live b (st 0) = some (.ret, s) ∧ Q i s := by
    intro n
    induction n with
    | zero => intro _; exact .inl ⟨fun i hi h => absurd h (Nat.not_lt_zero _), rfl⟩
    | succ n ih =>
      intro hn
      rcases ih (by omega) with ⟨h1, h2⟩ | h
      · rcases hs n (by omega) with ⟨h3, h4⟩ | ⟨h3, s, h4, h5⟩
        · refine .inl ⟨fun i hi hl => ?_, h2.trans h4⟩
          by_cases he : i = n
          · subst he; simpa using h3
          · exact h1 i hi (by omega)
        · refine .inr ⟨n, ?_, by omega, s, h2.trans h4, h5⟩
          rw [List.findIdx?_eq_some_iff_getElem]
          refine ⟨by omega, by simpa using h3, fun j hj => ?_⟩
          simpa using h1 j (by omega) (by omega)
      · exact .inr h
  rcases key xs.length (Nat.le_refl _) with ⟨h1, h2⟩ | h
  · refine .inl ⟨?_, h2⟩
    rw [List.findIdx?_eq_none_iff]
    intro a ha
    obtain ⟨i, hi, rfl⟩ := List.mem_iff_getElem.1 ha
    exact h1 i hi hi
  · exact .inr h
/-- A loop of so many turns, some of which return. -/
theorem loop_rel (n : Nat) (I : Nat → St → Prop) (Q : St → Prop) (hs : ∀ i s, i < n → I i s → Step2 (loop F Z live b s) (I (i + 1)) Q (loop F Z live b)) {s : St} (h0 : I 0 s) :
    (∃ s', I n s' ∧ loop F Z live b s = loop F Z live b s') ∨ ∃ s', loop F Z live b s = some (.ret, s') ∧ Q s' := by
  induction n with
  | zero => exact .inl ⟨s, h0, rfl⟩
  | succ n ih =>
    rcases ih fun i s hi => hs i s (by omega) with ⟨s1, i1, e1⟩ | h
    · rcases hs n s1 (by omega) i1 with ⟨s2, i2, e2⟩ | ⟨s2, e2, q2⟩
      · exact .inl ⟨s2, i2, e1.trans e2⟩
      · exact .inr ⟨s2, e1.trans e2, q2⟩
    · exact .inr h
/-- The place of the first that fits, -1 for none. -/
def findI {α : Type} (p : α → Bool) (xs : List α) : Int := match xs.findIdx? p with
  | some i => (i : Int)
  | none => -1
/-- A loop over a list that carries a value on. -/
theorem loop_fold {α σ : Type} (xs : List α) (step : σ → α → σ) (I : Nat → σ → St → Prop) (hs : ∀ i (hi : i < xs.length) a s, I i a s → ∃ s', I (i + 1) (step a xs[i]) s' ∧ loop F Z live b s = loop F Z live b s') {a : σ} {s : St} (h0 : I 0 a s) :
    ∃ s', I xs.length (xs.foldl step a) s' ∧ loop F Z live b s = loop F Z live b s' := by
  have key : ∀ n, n ≤ xs.length → ∃ s', I n ((xs.take n).foldl step a) s' ∧ loop F Z live b s = loop F Z live b s' := by
    intro n
    induction n with
    | zero => intro _; exact ⟨s, by simpa using h0, rfl⟩
    | succ n ih =>
      intro hn
      obtain ⟨s1, i1, e1⟩ := ih (by omega)
      obtain ⟨s2, i2, e2⟩ := hs n (by omega) _ s1 i1
      refine ⟨s2, ?_, e1.trans e2⟩
      rw [List.take_add_one, List.getElem?_eq_getElem (by omega), List.foldl_append]
      exact i2
  obtain ⟨s', i', e'⟩ := key xs.length (Nat.le_refl _)
  rw [List.take_length] at i'
  exact ⟨s', i', e'⟩
end
end Go.Proofs.Ytlbagejkjkfkjaa.A
/- Calls with the floor raised. -/
namespace Go.Proofs.Ytlbagejkjkfkjaa.A
open Go
set_option linter.unusedSimpArgs false
set_option linter.unusedVariables false
theorem On.quiet {h h' : Heap} (o : On { h with floor := h.next } h') : On h { h' with floor := h.floor } := ⟨⟨o.ext.1, o.ext.2⟩, rfl⟩
theorem On.up (h : Heap) : On h { h with floor := h.floor } := ⟨⟨Nat.le_refl _, fun _ _ => rfl⟩, rfl⟩
theorem SlR.up {α : Type} {R : Rel α} {tag : Nat} {h : Heap} {x : Cell} {xs : List α} {fp : List Nat} (w : SlR tag R h x xs fp) (ok : RelOk R) (n : Nat) : SlR tag R { h with floor := n } x xs fp := w.mv ok (Nat.le_refl _) fun _ _ => rfl
/-- A call with the floor raised, and the heap behind it as one thing. -/
theorem quietly {F : Nat → Option RF} {Z : CallF} {h h' : Heap} {f : Nat} {vs : List V} {r : V} (e : call F Z f vs ⟨h.next, h.next, h.get⟩ = some (r, h')) (o : On ⟨h.next, h.next, h.get⟩ h') :
    ∃ h' g, call F Z f vs ⟨h.next, h.next, h.get⟩ = some (r, h') ∧ Heap.mk h'.next h.floor h'.get = g ∧ On h g := ⟨h', _, e, rfl, ⟨⟨o.ext.1, o.ext.2⟩, rfl⟩⟩
theorem RelOk.up {α : Type} {R : Rel α} (ok : RelOk R) {h : Heap} {cs : List Cell} {a : α} {fp : List Nat} (w : R h cs a fp) (n : Nat) : R ⟨h.next, n, h.get⟩ cs a fp := ok.mv w (Nat.le_refl _) fun _ _ => rfl
end Go.Proofs.Ytlbagejkjkfkjaa.A
/- Fins compared and found: what the library's functions compute at them. -/
namespace Go.Proofs.Ytlbagejkjkfkjaa.A
open Go
set_option linter.unusedSimpArgs false
set_option linter.unusedVariables false
def cmpI (a b : Int) : Int := if a < b then -1 else if b < a then 1 else 0
def orI (a b : Int) : Int := if a = 0 then b else a
def cmpFin (f g : Fin) : Int := orI (cmpI f.tx g.tx) (cmpI f.id g.id)
theorem fin_eqs (a b c d : Int) : eqsR false [.i .i64, .i .u64] (some (.agg [.int .i64 a, .int .u64 b])) (some (.agg [.int .i64 c, .int .u64 d])) = some (.bool (decide ((⟨a, b⟩ : Fin) = ⟨c, d⟩))) := by
  have hc : cellsEq? [.i .i64, .i .u64] [.int .i64 a, .int .u64 b] [.int .i64 c, .int .u64 d] = some (decide ((⟨a, b⟩ : Fin) = ⟨c, d⟩)) := by
    simp only [cellsEq?, eqK, and_self, if_true, Option.bind_some]
    cases h1 : (a == c) <;> cases h2 : (b == d) <;> simp_all
  simp only [eqsR, List.length_cons, List.length_nil, and_self, if_true, hc, Option.bind_some, Bool.false_xor]
section
variable {F : Nat → Option RF} {Z : CallF} {h : Heap} {x : Cell} {xs : List Fin} {fp : List Nat}
theorem Compare_int_run (h1 : Has F tLibcmpCompareint) (h2 : Has F tLibcmpisNaNint) (a b : Int) (h : Heap) : call F Z 273 [.c (.int .i64 a), .c (.int .i64 b)] h = some (.c (.int .i64 (cmpI a b)), h) := by
  have hn : ∀ (a : Int) (h : Heap), call F Z 276 [.c (.int .i64 a)] h = some (.c (.bool false), h) := by
    intro a h
    rw [call_run F Z (h2.lk (g := 276) rfl) _ _ rfl]
    simp only [run0, run1, run2, run3, run4, noSlot, memN, RO.dst, lk, drop, forget, number, Nat.reduceBEq, cut?, splice?, builds, List.length_cons, List.length_nil, List.drop_succ_cons, List.drop_zero, List.take_succ_cons, List.take_zero, List.cons_append, List.nil_append, List.append_nil, List.drop_nil, List.take_nil, Nat.reduceAdd, Nat.reduceLeDiff, Nat.zero_add, Nat.add_zero, ↓reduceIte, Bool.not_true, Bool.not_false, decide_true, decide_false, eq_self, bne_self_eq_false, List.getElem?_cons_zero, List.getElem?_cons_succ, decide_eq_true_eq, Bool.false_eq_true, Bool.true_eq_false, reduceCtorEq, Nat.le_refl]
  rw [call_run F Z (h1.lk (g := 273) rfl) _ _ rfl]
  simp only [run0, run1, run2, run3, run4, noSlot, memN, RO.dst, lk, drop, forget, number, Nat.reduceBEq, cut?, splice?, builds, List.length_cons, List.length_nil, List.drop_succ_cons, List.drop_zero, List.take_succ_cons, List.take_zero, List.cons_append, List.nil_append, List.append_nil, List.drop_nil, List.take_nil, Nat.reduceAdd, Nat.reduceLeDiff, Nat.zero_add, Nat.add_zero, ↓reduceIte, Bool.not_true, Bool.not_false, decide_true, decide_false, eq_self, bne_self_eq_false, List.getElem?_cons_zero, List.getElem?_cons_succ, decide_eq_true_eq, Bool.false_eq_true, Bool.true_eq_false, reduceCtorEq, Nat.le_refl, hn]
  (repeat' ((first | (rw [gF_if]; split) | (rw [condC_if]; split) | (rw [pickR_if]; split)) <;> (rename_i hh; (try simp only [Bool.not_eq_true, decide_eq_true_eq] at hh); simp only [hh, run0, run1, run2, run3, run4, noSlot, memN, RO.dst, lk, drop, forget, number, Nat.reduceBEq, cut?, splice?, builds, List.length_cons, List.length_nil, List.drop_succ_cons, List.drop_zero, List.take_succ_cons, List.take_zero, List.cons_append, List.nil_append, List.append_nil, List.drop_nil, List.take_nil, Nat.reduceAdd, Nat.reduceLeDiff, Nat.zero_add, Nat.add_zero, ↓reduceIte, Bool.not_true, Bool.not_false, decide_true, decide_false, eq_self, bne_self_eq_false, List.getElem?_cons_zero, List.getElem?_cons_succ, decide_eq_true_eq, Bool.false_eq_true, Bool.true_eq_false, reduceCtorEq, Nat.le_refl, hn]))) <;> simp_all [cmpI] <;> omega
theorem Compare_u64_run (h1 : Has F tLibcmpCompareuint64) (h2 : Has F tLibcmpisNaNuint64) (a b : Int) (h : Heap) : call F Z 274 [.c (.int .u64 a), .c (.int .u64 b)] h = some (.c (.int .i64 (cmpI a b)), h) := by
  have hn : ∀ (a : Int) (h : Heap), call F Z 277 [.c (.int .u64 a)] h = some (.c (.bool false), h) := by
    intro a h
    rw [call_run F Z (h2.lk (g := 277) rfl) _ _ rfl]
    simp only [run0, run1, run2, run3, run4, noSlot, memN, RO.dst, lk, drop, forget, number, Nat.reduceBEq, cut?, splice?, builds, List.length_cons, List.length_nil, List.drop_succ_cons, List.drop_zero, List.take_succ_cons, List.take_zero, List.cons_append, List.nil_append, List.append_nil, List.drop_nil, List.take_nil, Nat.reduceAdd, Nat.reduceLeDiff, Nat.zero_add, Nat.add_zero, ↓reduceIte, Bool.not_true, Bool.not_false, decide_true, decide_false, eq_self, bne_self_eq_false, List.getElem?_cons_zero, List.getElem?_cons_succ, decide_eq_true_eq, Bool.false_eq_true, Bool.true_eq_false, reduceCtorEq, Nat.le_refl]
  rw [call_run F Z (h1.lk (g := 274) rfl) _ _ rfl]
  simp only [run0, run1, run2, run3, run4, noSlot, memN, RO.dst, lk, drop, forget, number, Nat.reduceBEq, cut?, splice?, builds, List.length_cons, List.length_nil, List.drop_succ_cons, List.drop_zero, List.take_succ_cons, List.take_zero, List.cons_append, List.nil_append, List.append_nil, List.drop_nil, List.take_nil, Nat.reduceAdd, Nat.reduceLeDiff, Nat.zero_add, Nat.add_zero, ↓reduceIte, Bool.not_true, Bool.not_false, decide_true, decide_false, eq_self, bne_self_eq_false, List.getElem?_cons_zero, List.getElem?_cons_succ, decide_eq_true_eq, Bool.false_eq_true, Bool.true_eq_false, reduceCtorEq, Nat.le_refl, hn]
  (repeat' ((first | (rw [gF_if]; split) | (rw [condC_if]; split) | (rw [pickR_if]; split)) <;> (rename_i hh; (try simp only [Bool.not_eq_true, decide_eq_true_eq] at hh); simp only [hh, run0, run1, run2, run3, run4, noSlot, memN, RO.dst, lk, drop, forget, number, Nat.reduceBEq, cut?, splice?, builds, List.length_cons, List.length_nil, List.drop_succ_cons, List.drop_zero, List.take_succ_cons, List.take_zero, List.cons_append, List.nil_append, List.append_nil, List.drop_nil, List.take_nil, Nat.reduceAdd, Nat.reduceLeDiff, Nat.zero_add, Nat.add_zero, ↓reduceIte, Bool.not_true, Bool.not_false, decide_true, decide_false, eq_self, bne_self_eq_false, List.getElem?_cons_zero, List.getElem?_cons_succ, decide_eq_true_eq, Bool.false_eq_true, Bool.true_eq_false, reduceCtorEq, Nat.le_refl, hn]))) <;> simp_all [cmpI] <;> omega
theorem indexFin_run (hL : Has F tLibslicesIndeximplFinimplFin) (w : SlR 9 (Fl Fin.enc) h x xs fp) (f : Fin) : call F Z 272 [.c x, .agg f.enc] h = some (.c (.int .i64 (findI (fun a => decide (f = a)) xs)), h) := by
  have hle := w.le2
  rw [call_run F Z (hL.lk (g := 272) rfl) _ _ rfl]
  simp only [run0, run1, run2, run3, run4, noSlot, memN, RO.dst, lk, drop, forget, number, Nat.reduceBEq, cut?, splice?, builds, List.length_cons, List.length_nil, List.drop_succ_cons, List.drop_zero, List.take_succ_cons, List.take_zero, List.cons_append, List.nil_append, List.append_nil, List.drop_nil, List.take_nil, Nat.reduceAdd, Nat.reduceLeDiff, Nat.zero_add, Nat.add_zero, ↓reduceIte, Bool.not_true, Bool.not_false, decide_true, decide_false, eq_self, bne_self_eq_false, List.getElem?_cons_zero, List.getElem?_cons_succ, decide_eq_true_eq, Bool.false_eq_true, Bool.true_eq_false, reduceCtorEq, Nat.le_refl, w.len]
  have key := loop_find (F := F) (Z := Z) (live := [0, 3, 7, 8]) (b := r272L0) xs (fun a => decide (f = a)) (fun i => ⟨[(0, .c x), (7, .c (.int .i64 (xs.length : Nat))), (8, .c (.int .i64 (i : Nat)))], [(3, 3, 0)], [(3, f.enc)], h⟩) (fun i s => lk s.env 4 = some (.c (.int .i64 (i : Nat))) ∧ s.hp = h) fun i hi => by
    have hlt : (i : Int) < xs.length := by omega
    have hws := wrapS i (by omega)
    have hxi := w.idx hi
    have hld := w.load hi
    generalize xs[i] = a at *
    obtain ⟨t, d⟩ := a
    obtain ⟨t', d'⟩ := f
    rw [loop_run]
    conv in (codeF _ _ r272L0 _) => unfold r272L0
    have fe := fin_eqs t' d' t d
    simp only [run0, run1, run2, run3, run4, noSlot, memN, RO.dst, lk, drop, forget, number, Nat.reduceBEq, cut?, splice?, builds, List.length_cons, List.length_nil, List.drop_succ_cons, List.drop_zero, List.take_succ_cons, List.take_zero, List.cons_append, List.nil_append, List.append_nil, List.drop_nil, List.take_nil, Nat.reduceAdd, Nat.reduceLeDiff, Nat.zero_add, Nat.add_zero, ↓reduceIte, Bool.not_true, Bool.not_false, decide_true, decide_false, eq_self, bne_self_eq_false, List.getElem?_cons_zero, List.getElem?_cons_succ, decide_eq_true_eq, Bool.false_eq_true, Bool.true_eq_false, reduceCtorEq, Nat.le_refl, hlt, hxi, hld, Fin.enc, fe]
    clear hxi hld fe w
    (repeat' ((first | (rw [gF_if]; split) | (rw [condC_if]; split) | (rw [pickR_if]; split)) <;> (rename_i hh; (try simp only [Bool.not_eq_true, decide_eq_true_eq] at hh); simp only [hh, run0, run1, run2, run3, run4, noSlot, memN, RO.dst, lk, drop, forget, number, Nat.reduceBEq, cut?, splice?, builds, List.length_cons, List.length_nil, List.drop_succ_cons, List.drop_zero, List.take_succ_cons, List.take_zero, List.cons_append, List.nil_append, List.append_nil, List.drop_nil, List.take_nil, Nat.reduceAdd, Nat.reduceLeDiff, Nat.zero_add, Nat.add_zero, ↓reduceIte, Bool.not_true, Bool.not_false, decide_true, decide_false, eq_self, bne_self_eq_false, List.getElem?_cons_zero, List.getElem?_cons_succ, decide_eq_true_eq, Bool.false_eq_true, Bool.true_eq_false, reduceCtorEq, Nat.le_refl, hws]))) <;> first
      | exact .inl ⟨by simp_all, rfl⟩
      | exact .inr ⟨by simp_all, _, rfl, rfl, rfl⟩
  have hlt : ¬ (xs.length : Int) < xs.length := by omega
  simp only [show ((0 : Nat) : Int) = 0 from rfl] at key
  rcases key with ⟨k1, k2⟩ | ⟨i, k1, hi, s, k2, k3, k4⟩
  · rw [k2, loop_run]
    conv in (codeF _ _ r272L0 _) => unfold r272L0
    simp only [run0, run1, run2, run3, run4, noSlot, memN, RO.dst, lk, drop, forget, number, Nat.reduceBEq, cut?, splice?, builds, List.length_cons, List.length_nil, List.drop_succ_cons, List.drop_zero, List.take_succ_cons, List.take_zero, List.cons_append, List.nil_append, List.append_nil, List.drop_nil, List.take_nil, Nat.reduceAdd, Nat.reduceLeDiff, Nat.zero_add, Nat.add_zero, ↓reduceIte, Bool.not_true, Bool.not_false, decide_true, decide_false, eq_self, bne_self_eq_false, List.getElem?_cons_zero, List.getElem?_cons_succ, decide_eq_true_eq, Bool.false_eq_true, Bool.true_eq_false, reduceCtorEq, Nat.le_refl, hlt, findI, k1]
  · rw [k2]
    simp only [run0, run1, run2, run3, run4, noSlot, memN, RO.dst, lk, drop, forget, number, Nat.reduceBEq, cut?, splice?, builds, List.length_cons, List.length_nil, List.drop_succ_cons, List.drop_zero, List.take_succ_cons, List.take_zero, List.cons_append, List.nil_append, List.append_nil, List.drop_nil, List.take_nil, Nat.reduceAdd, Nat.reduceLeDiff, Nat.zero_add, Nat.add_zero, ↓reduceIte, Bool.not_true, Bool.not_false, decide_true, decide_false, eq_self, bne_self_eq_false, List.getElem?_cons_zero, List.getElem?_cons_succ, decide_eq_true_eq, Bool.false_eq_true, Bool.true_eq_false, reduceCtorEq, Nat.le_refl, k3, k4, findI, k1]
theorem containsFin_run (hL : Has F tLibslicesIndeximplFinimplFin) (hC : Has F tLibslicesContainsimplFinimplFin) (w : SlR 9 (Fl Fin.enc) h x xs fp) (f : Fin) : call F Z 266 [.c x, .agg f.enc] h = some (.c (.bool (decide (f ∈ xs))), h) := by
  rw [call_run F Z (hC.lk (g := 266) rfl) _ _ rfl]
  simp only [run0, run1, run2, run3, run4, noSlot, memN, RO.dst, lk, drop, forget, number, Nat.reduceBEq, cut?, splice?, builds, List.length_cons, List.length_nil, List.drop_succ_cons, List.drop_zero, List.take_succ_cons, List.take_zero, List.cons_append, List.nil_append, List.append_nil, List.drop_nil, List.take_nil, Nat.reduceAdd, Nat.reduceLeDiff, Nat.zero_add, Nat.add_zero, ↓reduceIte, Bool.not_true, Bool.not_false, decide_true, decide_false, eq_self, bne_self_eq_false, List.getElem?_cons_zero, List.getElem?_cons_succ, decide_eq_true_eq, Bool.false_eq_true, Bool.true_eq_false, reduceCtorEq, Nat.le_refl, Fin.len, Fin.tak, indexFin_run hL w f]
  congr 4
  unfold findI
  cases hf : xs.findIdx? (fun a => decide (f = a)) with
  | none =>
    rw [List.findIdx?_eq_none_iff] at hf
    have : ¬ f ∈ xs := fun hm => by simpa using hf f hm
    simp [this]
  | some i =>
    rw [List.findIdx?_eq_some_iff_getElem] at hf
    obtain ⟨hi, h2, _⟩ := hf
    have : f ∈ xs := by
      have : f = xs[i] := by simpa using h2
      rw [this]; exact List.getElem_mem hi
    simp [this]
theorem Or2_run (hO : Has F tLibcmpOrint) {o : Nat} (a b : Int) (hg : h.get o = some [[.int .i64 a], [.int .i64 b]]) : call F Z 275 [.c (.sl 15 o 0 2)] h = some (.c (.int .i64 (orI a b)), h) := by
  have l0 : ∀ j n, loadP h o 0 j n = cut? [.int .i64 a] j n := fun j n => by simp [loadP, rowOf, hg]
  have l1 : ∀ j n, loadP h o 1 j n = cut? [.int .i64 b] j n := fun j n => by simp [loadP, rowOf, hg]
  have i0 : idxR 15 (some (.sl 15 o 0 2)) (some 0) = some (.ptr o 0 0) := rfl
  have i1 : idxR 15 (some (.sl 15 o 0 2)) (some 1) = some (.ptr o 1 0) := rfl
  have w1 : IntKind.i64.wrap (0 + 1) = 1 := wrapI _ (by omega) (by omega)
  have w2 : IntKind.i64.wrap (1 + 1) = 2 := wrapI _ (by omega) (by omega)
  have c0 : (0 : Int) < ((2 : Nat) : Int) := by omega
  have c1 : (1 : Int) < ((2 : Nat) : Int) := by omega
  have c2 : ¬ (2 : Int) < ((2 : Nat) : Int) := by omega
  rw [call_run F Z (hO.lk (g := 275) rfl) _ _ rfl]
  simp only [run0, run1, run2, run3, run4, noSlot, memN, RO.dst, lk, drop, forget, number, Nat.reduceBEq, cut?, splice?, builds, List.length_cons, List.length_nil, List.drop_succ_cons, List.drop_zero, List.take_succ_cons, List.take_zero, List.cons_append, List.nil_append, List.append_nil, List.drop_nil, List.take_nil, Nat.reduceAdd, Nat.reduceLeDiff, Nat.zero_add, Nat.add_zero, ↓reduceIte, Bool.not_true, Bool.not_false, decide_true, decide_false, eq_self, bne_self_eq_false, List.getElem?_cons_zero, List.getElem?_cons_succ, decide_eq_true_eq, Bool.false_eq_true, Bool.true_eq_false, reduceCtorEq, Nat.le_refl]
  rw [loop_run]
  conv in (codeF _ _ r275L0 _) => unfold r275L0
  by_cases ha : a = 0
  · subst ha
    simp only [run0, run1, run2, run3, run4, noSlot, memN, RO.dst, lk, drop, forget, number, Nat.reduceBEq, cut?, splice?, builds, List.length_cons, List.length_nil, List.drop_succ_cons, List.drop_zero, List.take_succ_cons, List.take_zero, List.cons_append, List.nil_append, List.append_nil, List.drop_nil, List.take_nil, Nat.reduceAdd, Nat.reduceLeDiff, Nat.zero_add, Nat.add_zero, ↓reduceIte, Bool.not_true, Bool.not_false, decide_true, decide_false, eq_self, bne_self_eq_false, List.getElem?_cons_zero, List.getElem?_cons_succ, decide_eq_true_eq, Bool.false_eq_true, Bool.true_eq_false, reduceCtorEq, Nat.le_refl, c0, i0, l0, w1]
    rw [loop_run]
    conv in (codeF _ _ r275L0 _) => unfold r275L0
    by_cases hb : b = 0
    · subst hb
      simp only [run0, run1, run2, run3, run4, noSlot, memN, RO.dst, lk, drop, forget, number, Nat.reduceBEq, cut?, splice?, builds, List.length_cons, List.length_nil, List.drop_succ_cons, List.drop_zero, List.take_succ_cons, List.take_zero, List.cons_append, List.nil_append, List.append_nil, List.drop_nil, List.take_nil, Nat.reduceAdd, Nat.reduceLeDiff, Nat.zero_add, Nat.add_zero, ↓reduceIte, Bool.not_true, Bool.not_false, decide_true, decide_false, eq_self, bne_self_eq_false, List.getElem?_cons_zero, List.getElem?_cons_succ, decide_eq_true_eq, Bool.false_eq_true, Bool.true_eq_false, reduceCtorEq, Nat.le_refl, c1, i1, l1, w2]
      rw [loop_run]
      conv in (codeF _ _ r275L0 _) => unfold r275L0
      simp only [run0, run1, run2, run3, run4, noSlot, memN, RO.dst, lk, drop, forget, number, Nat.reduceBEq, cut?, splice?, builds, List.length_cons, List.length_nil, List.drop_succ_cons, List.drop_zero, List.take_succ_cons, List.take_zero, List.cons_append, List.nil_append, List.append_nil, List.drop_nil, List.take_nil, Nat.reduceAdd, Nat.reduceLeDiff, Nat.zero_add, Nat.add_zero, ↓reduceIte, Bool.not_true, Bool.not_false, decide_true, decide_false, eq_self, bne_self_eq_false, List.getElem?_cons_zero, List.getElem?_cons_succ, decide_eq_true_eq, Bool.false_eq_true, Bool.true_eq_false, reduceCtorEq, Nat.le_refl, c2, orI]
    · have hb' : (b != 0) = true := by simpa using hb
      simp only [run0, run1, run2, run3, run4, noSlot, memN, RO.dst, lk, drop, forget, number, Nat.reduceBEq, cut?, splice?, builds, List.length_cons, List.length_nil, List.drop_succ_cons, List.drop_zero, List.take_succ_cons, List.take_zero, List.cons_append, List.nil_append, List.append_nil, List.drop_nil, List.take_nil, Nat.reduceAdd, Nat.reduceLeDiff, Nat.zero_add, Nat.add_zero, ↓reduceIte, Bool.not_true, Bool.not_false, decide_true, decide_false, eq_self, bne_self_eq_false, List.getElem?_cons_zero, List.getElem?_cons_succ, decide_eq_true_eq, Bool.false_eq_true, Bool.true_eq_false, reduceCtorEq, Nat.le_refl, c1, i1, l1, hb', orI]
  · have ha' : (a != 0) = true := by simpa using ha
    simp only [run0, run1, run2, run3, run4, noSlot, memN, RO.dst, lk, drop, forget, number, Nat.reduceBEq, cut?, splice?, builds, List.length_cons, List.length_nil, List.drop_succ_cons, List.drop_zero, List.take_succ_cons, List.take_zero, List.cons_append, List.nil_append, List.append_nil, List.drop_nil, List.take_nil, Nat.reduceAdd, Nat.reduceLeDiff, Nat.zero_add, Nat.add_zero, ↓reduceIte, Bool.not_true, Bool.not_false, decide_true, decide_false, eq_self, bne_self_eq_false, List.getElem?_cons_zero, List.getElem?_cons_succ, decide_eq_true_eq, Bool.false_eq_true, Bool.true_eq_false, reduceCtorEq, Nat.le_refl, c0, i0, l0, ha', orI, ha]
end
end Go.Proofs.Ytlbagejkjkfkjaa.A
/- The data of a Account, and its cells. -/
namespace Go.Proofs.Ytlbagejkjkfkjaa.A
open Go
set_option linter.unusedSimpArgs false
set_option linter.unusedVariables false
structure Account where
  id : Int
  bal : Int
  hold : Int
  due : Int
  tx : Int
  deriving DecidableEq
namespace Account
def enc (t : Account) : List Cell := [.int .u64 t.id, .int .u64 t.bal, .int .u64 t.hold, .int .u64 t.due, .int .i64 t.tx]
theorem len (t : Account) : t.enc.length = 5 := rfl
theorem tak (t : Account) : t.enc.take 5 = t.enc := rfl
def none_ : Account := ⟨0, 0, 0, 0, 0⟩
/-- The numbers are those of the machine. -/
structure Ok (t : Account) : Prop where
  id : 0 ≤ t.id ∧ t.id ≤ 18446744073709551615
  bal : 0 ≤ t.bal ∧ t.bal ≤ 18446744073709551615
  hold : 0 ≤ t.hold ∧ t.hold ≤ 18446744073709551615
  due : 0 ≤ t.due ∧ t.due ≤ 18446744073709551615
  tx : -9223372036854775808 ≤ t.tx ∧ t.tx ≤ 9223372036854775807
end Account
theorem Wf.isAccount {h : Heap} {n : Nat} {cs : List Cell} (w : Wf h (n + 2) shAccount cs) : ∃ t : Account, cs = t.enc ∧ t.Ok := by
  obtain ⟨_, _, rfl, _, ⟨id0, rfl, h0⟩, _, _, rfl, _, ⟨bal0, rfl, h1⟩, _, _, rfl, _, ⟨hold0, rfl, h2⟩, _, _, rfl, _, ⟨due0, rfl, h3⟩, _, _, rfl, _, ⟨tx0, rfl, h4⟩, rfl⟩ := w
  exact ⟨⟨id0, bal0, hold0, due0, tx0⟩, rfl, ⟨wfU h0, wfU h1, wfU h2, wfU h3, wfI h4⟩⟩
theorem Wf.isAccountS {h : Heap} {n : Nat} {x : Cell} (w : Wf h (n + 3) shAccountS [x]) : ∃ xs fp, SlR 12 (Fl Account.enc) h x xs fp ∧ ∀ t, t ∈ xs → t.Ok :=
  SlR.ofWf (fun r hr => by obtain ⟨t, rfl, ht⟩ := Wf.isAccount hr.2; exact ⟨t, [], ⟨rfl, rfl⟩, ht⟩) w
theorem Wf.isAccountS' {h : Heap} {n : Nat} {a : List Cell} (w : Wf h (n + 3) shAccountS a) : ∃ x xs fp, a = [x] ∧ SlR 12 (Fl Account.enc) h x xs fp ∧ ∀ t, t ∈ xs → t.Ok := by
  have hx : ∃ x, a = [x] := by rcases w with w | ⟨_, _, w, _⟩ <;> exact ⟨_, w⟩
  obtain ⟨x, rfl⟩ := hx
  obtain ⟨xs, fp, v, ok⟩ := Wf.isAccountS w
  exact ⟨x, xs, fp, rfl, v, ok⟩
end Go.Proofs.Ytlbagejkjkfkjaa.A
/- What the converters of Account compute. -/
namespace Go.Proofs.Ytlbagejkjkfkjaa.A
open Go
set_option linter.unusedSimpArgs false
set_option linter.unusedVariables false
section
variable {F : Nat → Option RF} {Z : CallF} {h : Heap} {x y : Cell} {xs ys : List Account} {fp fq : List Nat}
def Account.zero : List Cell := [.int .u64 0, .int .u64 0, .int .u64 0, .int .u64 0, .int .i64 0]
theorem toAccount_run (hL : Has F tLAccount) (p : Account) (h : Heap) : call F Z 141 [.agg p.enc] h = some (.agg p.enc, h) := by
  rw [call_run F Z (hL.lk (g := 141) rfl) _ _ rfl]
  simp only [Account.enc, run0, run1, run2, run3, run4, noSlot, memN, RO.dst, lk, drop, forget, number, Nat.reduceBEq, cut?, splice?, builds, List.length_cons, List.length_nil, List.drop_succ_cons, List.drop_zero, List.take_succ_cons, List.take_zero, List.cons_append, List.nil_append, List.append_nil, List.drop_nil, List.take_nil, Nat.reduceAdd, Nat.reduceLeDiff, Nat.zero_add, Nat.add_zero, ↓reduceIte, Bool.not_true, Bool.not_false, decide_true, decide_false, eq_self, bne_self_eq_false, List.getElem?_cons_zero, List.getElem?_cons_succ, decide_eq_true_eq, Bool.false_eq_true, Bool.true_eq_false, reduceCtorEq, Nat.le_refl]
set_option maxHeartbeats 1000000 in
theorem eqAccount_run (hL : Has F tLAccount) (p q : Account) (h : Heap) : call F Z 142 [.agg p.enc, .agg q.enc] h = some (.c (.bool (decide (p = q))), h) := by
  rw [call_run F Z (hL.lk (g := 142) rfl) _ _ rfl]
  obtain ⟨id1, bal1, hold1, due1, tx1⟩ := p
  obtain ⟨id2, bal2, hold2, due2, tx2⟩ := q
  simp only [Account.enc, run0, run1, run2, run3, run4, noSlot, memN, RO.dst, lk, drop, forget, number, Nat.reduceBEq, cut?, splice?, builds, List.length_cons, List.length_nil, List.drop_succ_cons, List.drop_zero, List.take_succ_cons, List.take_zero, List.cons_append, List.nil_append, List.append_nil, List.drop_nil, List.take_nil, Nat.reduceAdd, Nat.reduceLeDiff, Nat.zero_add, Nat.add_zero, ↓reduceIte, Bool.not_true, Bool.not_false, decide_true, decide_false, eq_self, bne_self_eq_false, List.getElem?_cons_zero, List.getElem?_cons_succ, decide_eq_true_eq, Bool.false_eq_true, Bool.true_eq_false, reduceCtorEq, Nat.le_refl]
  (repeat' ((first | (rw [gF_if]; split) | (rw [condC_if]; split) | (rw [pickR_if]; split)) <;> (rename_i hh; (try simp only [Bool.not_eq_true, decide_eq_true_eq] at hh); simp only [hh, run0, run1, run2, run3, run4, noSlot, memN, RO.dst, lk, drop, forget, number, Nat.reduceBEq, cut?, splice?, builds, List.length_cons, List.length_nil, List.drop_succ_cons, List.drop_zero, List.take_succ_cons, List.take_zero, List.cons_append, List.nil_append, List.append_nil, List.drop_nil, List.take_nil, Nat.reduceAdd, Nat.reduceLeDiff, Nat.zero_add, Nat.add_zero, ↓reduceIte, Bool.not_true, Bool.not_false, decide_true, decide_false, eq_self, bne_self_eq_false, List.getElem?_cons_zero, List.getElem?_cons_succ, decide_eq_true_eq, Bool.false_eq_true, Bool.true_eq_false, reduceCtorEq, Nat.le_refl]))) <;> refine fin_bool ?_ <;> simp_all <;> (try (intros; omega))
theorem szAccountS_run (hL : Has F tLAccount) (w : SlR 12 (Fl Account.enc) h x xs fp) (left : Int) (h1 : 0 ≤ left) (h2 : left ≤ 1048576) : call F Z 136 [.c x, .c (.int .i64 left)] h = some (.c (.int .i64 (if left - xs.length < 0 then -1 else left - xs.length)), h) := by
  have := w.le2
  rw [call_run F Z (hL.lk (g := 136) rfl) _ _ rfl]
  simp only [run0, run1, run2, run3, run4, noSlot, memN, RO.dst, lk, drop, forget, number, Nat.reduceBEq, cut?, splice?, builds, List.length_cons, List.length_nil, List.drop_succ_cons, List.drop_zero, List.take_succ_cons, List.take_zero, List.cons_append, List.nil_append, List.append_nil, List.drop_nil, List.take_nil, Nat.reduceAdd, Nat.reduceLeDiff, Nat.zero_add, Nat.add_zero, ↓reduceIte, Bool.not_true, Bool.not_false, decide_true, decide_false, eq_self, bne_self_eq_false, List.getElem?_cons_zero, List.getElem?_cons_succ, decide_eq_true_eq, Bool.false_eq_true, Bool.true_eq_false, reduceCtorEq, Nat.le_refl, w.len, wrapI (left - xs.length) (by omega) (by omega)]
  (repeat' ((first | (rw [gF_if]; split) | (rw [condC_if]; split) | (rw [pickR_if]; split)) <;> (rename_i hh; (try simp only [Bool.not_eq_true, decide_eq_true_eq] at hh); simp only [hh, run0, run1, run2, run3, run4, noSlot, memN, RO.dst, lk, drop, forget, number, Nat.reduceBEq, cut?, splice?, builds, List.length_cons, List.length_nil, List.drop_succ_cons, List.drop_zero, List.take_succ_cons, List.take_zero, List.cons_append, List.nil_append, List.append_nil, List.drop_nil, List.take_nil, Nat.reduceAdd, Nat.reduceLeDiff, Nat.zero_add, Nat.add_zero, ↓reduceIte, Bool.not_true, Bool.not_false, decide_true, decide_false, eq_self, bne_self_eq_false, List.getElem?_cons_zero, List.getElem?_cons_succ, decide_eq_true_eq, Bool.false_eq_true, Bool.true_eq_false, reduceCtorEq, Nat.le_refl]))) <;> simp_all
theorem szAccountS_c (hL : Has F tLAccount) (w : SlR 12 (Fl Account.enc) h x xs fp) (left : Int) (h1 : 0 ≤ left) (h2 : left ≤ 1048576) : ∃ r, call F Z 136 [.c x, .c (.int .i64 left)] h = some (.c (.int .i64 r), h) ∧ r ≤ left ∧ (0 ≤ r → xs.length ≤ 1048576) :=
  ⟨_, szAccountS_run hL w left h1 h2, by split <;> omega, by split <;> omega⟩
theorem toAccount_lit (hL : Has F tLAccount) (id1 bal1 hold1 due1 tx1 : Int) (h : Heap) : call F Z 141 [.agg [.int .u64 id1, .int .u64 bal1, .int .u64 hold1, .int .u64 due1, .int .i64 tx1]] h = some (.agg [.int .u64 id1, .int .u64 bal1, .int .u64 hold1, .int .u64 due1, .int .i64 tx1], h) := toAccount_run hL ⟨id1, bal1, hold1, due1, tx1⟩ h
theorem eqAccount_lit (hL : Has F tLAccount) (id1 bal1 hold1 due1 tx1 id2 bal2 hold2 due2 tx2 : Int) (h : Heap) : call F Z 142 [.agg [.int .u64 id1, .int .u64 bal1, .int .u64 hold1, .int .u64 due1, .int .i64 tx1], .agg [.int .u64 id2, .int .u64 bal2, .int .u64 hold2, .int .u64 due2, .int .i64 tx2]] h = some (.c (.bool (decide ((⟨id1, bal1, hold1, due1, tx1⟩ : Account) = ⟨id2, bal2, hold2, due2, tx2⟩))), h) := eqAccount_run hL ⟨id1, bal1, hold1, due1, tx1⟩ ⟨id2, bal2, hold2, due2, tx2⟩ h
theorem toAccountS_run (hL : Has F tLAccount) (hf : h.floor ≤ h.next) (w : SlR 12 (Fl Account.enc) h x xs fp) (hn : xs.length ≤ 1048576) : call F Z 137 [.c x] h = some (.c (.sl 11 h.next 0 xs.length), h.push (xs.map Account.enc)) := by
  rw [call_run F Z (hL.lk (g := 137) rfl) _ _ rfl]
  simp only [run0, run1, run2, run3, run4, noSlot, memN, RO.dst, lk, drop, forget, number, Nat.reduceBEq, cut?, splice?, builds, List.length_cons, List.length_nil, List.drop_succ_cons, List.drop_zero, List.take_succ_cons, List.take_zero, List.cons_append, List.nil_append, List.append_nil, List.drop_nil, List.take_nil, Nat.reduceAdd, Nat.reduceLeDiff, Nat.zero_add, Nat.add_zero, ↓reduceIte, Bool.not_true, Bool.not_false, decide_true, decide_false, eq_self, bne_self_eq_false, List.getElem?_cons_zero, List.getElem?_cons_succ, decide_eq_true_eq, Bool.false_eq_true, Bool.true_eq_false, reduceCtorEq, Nat.le_refl, w.len]
  rw [if_pos (by omega)]
  simp only [run0, run1, run2, run3, run4, noSlot, memN, RO.dst, lk, drop, forget, number, Nat.reduceBEq, cut?, splice?, builds, List.length_cons, List.length_nil, List.drop_succ_cons, List.drop_zero, List.take_succ_cons, List.take_zero, List.cons_append, List.nil_append, List.append_nil, List.drop_nil, List.take_nil, Nat.reduceAdd, Nat.reduceLeDiff, Nat.zero_add, Nat.add_zero, ↓reduceIte, Bool.not_true, Bool.not_false, decide_true, decide_false, eq_self, bne_self_eq_false, List.getElem?_cons_zero, List.getElem?_cons_succ, decide_eq_true_eq, Bool.false_eq_true, Bool.true_eq_false, reduceCtorEq, Nat.le_refl, Int.toNat_natCast]
  have key : loop F Z [0, 3, 4] r137L0 ⟨[(0, .c x), (3, .c (.sl 11 h.next 0 xs.length)), (4, .c (.int .i64 (0 : Nat)))], [], [], h.push (fillR Account.enc Account.zero xs 0)⟩ = loop F Z [0, 3, 4] r137L0 ⟨[(0, .c x), (3, .c (.sl 11 h.next 0 xs.length)), (4, .c (.int .i64 (xs.length : Nat)))], [], [], h.push (fillR Account.enc Account.zero xs xs.length)⟩ :=
    loop_goesF xs.length (fun i => ⟨[(0, .c x), (3, .c (.sl 11 h.next 0 xs.length)), (4, .c (.int .i64 (i : Nat)))], [], [], h.push (fillR Account.enc Account.zero xs i)⟩) fun i hi => by
      have w' := w.mono (Fl.ok _) (HExt.push h (fillR Account.enc Account.zero xs i))
      have hlt : (i : Int) < xs.length := by omega
      have h0 : (0 : Int) ≤ i := by omega
      rw [loop_run]
      simp only [r137L0, run0, run1, run2, run3, run4, noSlot, memN, RO.dst, lk, drop, forget, number, Nat.reduceBEq, cut?, splice?, builds, List.length_cons, List.length_nil, List.drop_succ_cons, List.drop_zero, List.take_succ_cons, List.take_zero, List.cons_append, List.nil_append, List.append_nil, List.drop_nil, List.take_nil, Nat.reduceAdd, Nat.reduceLeDiff, Nat.zero_add, Nat.add_zero, ↓reduceIte, Bool.not_true, Bool.not_false, decide_true, decide_false, eq_self, bne_self_eq_false, List.getElem?_cons_zero, List.getElem?_cons_succ, decide_eq_true_eq, Bool.false_eq_true, Bool.true_eq_false, reduceCtorEq, Nat.le_refl, w.len, hlt, w.idx hi, w'.load hi, Account.len, Account.tak, toAccount_run hL, h0, and_self, Int.toNat_natCast, storeP_push hf (fillR_get Account.enc Account.zero xs hi) (Account.len xs[i]), wrapS i (by omega)]
      rw [← fillR_set Account.enc Account.zero xs hi]
  rw [fillR_0] at key
  rw [fillR_n] at key
  rw [show ((0 : Nat) : Int) = 0 from rfl] at key
  simp only [Account.zero] at key
  rw [key, loop_run]
  have hlt : ¬ (xs.length : Int) < xs.length := by omega
  simp only [r137L0, run0, run1, run2, run3, run4, noSlot, memN, RO.dst, lk, drop, forget, number, Nat.reduceBEq, cut?, splice?, builds, List.length_cons, List.length_nil, List.drop_succ_cons, List.drop_zero, List.take_succ_cons, List.take_zero, List.cons_append, List.nil_append, List.append_nil, List.drop_nil, List.take_nil, Nat.reduceAdd, Nat.reduceLeDiff, Nat.zero_add, Nat.add_zero, ↓reduceIte, Bool.not_true, Bool.not_false, decide_true, decide_false, eq_self, bne_self_eq_false, List.getElem?_cons_zero, List.getElem?_cons_succ, decide_eq_true_eq, Bool.false_eq_true, Bool.true_eq_false, reduceCtorEq, Nat.le_refl, w.len, hlt]
theorem toAccountS_c (hL : Has F tLAccount) (hf : h.floor ≤ h.next) (w : SlR 12 (Fl Account.enc) h x xs fp) (hn : xs.length ≤ 1048576) : ∃ y h' fq, call F Z 137 [.c x] h = some (.c y, h') ∧ On h h' ∧ SlR 11 (Fl Account.enc) h' y xs fq ∧ Fre h fq :=
  ⟨_, _, _, toAccountS_run hL hf w hn, On.push _ _, SlR.ofFlat w.le (push_get _ _) (by rw [push_next]; omega), Fre.one h⟩
theorem eqAccountS_run (hL : Has F tLAccount) (w : SlR 11 (Fl Account.enc) h x xs fp) (v : SlR 11 (Fl Account.enc) h y ys fq) : call F Z 139 [.c x, .c y] h = some (.c (.bool (decide (xs = ys))), h) := by
  have hw := w.le2
  have hv := v.le2
  rw [call_run F Z (hL.lk (g := 139) rfl) _ _ rfl]
  simp only [run0, run1, run2, run3, run4, noSlot, memN, RO.dst, lk, drop, forget, number, Nat.reduceBEq, cut?, splice?, builds, List.length_cons, List.length_nil, List.drop_succ_cons, List.drop_zero, List.take_succ_cons, List.take_zero, List.cons_append, List.nil_append, List.append_nil, List.drop_nil, List.take_nil, Nat.reduceAdd, Nat.reduceLeDiff, Nat.zero_add, Nat.add_zero, ↓reduceIte, Bool.not_true, Bool.not_false, decide_true, decide_false, eq_self, bne_self_eq_false, List.getElem?_cons_zero, List.getElem?_cons_succ, decide_eq_true_eq, Bool.false_eq_true, Bool.true_eq_false, reduceCtorEq, Nat.le_refl, w.len, v.len]
  rw [condC_if]
  split
  · rename_i hne
    have : xs ≠ ys := by rintro rfl; simp at hne
    simp only [run0, run1, run2, run3, run4, noSlot, memN, RO.dst, lk, drop, forget, number, Nat.reduceBEq, cut?, splice?, builds, List.length_cons, List.length_nil, List.drop_succ_cons, List.drop_zero, List.take_succ_cons, List.take_zero, List.cons_append, List.nil_append, List.append_nil, List.drop_nil, List.take_nil, Nat.reduceAdd, Nat.reduceLeDiff, Nat.zero_add, Nat.add_zero, ↓reduceIte, Bool.not_true, Bool.not_false, decide_true, decide_false, eq_self, bne_self_eq_false, List.getElem?_cons_zero, List.getElem?_cons_succ, decide_eq_true_eq, Bool.false_eq_true, Bool.true_eq_false, reduceCtorEq, Nat.le_refl, this]
  · rename_i he
    have he : xs.length = ys.length := by simp at he; omega
    simp only [run0, run1, run2, run3, run4, noSlot, memN, RO.dst, lk, drop, forget, number, Nat.reduceBEq, cut?, splice?, builds, List.length_cons, List.length_nil, List.drop_succ_cons, List.drop_zero, List.take_succ_cons, List.take_zero, List.cons_append, List.nil_append, List.append_nil, List.drop_nil, List.take_nil, Nat.reduceAdd, Nat.reduceLeDiff, Nat.zero_add, Nat.add_zero, ↓reduceIte, Bool.not_true, Bool.not_false, decide_true, decide_false, eq_self, bne_self_eq_false, List.getElem?_cons_zero, List.getElem?_cons_succ, decide_eq_true_eq, Bool.false_eq_true, Bool.true_eq_false, reduceCtorEq, Nat.le_refl]
    have key := loop_allN (F := F) (Z := Z) (live := [0, 1, 5]) (b := r139L0) xs.length (fun i => ⟨[(0, .c x), (1, .c y), (5, .c (.int .i64 (i : Nat)))], [], [], h⟩) (fun i => decide (xs[i]? = ys[i]?)) (fun s => lk s.env 4 = some (.c (.bool false)) ∧ s.hp = h) fun i hi => by
      have hi' : i < ys.length := by omega
      have hlt : (i : Int) < xs.length := by omega
      rw [loop_run]
      simp only [r139L0, run0, run1, run2, run3, run4, noSlot, memN, RO.dst, lk, drop, forget, number, Nat.reduceBEq, cut?, splice?, builds, List.length_cons, List.length_nil, List.drop_succ_cons, List.drop_zero, List.take_succ_cons, List.take_zero, List.cons_append, List.nil_append, List.append_nil, List.drop_nil, List.take_nil, Nat.reduceAdd, Nat.reduceLeDiff, Nat.zero_add, Nat.add_zero, ↓reduceIte, Bool.not_true, Bool.not_false, decide_true, decide_false, eq_self, bne_self_eq_false, List.getElem?_cons_zero, List.getElem?_cons_succ, decide_eq_true_eq, Bool.false_eq_true, Bool.true_eq_false, reduceCtorEq, Nat.le_refl, w.len, hlt, w.idx hi, v.idx hi', w.load hi, v.load hi', Account.len, Account.tak, eqAccount_run hL, wrapS i (by omega)]
      rw [List.getElem?_eq_getElem hi, List.getElem?_eq_getElem hi']
      (repeat' ((first | (rw [gF_if]; split) | (rw [condC_if]; split) | (rw [pickR_if]; split)) <;> (rename_i hh; (try simp only [Bool.not_eq_true, decide_eq_true_eq] at hh); simp only [hh, run0, run1, run2, run3, run4, noSlot, memN, RO.dst, lk, drop, forget, number, Nat.reduceBEq, cut?, splice?, builds, List.length_cons, List.length_nil, List.drop_succ_cons, List.drop_zero, List.take_succ_cons, List.take_zero, List.cons_append, List.nil_append, List.append_nil, List.drop_nil, List.take_nil, Nat.reduceAdd, Nat.reduceLeDiff, Nat.zero_add, Nat.add_zero, ↓reduceIte, Bool.not_true, Bool.not_false, decide_true, decide_false, eq_self, bne_self_eq_false, List.getElem?_cons_zero, List.getElem?_cons_succ, decide_eq_true_eq, Bool.false_eq_true, Bool.true_eq_false, reduceCtorEq, Nat.le_refl, wrapS i (by omega)])))
      · exact .inr ⟨by simp_all, _, rfl, rfl, rfl⟩
      · exact .inl ⟨by simp_all, rfl⟩
    rw [all_same he] at key
    rcases key with ⟨k1, k2⟩ | ⟨k1, s, k2, k3, k4⟩
    · simp only [show ((0 : Nat) : Int) = 0 from rfl] at k2
      rw [k2, loop_run]
      have hlt : ¬ (xs.length : Int) < xs.length := by omega
      simp only [r139L0, run0, run1, run2, run3, run4, noSlot, memN, RO.dst, lk, drop, forget, number, Nat.reduceBEq, cut?, splice?, builds, List.length_cons, List.length_nil, List.drop_succ_cons, List.drop_zero, List.take_succ_cons, List.take_zero, List.cons_append, List.nil_append, List.append_nil, List.drop_nil, List.take_nil, Nat.reduceAdd, Nat.reduceLeDiff, Nat.zero_add, Nat.add_zero, ↓reduceIte, Bool.not_true, Bool.not_false, decide_true, decide_false, eq_self, bne_self_eq_false, List.getElem?_cons_zero, List.getElem?_cons_succ, decide_eq_true_eq, Bool.false_eq_true, Bool.true_eq_false, reduceCtorEq, Nat.le_refl, w.len, hlt, k1]
    · simp only [show ((0 : Nat) : Int) = 0 from rfl] at k2
      rw [k2]
      simp only [run0, run1, run2, run3, run4, noSlot, memN, RO.dst, lk, drop, forget, number, Nat.reduceBEq, cut?, splice?, builds, List.length_cons, List.length_nil, List.drop_succ_cons, List.drop_zero, List.take_succ_cons, List.take_zero, List.cons_append, List.nil_append, List.append_nil, List.drop_nil, List.take_nil, Nat.reduceAdd, Nat.reduceLeDiff, Nat.zero_add, Nat.add_zero, ↓reduceIte, Bool.not_true, Bool.not_false, decide_true, decide_false, eq_self, bne_self_eq_false, List.getElem?_cons_zero, List.getElem?_cons_succ, decide_eq_true_eq, Bool.false_eq_true, Bool.true_eq_false, reduceCtorEq, Nat.le_refl, k3, k4, k1]
/-- What is written to mark one. -/
def Account.mk_ (k : Int) : Account := ⟨k, k + 1, k + 1 + 1, k + 1 + 1 + 1, k + 1 + 1 + 1 + 1⟩
def Account.marks (n : Nat) (k : Int) : List Account := (List.range n).map fun i : Nat => Account.mk_ (k + 5 * (i : Int))
theorem Account.marks_len (n : Nat) (k : Int) : (Account.marks n k).length = n := by simp [Account.marks]
set_option maxHeartbeats 1000000 in
theorem markAccountS_run (hL : Has F tLAccount) (w : SlR 11 (Fl Account.enc) h x xs fp) (hlo : ∀ id, id ∈ fp → h.floor ≤ id) (k : Int) (h1 : 0 ≤ k) (h2 : k + 5 * xs.length ≤ 4611686018427387904) :
    ∃ h', call F Z 261 [.c x, .c (.int .i64 k)] h = some (.c (.int .i64 (k + 5 * xs.length)), h') ∧ Mk h h' fp ∧ SlR 11 (Fl Account.enc) h' x (Account.marks xs.length k) fp := by
  have hle := w.le2
  have hlm := Account.marks_len xs.length k
  rw [call_run F Z (hL.lk (g := 261) rfl) _ _ rfl]
  simp only [run0, run1, run2, run3, run4, noSlot, memN, RO.dst, lk, drop, forget, number, Nat.reduceBEq, cut?, splice?, builds, List.length_cons, List.length_nil, List.drop_succ_cons, List.drop_zero, List.take_succ_cons, List.take_zero, List.cons_append, List.nil_append, List.append_nil, List.drop_nil, List.take_nil, Nat.reduceAdd, Nat.reduceLeDiff, Nat.zero_add, Nat.add_zero, ↓reduceIte, Bool.not_true, Bool.not_false, decide_true, decide_false, eq_self, bne_self_eq_false, List.getElem?_cons_zero, List.getElem?_cons_succ, decide_eq_true_eq, Bool.false_eq_true, Bool.true_eq_false, reduceCtorEq, Nat.le_refl]
  rcases w.flat with ⟨rfl, rfl, rfl⟩ | ⟨hx, hg, hn, rfl⟩
  · rw [loop_run]
    simp only [r261L0, run0, run1, run2, run3, run4, noSlot, memN, RO.dst, lk, drop, forget, number, Nat.reduceBEq, cut?, splice?, builds, List.length_cons, List.length_nil, List.drop_succ_cons, List.drop_zero, List.take_succ_cons, List.take_zero, List.cons_append, List.nil_append, List.append_nil, List.drop_nil, List.take_nil, Nat.reduceAdd, Nat.reduceLeDiff, Nat.zero_add, Nat.add_zero, ↓reduceIte, Bool.not_true, Bool.not_false, decide_true, decide_false, eq_self, bne_self_eq_false, List.getElem?_cons_zero, List.getElem?_cons_succ, decide_eq_true_eq, Bool.false_eq_true, Bool.true_eq_false, reduceCtorEq, Nat.le_refl, show ¬ ((0 : Int) < 0) from by omega]
    exact ⟨h, by simp, Mk.refl _ _, by simpa [Account.marks] using w⟩
  · have hfl : h.floor ≤ x.sid := hlo _ (by simp)
    have key : loop F Z [0, 1, 5] r261L0 ⟨[(0, .c x), (1, .c (.int .i64 (k + 5 * (0 : Nat)))), (5, .c (.int .i64 (0 : Nat)))], [], [], h.put x.sid (mixR Account.enc (Account.marks xs.length k) xs 0)⟩ = loop F Z [0, 1, 5] r261L0 ⟨[(0, .c x), (1, .c (.int .i64 (k + 5 * (xs.length : Nat)))), (5, .c (.int .i64 (xs.length : Nat)))], [], [], h.put x.sid (mixR Account.enc (Account.marks xs.length k) xs xs.length)⟩ :=
      loop_goesF xs.length (fun i => ⟨[(0, .c x), (1, .c (.int .i64 (k + 5 * (i : Nat)))), (5, .c (.int .i64 (i : Nat)))], [], [], h.put x.sid (mixR Account.enc (Account.marks xs.length k) xs i)⟩) fun i hi => by
        have hlt : (i : Int) < xs.length := by omega
        have hi2 : i < (mixR Account.enc (Account.marks xs.length k) xs i).length := by rw [mixR_len _ hlm]; exact hi
        have hms : (Account.marks xs.length k)[i]'(by omega) = Account.mk_ (k + 5 * i) := by simp [Account.marks]
        have hset := mixR_set Account.enc hlm hi
        rw [hms] at hset
        have hput := storeP_put (h := h) hfl hi2
        rw [← mixR_cur Account.enc hlm hi, ← hset, loop_run]
        simp (disch := omega) only [r261L0, run0, run1, run2, run3, run4, noSlot, memN, RO.dst, lk, drop, forget, number, Nat.reduceBEq, cut?, splice?, builds, List.length_cons, List.length_nil, List.drop_succ_cons, List.drop_zero, List.take_succ_cons, List.take_zero, List.cons_append, List.nil_append, List.append_nil, List.drop_nil, List.take_nil, Nat.reduceAdd, Nat.reduceLeDiff, Nat.zero_add, Nat.add_zero, ↓reduceIte, Bool.not_true, Bool.not_false, decide_true, decide_false, eq_self, bne_self_eq_false, List.getElem?_cons_zero, List.getElem?_cons_succ, decide_eq_true_eq, Bool.false_eq_true, Bool.true_eq_false, reduceCtorEq, Nat.le_refl, w.len, hlt, w.idx hi, hput, putM_s, wrapI1, wrapU1, Account.enc, Int.reduceEq, Account.mk_]
        rw [show k + 5 * ((i : Nat) : Int) + 1 + 1 + 1 + 1 + 1 = k + 5 * ((i + 1 : Nat) : Int) from by omega, show ((i : Nat) : Int) + 1 = ((i + 1 : Nat) : Int) from rfl]
    rw [mixR_0, put_same hg, mixR_n _ hlm] at key
    simp only [show ((0 : Nat) : Int) = 0 from rfl, Int.mul_zero, Int.add_zero] at key
    rw [key, loop_run]
    have hlt : ¬ (xs.length : Int) < xs.length := by omega
    simp only [r261L0, run0, run1, run2, run3, run4, noSlot, memN, RO.dst, lk, drop, forget, number, Nat.reduceBEq, cut?, splice?, builds, List.length_cons, List.length_nil, List.drop_succ_cons, List.drop_zero, List.take_succ_cons, List.take_zero, List.cons_append, List.nil_append, List.append_nil, List.drop_nil, List.take_nil, Nat.reduceAdd, Nat.reduceLeDiff, Nat.zero_add, Nat.add_zero, ↓reduceIte, Bool.not_true, Bool.not_false, decide_true, decide_false, eq_self, bne_self_eq_false, List.getElem?_cons_zero, List.getElem?_cons_succ, decide_eq_true_eq, Bool.false_eq_true, Bool.true_eq_false, reduceCtorEq, Nat.le_refl, w.len, hlt]
    refine ⟨_, rfl, Mk.put _ _ _, ?_⟩
    have := SlR.ofFlat (tag := 11) (h := h.put x.sid ((Account.marks xs.length k).map Account.enc)) (enc := Account.enc) (xs := Account.marks xs.length k) (id := x.sid) (by rw [hlm]; exact w.le) (by simp [Heap.put]) hn
    rw [hlm, ← hx] at this
    exact this
set_option maxHeartbeats 1000000 in
theorem heldAccountS_run (hL : Has F tLAccount) {n : Nat} {k : Int} (w : SlR 11 (Fl Account.enc) h x (Account.marks n k) fp) (h1 : 0 ≤ k) (h2 : k + 5 * n ≤ 4611686018427387904) :
    call F Z 262 [.c x, .c (.int .i64 k)] h = some (.c (.int .i64 (k + 5 * n)), h) := by
  have hle := w.le2
  have hwl := w.len
  rw [Account.marks_len] at hle hwl
  rw [call_run F Z (hL.lk (g := 262) rfl) _ _ rfl]
  simp only [run0, run1, run2, run3, run4, noSlot, memN, RO.dst, lk, drop, forget, number, Nat.reduceBEq, cut?, splice?, builds, List.length_cons, List.length_nil, List.drop_succ_cons, List.drop_zero, List.take_succ_cons, List.take_zero, List.cons_append, List.nil_append, List.append_nil, List.drop_nil, List.take_nil, Nat.reduceAdd, Nat.reduceLeDiff, Nat.zero_add, Nat.add_zero, ↓reduceIte, Bool.not_true, Bool.not_false, decide_true, decide_false, eq_self, bne_self_eq_false, List.getElem?_cons_zero, List.getElem?_cons_succ, decide_eq_true_eq, Bool.false_eq_true, Bool.true_eq_false, reduceCtorEq, Nat.le_refl]
  have key : loop F Z [0, 1, 5] r262L0 ⟨[(0, .c x), (1, .c (.int .i64 (k + 5 * (0 : Nat)))), (5, .c (.int .i64 (0 : Nat)))], [], [], h⟩ = loop F Z [0, 1, 5] r262L0 ⟨[(0, .c x), (1, .c (.int .i64 (k + 5 * (n : Nat)))), (5, .c (.int .i64 (n : Nat)))], [], [], h⟩ :=
    loop_goesF n (fun i => ⟨[(0, .c x), (1, .c (.int .i64 (k + 5 * (i : Nat)))), (5, .c (.int .i64 (i : Nat)))], [], [], h⟩) fun i hi0 => by
      have hi : i < (Account.marks n k).length := by rw [Account.marks_len]; exact hi0
      have hlt : (i : Int) < n := by omega
      have hms : (Account.marks n k)[i] = Account.mk_ (k + 5 * i) := by simp [Account.marks]
      have hld := w.load hi
      rw [hms] at hld
      rw [loop_run]
      simp (disch := omega) only [r262L0, run0, run1, run2, run3, run4, noSlot, memN, RO.dst, lk, drop, forget, number, Nat.reduceBEq, cut?, splice?, builds, List.length_cons, List.length_nil, List.drop_succ_cons, List.drop_zero, List.take_succ_cons, List.take_zero, List.cons_append, List.nil_append, List.append_nil, List.drop_nil, List.take_nil, Nat.reduceAdd, Nat.reduceLeDiff, Nat.zero_add, Nat.add_zero, ↓reduceIte, Bool.not_true, Bool.not_false, decide_true, decide_false, eq_self, bne_self_eq_false, List.getElem?_cons_zero, List.getElem?_cons_succ, decide_eq_true_eq, Bool.false_eq_true, Bool.true_eq_false, reduceCtorEq, Nat.le_refl, hwl, hlt, w.idx hi, hld, wrapI1, wrapU1, Account.enc, Account.mk_, Int.reduceEq]
      rw [show k + 5 * ((i : Nat) : Int) + 1 + 1 + 1 + 1 + 1 = k + 5 * ((i + 1 : Nat) : Int) from by omega, show ((i : Nat) : Int) + 1 = ((i + 1 : Nat) : Int) from rfl]
  simp only [show ((0 : Nat) : Int) = 0 from rfl, Int.mul_zero, Int.add_zero] at key
  rw [key, loop_run]
  have hlt : ¬ (n : Int) < n := by omega
  simp only [r262L0, run0, run1, run2, run3, run4, noSlot, memN, RO.dst, lk, drop, forget, number, Nat.reduceBEq, cut?, splice?, builds, List.length_cons, List.length_nil, List.drop_succ_cons, List.drop_zero, List.take_succ_cons, List.take_zero, List.cons_append, List.nil_append, List.append_nil, List.drop_nil, List.take_nil, Nat.reduceAdd, Nat.reduceLeDiff, Nat.zero_add, Nat.add_zero, ↓reduceIte, Bool.not_true, Bool.not_false, decide_true, decide_false, eq_self, bne_self_eq_false, List.getElem?_cons_zero, List.getElem?_cons_succ, decide_eq_true_eq, Bool.false_eq_true, Bool.true_eq_false, reduceCtorEq, Nat.le_refl, hwl, hlt]
end
end Go.Proofs.Ytlbagejkjkfkjaa.A
/- The data of a Book with its memory, and what its converters compute. -/
namespace Go.Proofs.Ytlbagejkjkfkjaa.A
open Go
set_option linter.unusedSimpArgs false
set_option linter.unusedVariables false
structure Book where
  list : List Account
  deriving DecidableEq
def Book.RL : Rel Book := fun h cs t fp => ∃ x1 p1, cs = [x1] ∧ fp = p1 ∧ SlR 12 (Fl Account.enc) h x1 t.list p1
theorem Book.okL : RelOk Book.RL where
  lt := by
    rintro h cs t fp ⟨x1, p1, rfl, rfl, w1⟩ id hid
    exact w1.lt (Fl.ok _) id hid
  mv := by
    rintro h h' cs t fp ⟨x1, p1, rfl, rfl, w1⟩ hn hg
    exact ⟨x1, _, rfl, rfl, w1.mv (Fl.ok _) hn hg⟩
def Book.RI : Rel Book := fun h cs t fp => ∃ x1 p1, cs = [x1] ∧ fp = p1 ∧ SlR 11 (Fl Account.enc) h x1 t.list p1
theorem Book.okI : RelOk Book.RI where
  lt := by
    rintro h cs t fp ⟨x1, p1, rfl, rfl, w1⟩ id hid
    exact w1.lt (Fl.ok _) id hid
  mv := by
    rintro h h' cs t fp ⟨x1, p1, rfl, rfl, w1⟩ hn hg
    exact ⟨x1, _, rfl, rfl, w1.mv (Fl.ok _) hn hg⟩
theorem Book.lenL {h : Heap} {cs : List Cell} {t : Book} {fp : List Nat} (v : Book.RL h cs t fp) : cs.length = 1 ∧ cs.take 1 = cs ∧ cs.drop 1 = [] := by
  obtain ⟨x1, p1, rfl, _⟩ := v
  exact ⟨rfl, rfl, rfl⟩
theorem Book.lenI {h : Heap} {cs : List Cell} {t : Book} {fp : List Nat} (v : Book.RI h cs t fp) : cs.length = 1 ∧ cs.take 1 = cs ∧ cs.drop 1 = [] := by
  obtain ⟨x1, p1, rfl, _⟩ := v
  exact ⟨rfl, rfl, rfl⟩
namespace Book
/-- The numbers are those of the machine. -/
structure Ok (t : Book) : Prop where
  list : ∀ a, a ∈ t.list → a.Ok
def Small (t : Book) : Prop := t.list.length ≤ 1048576
def wt (t : Book) : Int := 5 * ((t.list.length : Nat) : Int)
def marked (t : Book) (k : Int) : Book := { t with list := Account.marks t.list.length (k) }
theorem wt_nn (t : Book) : 0 ≤ t.wt := by
  simp only [wt]; omega
theorem wt_le {t : Book} (sm : t.Small) : t.wt ≤ 5242880 := by
  unfold Small at sm
  simp only [wt]; omega
end Book
theorem Wf.isBook {h : Heap} {n : Nat} {cs : List Cell} (w : Wf h (n + 4) shBook cs) : ∃ t fp, Book.RL h cs t fp ∧ t.Ok := by
  obtain ⟨_, _, rfl, _, m1, rfl⟩ := w
  obtain ⟨x1, l1, p1, rfl, w1, o1⟩ := Wf.isAccountS' m1
  exact ⟨⟨l1⟩, _, ⟨x1, _, rfl, rfl, w1⟩, ⟨o1⟩⟩
section
variable {F : Nat → Option RF} {Z : CallF} {h : Heap} {cs cs' : List Cell} {t u : Book} {fp fq : List Nat}
theorem szBook_c (hLBook : Has F tLBook) (hLAccount : Has F tLAccount) (v : Book.RL h cs t fp) (left : Int) (h1 : 0 ≤ left) (h2 : left ≤ 1048576) : ∃ r, call F Z 128 [.agg cs, .c (.int .i64 left)] h = some (.c (.int .i64 r), h) ∧ r ≤ left ∧ (0 ≤ r → t.Small) := by
  obtain ⟨x1, p1, rfl, rfl, w1⟩ := v
  rw [call_run F Z (hLBook.lk (g := 128) rfl) _ _ rfl]
  simp only [run0, run1, run2, run3, run4, noSlot, memN, RO.dst, lk, drop, forget, number, Nat.reduceBEq, cut?, splice?, builds, List.length_cons, List.length_nil, List.drop_succ_cons, List.drop_zero, List.take_succ_cons, List.take_zero, List.cons_append, List.nil_append, List.append_nil, List.drop_nil, List.take_nil, Nat.reduceAdd, Nat.reduceLeDiff, Nat.zero_add, Nat.add_zero, ↓reduceIte, Bool.not_true, Bool.not_false, decide_true, decide_false, eq_self, bne_self_eq_false, List.getElem?_cons_zero, List.getElem?_cons_succ, decide_eq_true_eq, Bool.false_eq_true, Bool.true_eq_false, reduceCtorEq, Nat.le_refl]
  obtain ⟨l0, s0, a0, b0⟩ := szAccountS_c (Z := Z) hLAccount w1 left (by omega) (by omega)
  simp only [run0, run1, run2, run3, run4, noSlot, memN, RO.dst, lk, drop, forget, number, Nat.reduceBEq, cut?, splice?, builds, List.length_cons, List.length_nil, List.drop_succ_cons, List.drop_zero, List.take_succ_cons, List.take_zero, List.cons_append, List.nil_append, List.append_nil, List.drop_nil, List.take_nil, Nat.reduceAdd, Nat.reduceLeDiff, Nat.zero_add, Nat.add_zero, ↓reduceIte, Bool.not_true, Bool.not_false, decide_true, decide_false, eq_self, bne_self_eq_false, List.getElem?_cons_zero, List.getElem?_cons_succ, decide_eq_true_eq, Bool.false_eq_true, Bool.true_eq_false, reduceCtorEq, Nat.le_refl, s0]
  by_cases n0 : l0 < 0
  · simp only [run0, run1, run2, run3, run4, noSlot, memN, RO.dst, lk, drop, forget, number, Nat.reduceBEq, cut?, splice?, builds, List.length_cons, List.length_nil, List.drop_succ_cons, List.drop_zero, List.take_succ_cons, List.take_zero, List.cons_append, List.nil_append, List.append_nil, List.drop_nil, List.take_nil, Nat.reduceAdd, Nat.reduceLeDiff, Nat.zero_add, Nat.add_zero, ↓reduceIte, Bool.not_true, Bool.not_false, decide_true, decide_false, eq_self, bne_self_eq_false, List.getElem?_cons_zero, List.getElem?_cons_succ, decide_eq_true_eq, Bool.false_eq_true, Bool.true_eq_false, reduceCtorEq, Nat.le_refl, n0]
    exact ⟨_, rfl, by omega, by omega⟩
  simp only [run0, run1, run2, run3, run4, noSlot, memN, RO.dst, lk, drop, forget, number, Nat.reduceBEq, cut?, splice?, builds, List.length_cons, List.length_nil, List.drop_succ_cons, List.drop_zero, List.take_succ_cons, List.take_zero, List.cons_append, List.nil_append, List.append_nil, List.drop_nil, List.take_nil, Nat.reduceAdd, Nat.reduceLeDiff, Nat.zero_add, Nat.add_zero, ↓reduceIte, Bool.not_true, Bool.not_false, decide_true, decide_false, eq_self, bne_self_eq_false, List.getElem?_cons_zero, List.getElem?_cons_succ, decide_eq_true_eq, Bool.false_eq_true, Bool.true_eq_false, reduceCtorEq, Nat.le_refl, n0]
  exact ⟨_, rfl, by omega, fun _ => b0 (by omega)⟩
theorem toBook_c (hLBook : Has F tLBook) (hLAccount : Has F tLAccount) (hf : h.floor ≤ h.next) (v : Book.RL h cs t fp) (sm : t.Small) : ∃ cs' h' fq, call F Z 130 [.agg cs] h = some (.agg cs', h') ∧ On h h' ∧ Book.RI h' cs' t fq ∧ Fre h fq := by
  obtain ⟨x1, p1, rfl, rfl, w1⟩ := v
  have sm0 := sm
  obtain ⟨y1, g0, q1, e0, o0, u1, r0⟩ := toAccountS_c (Z := Z) hLAccount hf w1 sm0
  rw [call_run F Z (hLBook.lk (g := 130) rfl) _ _ rfl]
  simp only [run0, run1, run2, run3, run4, noSlot, memN, RO.dst, lk, drop, forget, number, Nat.reduceBEq, cut?, splice?, builds, List.length_cons, List.length_nil, List.drop_succ_cons, List.drop_zero, List.take_succ_cons, List.take_zero, List.cons_append, List.nil_append, List.append_nil, List.drop_nil, List.take_nil, Nat.reduceAdd, Nat.reduceLeDiff, Nat.zero_add, Nat.add_zero, ↓reduceIte, Bool.not_true, Bool.not_false, decide_true, decide_false, eq_self, bne_self_eq_false, List.getElem?_cons_zero, List.getElem?_cons_succ, decide_eq_true_eq, Bool.false_eq_true, Bool.true_eq_false, reduceCtorEq, Nat.le_refl, e0]
  exact ⟨_, _, _, rfl, o0, ⟨y1, _, rfl, rfl, u1⟩, r0⟩
set_option maxHeartbeats 1000000 in
theorem eqBook_r (hLBook : Has F tLBook) (hLAccount : Has F tLAccount) (v : Book.RI h cs t fp) (v' : Book.RI h cs' u fq) : call F Z 133 [.agg cs, .agg cs'] h = some (.c (.bool (decide (t = u))), h) := by
  obtain ⟨x1, p1, rfl, rfl, w1⟩ := v
  obtain ⟨x1', p1', rfl, rfl, w1'⟩ := v'
  obtain ⟨list1⟩ := t
  obtain ⟨list2⟩ := u
  have e0 := eqAccountS_run (Z := Z) hLAccount w1 w1'
  clear w1 w1'
  rw [call_run F Z (hLBook.lk (g := 133) rfl) _ _ rfl]
  simp only [run0, run1, run2, run3, run4, noSlot, memN, RO.dst, lk, drop, forget, number, Nat.reduceBEq, cut?, splice?, builds, List.length_cons, List.length_nil, List.drop_succ_cons, List.drop_zero, List.take_succ_cons, List.take_zero, List.cons_append, List.nil_append, List.append_nil, List.drop_nil, List.take_nil, Nat.reduceAdd, Nat.reduceLeDiff, Nat.zero_add, Nat.add_zero, ↓reduceIte, Bool.not_true, Bool.not_false, decide_true, decide_false, eq_self, bne_self_eq_false, List.getElem?_cons_zero, List.getElem?_cons_succ, decide_eq_true_eq, Bool.false_eq_true, Bool.true_eq_false, reduceCtorEq, Nat.le_refl, e0]
  (repeat' ((first | (rw [gF_if]; split) | (rw [condC_if]; split) | (rw [pickR_if]; split)) <;> (rename_i hh; (try simp only [Bool.not_eq_true, decide_eq_true_eq] at hh); simp only [hh, run0, run1, run2, run3, run4, noSlot, memN, RO.dst, lk, drop, forget, number, Nat.reduceBEq, cut?, splice?, builds, List.length_cons, List.length_nil, List.drop_succ_cons, List.drop_zero, List.take_succ_cons, List.take_zero, List.cons_append, List.nil_append, List.append_nil, List.drop_nil, List.take_nil, Nat.reduceAdd, Nat.reduceLeDiff, Nat.zero_add, Nat.add_zero, ↓reduceIte, Bool.not_true, Bool.not_false, decide_true, decide_false, eq_self, bne_self_eq_false, List.getElem?_cons_zero, List.getElem?_cons_succ, decide_eq_true_eq, Bool.false_eq_true, Bool.true_eq_false, reduceCtorEq, Nat.le_refl, e0]))) <;> clear e0 <;> refine fin_bool ?_ <;> simp_all <;> (try (intros; omega))
theorem markBook_r (hLBook : Has F tLBook) (hLAccount : Has F tLAccount) (v : Book.RI h cs t fp) (nd : fp.Nodup) (hlo : ∀ id, id ∈ fp → h.floor ≤ id) (k : Int) (h1 : 0 ≤ k) (h2 : k + t.wt ≤ 4611686018427387904) : ∃ h', call F Z 231 [.agg cs, .c (.int .i64 k)] h = some (.c (.int .i64 (k + t.wt)), h') ∧ Mk h h' fp ∧ Book.RI h' cs (t.marked k) fp := by
  obtain ⟨x1, p1, rfl, rfl, w1⟩ := v
  simp only [Book.wt] at h2 ⊢
  obtain ⟨h', e0, m0, u1⟩ := markAccountS_run (Z := Z) hLAccount w1 hlo k h1 h2
  rw [call_run F Z (hLBook.lk (g := 231) rfl) _ _ rfl]
  simp only [run0, run1, run2, run3, run4, noSlot, memN, RO.dst, lk, drop, forget, number, Nat.reduceBEq, cut?, splice?, builds, List.length_cons, List.length_nil, List.drop_succ_cons, List.drop_zero, List.take_succ_cons, List.take_zero, List.cons_append, List.nil_append, List.append_nil, List.drop_nil, List.take_nil, Nat.reduceAdd, Nat.reduceLeDiff, Nat.zero_add, Nat.add_zero, ↓reduceIte, Bool.not_true, Bool.not_false, decide_true, decide_false, eq_self, bne_self_eq_false, List.getElem?_cons_zero, List.getElem?_cons_succ, decide_eq_true_eq, Bool.false_eq_true, Bool.true_eq_false, reduceCtorEq, Nat.le_refl, e0]
  exact ⟨_, rfl, m0, ⟨x1, _, rfl, rfl, u1⟩⟩
theorem heldBook_r (hLBook : Has F tLBook) (hLAccount : Has F tLAccount) {k : Int} (v : Book.RI h cs (t.marked k) fp) (h1 : 0 ≤ k) (h2 : k + t.wt ≤ 4611686018427387904) : call F Z 233 [.agg cs, .c (.int .i64 k)] h = some (.c (.int .i64 (k + t.wt)), h) := by
  obtain ⟨x1, p1, rfl, rfl, w1⟩ := v
  simp only [Book.wt] at h2 ⊢
  have e0 := heldAccountS_run (Z := Z) hLAccount w1 h1 h2
  have n0 : ¬ k + 5 * ((t.list.length : Nat) : Int) < 0 := by omega
  rw [call_run F Z (hLBook.lk (g := 233) rfl) _ _ rfl]
  simp only [Book.marked, run0, run1, run2, run3, run4, noSlot, memN, RO.dst, lk, drop, forget, number, Nat.reduceBEq, cut?, splice?, builds, List.length_cons, List.length_nil, List.drop_succ_cons, List.drop_zero, List.take_succ_cons, List.take_zero, List.cons_append, List.nil_append, List.append_nil, List.drop_nil, List.take_nil, Nat.reduceAdd, Nat.reduceLeDiff, Nat.zero_add, Nat.add_zero, ↓reduceIte, Bool.not_true, Bool.not_false, decide_true, decide_false, eq_self, bne_self_eq_false, List.getElem?_cons_zero, List.getElem?_cons_succ, decide_eq_true_eq, Bool.false_eq_true, Bool.true_eq_false, reduceCtorEq, Nat.le_refl] at e0 ⊢
  simp only [run0, run1, run2, run3, run4, noSlot, memN, RO.dst, lk, drop, forget, number, Nat.reduceBEq, cut?, splice?, builds, List.length_cons, List.length_nil, List.drop_succ_cons, List.drop_zero, List.take_succ_cons, List.take_zero, List.cons_append, List.nil_append, List.append_nil, List.drop_nil, List.take_nil, Nat.reduceAdd, Nat.reduceLeDiff, Nat.zero_add, Nat.add_zero, ↓reduceIte, Bool.not_true, Bool.not_false, decide_true, decide_false, eq_self, bne_self_eq_false, List.getElem?_cons_zero, List.getElem?_cons_succ, decide_eq_true_eq, Bool.false_eq_true, Bool.true_eq_false, reduceCtorEq, Nat.le_refl, e0, n0]
end
end Go.Proofs.Ytlbagejkjkfkjaa.A
