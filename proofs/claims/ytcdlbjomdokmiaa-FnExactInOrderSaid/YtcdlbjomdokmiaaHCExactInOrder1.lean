/- The functions that the statement reaches, part 1: bodies and what they compute. No condition. -/
import Derived.Test.YtcdlbjomdokmiaaA1
import Derived.Test.YtcdlbjomdokmiaaB8
import Derived.Test.YtcdlbjomdokmiaaB6
import Derived.Test.YtcdlbjomdokmiaaB5
import Derived.Test.YtcdlbjomdokmiaaD
/- The compact code of some functions: impl.totalOf, impl.copyBook, impl.isBook, impl.OpenAccount, impl.CloseAccount, impl.Deposit, impl.Withdraw, impl.MoveMoney, impl.accountOf, impl.CloseAccount$1, impl.change, impl.Deposit$1, impl.Withdraw$1. -/
namespace Go.Proofs.Ytcdlbjomdokmiaa.A
open Go
/-- A loop of impl.totalOf. -/
def r209L0 : RC :=
 .seq (.reg [⟨none, .bin 14 .lss (.t 13) (.t 12)⟩])
    (.seq (.cond (.t 14)
     (.skip)
     (.exit 0))
    (.seq (.block 1 (.seq (.reg [⟨none, .idx 15 11 (.t 11) (.t 13)⟩,
       ⟨none, .load 16 15 5 true⟩,
       ⟨none, .loc 7 [.int .u64 0, .int .u64 0, .int .u64 0, .int .u64 0, .int .i64 0]⟩,
       ⟨none, .store 7 5 (.t 16)⟩])
      (.seq (.reg [⟨none, .mov 18 (.t 5)⟩,
       ⟨none, .fad 19 7 1⟩,
       ⟨none, .load 20 19 1 false⟩,
       ⟨none, .fad 21 7 2⟩,
       ⟨none, .load 22 21 1 false⟩,
       ⟨none, .bin 23 .add (.t 20) (.t 22)⟩,
       ⟨none, .add 24 (.t 18) (.t 23) (.k (.int .u64 0))⟩,
       ⟨none, .mov 17 (.t 24)⟩,
       ⟨none, .ext 25 (.t 17) 0⟩,
       ⟨none, .ext 26 (.t 17) 1⟩,
       ⟨none, .mov 8 (.t 25)⟩,
       ⟨none, .mov 9 (.t 26)⟩])
      (.seq (.reg [⟨none, .mov 27 (.t 8)⟩,
       ⟨none, .mov 5 (.t 27)⟩])
      (.reg [⟨none, .mov 28 (.t 4)⟩,
      ⟨none, .mov 29 (.t 9)⟩,
      ⟨none, .bin 30 .add (.t 28) (.t 29)⟩,
      ⟨none, .mov 4 (.t 30)⟩])))))
    (.reg [⟨none, .bin 31 .add (.t 13) (.k (.int .i64 1))⟩,
    ⟨none, .mov 13 (.t 31)⟩])))
/-- impl.totalOf -/
def r209 : RF :=
 ⟨1, [.tmp 2, .tmp 3],
 .seq (.reg [⟨none, .locb 1 (.t 0)⟩,
  ⟨none, .mov 2 (.k (.int .u64 0))⟩,
  ⟨none, .mov 3 (.k (.int .u64 0))⟩])
 (.seq (.reg [⟨none, .mov 4 (.k (.int .u64 0))⟩,
  ⟨none, .mov 5 (.k (.int .u64 0))⟩])
 (.seq (.seq (.reg [⟨none, .fad 10 1 0⟩,
   ⟨none, .load 11 10 1 false⟩,
   ⟨none, .len 12 (.t 11)⟩,
   ⟨none, .mov 13 (.k (.int .i64 0))⟩])
  (.block 0 (.loop [4, 5, 11, 12, 13]
   r209L0)))
 (.seq (.reg [⟨none, .mov 32 (.t 4)⟩,
  ⟨none, .mov 33 (.t 5)⟩,
  ⟨none, .mov 2 (.t 32)⟩,
  ⟨none, .mov 3 (.t 33)⟩])
 (.ret))))⟩
/-- impl.copyBook -/
def r260 : RF :=
 ⟨1, [.cell 2 1 true],
 .seq (.reg [⟨none, .locb 1 (.t 0)⟩,
  ⟨none, .loc 2 [.nil]⟩])
 (.seq (.reg [⟨none, .lit 3 11 0 [.int .u64 0, .int .u64 0, .int .u64 0, .int .u64 0, .int .i64 0] []⟩,
  ⟨none, .fad 4 1 0⟩,
  ⟨none, .load 5 4 1 false⟩,
  ⟨none, .app 6 11 40 (.t 3) (.t 5)⟩,
  ⟨none, .build 7 [.nil] [(0, 1, (.t 6))]⟩,
  ⟨none, .store 2 1 (.t 7)⟩])
 (.ret))⟩
/-- A loop of impl.isBook. -/
def r265L0 : RC :=
 .seq (.reg [⟨none, .bin 13 .lss (.t 12) (.t 11)⟩])
    (.seq (.cond (.t 13)
     (.skip)
     (.exit 0))
    (.seq (.block 1 (.seq (.reg [⟨none, .mov 14 (.t 12)⟩,
       ⟨none, .idx 15 11 (.t 10) (.t 12)⟩,
       ⟨none, .load 16 15 5 true⟩,
       ⟨none, .loc 4 [.int .u64 0, .int .u64 0, .int .u64 0, .int .u64 0, .int .i64 0]⟩,
       ⟨none, .mov 3 (.t 14)⟩,
       ⟨none, .store 4 5 (.t 16)⟩])
      (.seq (.reg [⟨none, .fad 18 4 1⟩,
       ⟨none, .load 19 18 1 false⟩,
       ⟨none, .fad 20 4 2⟩,
       ⟨none, .load 21 20 1 false⟩,
       ⟨none, .add 22 (.t 19) (.t 21) (.k (.int .u64 0))⟩,
       ⟨none, .mov 17 (.t 22)⟩,
       ⟨none, .ext 23 (.t 17) 0⟩,
       ⟨none, .ext 24 (.t 17) 1⟩,
       ⟨none, .mov 5 (.t 23)⟩,
       ⟨none, .mov 6 (.t 24)⟩])
      (.seq (.reg [⟨none, .fad 26 4 1⟩,
       ⟨none, .load 27 26 1 false⟩,
       ⟨none, .fad 28 4 2⟩,
       ⟨none, .load 29 28 1 false⟩,
       ⟨none, .bin 30 .add (.t 27) (.t 29)⟩,
       ⟨none, .fad 31 4 3⟩,
       ⟨none, .load 32 31 1 false⟩,
       ⟨none, .add 33 (.t 30) (.t 32) (.k (.int .u64 0))⟩,
       ⟨none, .mov 25 (.t 33)⟩,
       ⟨none, .ext 34 (.t 25) 0⟩,
       ⟨none, .ext 35 (.t 25) 1⟩,
       ⟨none, .mov 7 (.t 34)⟩,
       ⟨none, .mov 8 (.t 35)⟩])
      (.seq (.reg [⟨none, .chk []⟩,
       ⟨none, .mov 36 (.t 6)⟩,
       ⟨none, .mov 37 (.t 8)⟩,
       ⟨none, .bin 38 .add (.t 36) (.t 37)⟩,
       ⟨none, .bin 39 .gtr (.t 38) (.k (.int .u64 0))⟩,
       ⟨none, .mov 40 (.t 39)⟩,
       ⟨some (40, false), .fad 41 4 4⟩,
       ⟨some (40, false), .load 42 41 1 false⟩,
       ⟨some (40, false), .bin 43 .lss (.t 42) (.k (.int .i64 0))⟩,
       ⟨none, .pick 44 (.t 40) (.k (.bool true)) (.t 43)⟩,
       ⟨none, .mov 45 (.t 44)⟩,
       ⟨some (45, false), .fad 46 4 4⟩,
       ⟨some (45, false), .load 47 46 1 false⟩,
       ⟨some (45, false), .bin 48 .eql (.t 47) (.k (.int .i64 0))⟩,
       ⟨some (45, false), .mov 49 (.t 48)⟩,
       ⟨some (49, true), .fad 50 4 2⟩,
       ⟨some (49, true), .load 51 50 1 false⟩,
       ⟨some (49, true), .bin 52 .neq (.t 51) (.k (.int .u64 0))⟩,
       ⟨some (49, true), .mov 53 (.t 52)⟩,
       ⟨some (53, false), .fad 54 4 3⟩,
       ⟨some (53, false), .load 55 54 1 false⟩,
       ⟨some (53, false), .bin 56 .neq (.t 55) (.k (.int .u64 0))⟩,
       ⟨some (49, true), .pick 57 (.t 53) (.k (.bool true)) (.t 56)⟩,
       ⟨some (45, false), .pick 58 (.t 49) (.t 57) (.k (.bool false))⟩,
       ⟨none, .pick 59 (.t 45) (.k (.bool true)) (.t 58)⟩,
       ⟨none, .mov 60 (.t 59)⟩,
       ⟨some (60, false), .mov 61 (.t 3)⟩,
       ⟨some (60, false), .bin 62 .gtr (.t 61) (.k (.int .i64 0))⟩,
       ⟨some (60, false), .mov 63 (.t 62)⟩,
       ⟨some (63, true), .mov 66 (.t 3)⟩,
       ⟨some (63, true), .bin 67 .sub (.t 66) (.k (.int .i64 1))⟩,
       ⟨some (63, true), .fad 64 1 0⟩,
       ⟨some (63, true), .load 65 64 1 false⟩,
       ⟨some (63, true), .idx 68 11 (.t 65) (.t 67)⟩,
       ⟨some (63, true), .fad 69 68 0⟩,
       ⟨some (63, true), .load 70 69 1 false⟩,
       ⟨some (63, true), .fad 71 4 0⟩,
       ⟨some (63, true), .load 72 71 1 false⟩,
       ⟨some (63, true), .bin 73 .geq (.t 70) (.t 72)⟩,
       ⟨some (60, false), .pick 74 (.t 63) (.t 73) (.k (.bool false))⟩,
       ⟨none, .pick 75 (.t 60) (.k (.bool true)) (.t 74)⟩])
      (.cond (.t 75)
      (.seq (.reg [⟨none, .mov 2 (.k (.bool false))⟩])
       (.ret))
      (.skip)))))))
    (.reg [⟨none, .bin 76 .add (.t 12) (.k (.int .i64 1))⟩,
    ⟨none, .mov 12 (.t 76)⟩])))
/-- impl.isBook -/
def r265 : RF :=
 ⟨1, [.tmp 2],
 .seq (.reg [⟨none, .locb 1 (.t 0)⟩,
  ⟨none, .mov 2 (.k (.bool false))⟩])
 (.seq (.seq (.reg [⟨none, .fad 9 1 0⟩,
   ⟨none, .load 10 9 1 false⟩,
   ⟨none, .len 11 (.t 10)⟩,
   ⟨none, .mov 12 (.k (.int .i64 0))⟩])
  (.block 0 (.loop [1, 10, 11, 12]
   r265L0)))
 (.seq (.reg [⟨none, .fad 77 1 0⟩,
  ⟨none, .load 78 77 1 false⟩,
  ⟨none, .len 79 (.t 78)⟩,
  ⟨none, .bin 80 .leq (.t 79) (.k (.int .i64 40))⟩,
  ⟨none, .mov 2 (.t 80)⟩])
 (.ret)))⟩
/-- impl.OpenAccount -/
def r337 : RF :=
 ⟨2, [.cell 4 1 true, .tmp 5],
 .seq (.reg [⟨none, .locb 2 (.t 0)⟩,
  ⟨none, .loc 4 [.nil]⟩,
  ⟨none, .mov 5 (.k (.int .i64 0))⟩])
 (.seq (.reg [⟨none, .load 9 2 1 true⟩,
  ⟨none, .call (some 10) 260 [(.t 9)] false⟩,
  ⟨none, .loc 6 [.nil]⟩,
  ⟨none, .store 6 1 (.t 10)⟩])
 (.seq (.reg [⟨none, .load 12 2 1 true⟩,
  ⟨none, .mov 13 (.t 1)⟩,
  ⟨none, .call (some 14) 342 [(.t 12), (.t 13)] false⟩,
  ⟨none, .mov 11 (.t 14)⟩,
  ⟨none, .ext 15 (.t 11) 0⟩,
  ⟨none, .ext 16 (.t 11) 1⟩,
  ⟨none, .mov 7 (.t 15)⟩,
  ⟨none, .mov 8 (.t 16)⟩])
 (.seq (.block 0 (.seq (.reg [⟨none, .load 18 2 1 true⟩,
    ⟨none, .call (some 19) 265 [(.t 18)] false⟩,
    ⟨none, .not 20 (.t 19)⟩,
    ⟨none, .mov 17 (.t 20)⟩])
   (.cond (.t 17)
   (.seq (.reg [⟨none, .load 21 6 1 true⟩,
     ⟨none, .store 4 1 (.t 21)⟩,
     ⟨none, .mov 5 (.k (.int .i64 1))⟩])
    (.ret))
   (.seq (.reg [⟨none, .mov 23 (.t 8)⟩,
     ⟨none, .mov 22 (.t 23)⟩])
    (.cond (.t 22)
    (.seq (.reg [⟨none, .load 24 6 1 true⟩,
      ⟨none, .store 4 1 (.t 24)⟩,
      ⟨none, .mov 5 (.k (.int .i64 3))⟩])
     (.ret))
    (.seq (.reg [⟨none, .fad 26 2 0⟩,
      ⟨none, .load 27 26 1 false⟩,
      ⟨none, .len 28 (.t 27)⟩,
      ⟨none, .bin 29 .eql (.t 28) (.k (.int .i64 40))⟩,
      ⟨none, .mov 25 (.t 29)⟩])
     (.cond (.t 25)
     (.seq (.reg [⟨none, .load 30 6 1 true⟩,
       ⟨none, .store 4 1 (.t 30)⟩,
       ⟨none, .mov 5 (.k (.int .i64 1))⟩])
      (.ret))
     (.skip))))))))
 (.seq (.reg [⟨none, .fad 31 6 0⟩,
  ⟨none, .load 32 31 1 false⟩,
  ⟨none, .mov 33 (.t 7)⟩,
  ⟨none, .mov 34 (.t 1)⟩,
  ⟨none, .build 35 [.int .u64 0, .int .u64 0, .int .u64 0, .int .u64 0, .int .i64 0] [(0, 1, (.t 34))]⟩,
  ⟨none, .lit 36 11 1 [.int .u64 0, .int .u64 0, .int .u64 0, .int .u64 0, .int .i64 0] [(0, (.t 35))]⟩,
  ⟨none, .call (some 37) 343 [(.t 32), (.t 33), (.t 36)] false⟩,
  ⟨none, .fad 38 6 0⟩,
  ⟨none, .store 38 1 (.t 37)⟩])
 (.seq (.reg [⟨none, .load 39 6 1 true⟩,
  ⟨none, .store 4 1 (.t 39)⟩,
  ⟨none, .mov 5 (.k (.int .i64 0))⟩])
 (.ret))))))⟩
/-- impl.CloseAccount -/
def r338 : RF :=
 ⟨2, [.cell 4 1 true, .tmp 5],
 .seq (.reg [⟨none, .locb 2 (.t 0)⟩,
  ⟨none, .loc 4 [.nil]⟩,
  ⟨none, .mov 5 (.k (.int .i64 0))⟩])
 (.seq (.reg [⟨none, .load 6 2 1 true⟩,
  ⟨none, .mov 7 (.t 1)⟩,
  ⟨none, .call (some 8) 345 [(.t 6), (.t 7), (.k (.fn 344 []))] false⟩,
  ⟨none, .ext 9 (.t 8) 0⟩,
  ⟨none, .ext 10 (.t 8) 1⟩,
  ⟨none, .store 4 1 (.t 9)⟩,
  ⟨none, .mov 5 (.t 10)⟩])
 (.ret))⟩
/-- impl.Deposit -/
def r339 : RF :=
 ⟨3, [.cell 6 1 true, .tmp 7],
 .seq (.reg [⟨none, .locb 3 (.t 0)⟩,
  ⟨none, .newb 5 (.t 2)⟩,
  ⟨none, .loc 6 [.nil]⟩,
  ⟨none, .mov 7 (.k (.int .i64 0))⟩])
 (.seq (.reg [⟨none, .load 8 3 1 true⟩,
  ⟨none, .mov 9 (.t 1)⟩,
  ⟨none, .mkf 10 346 [5]⟩,
  ⟨none, .call (some 11) 345 [(.t 8), (.t 9), (.t 10)] false⟩,
  ⟨none, .ext 12 (.t 11) 0⟩,
  ⟨none, .ext 13 (.t 11) 1⟩,
  ⟨none, .store 6 1 (.t 12)⟩,
  ⟨none, .mov 7 (.t 13)⟩])
 (.ret))⟩
/-- impl.Withdraw -/
def r340 : RF :=
 ⟨3, [.cell 6 1 true, .tmp 7],
 .seq (.reg [⟨none, .locb 3 (.t 0)⟩,
  ⟨none, .newb 5 (.t 2)⟩,
  ⟨none, .loc 6 [.nil]⟩,
  ⟨none, .mov 7 (.k (.int .i64 0))⟩])
 (.seq (.reg [⟨none, .load 8 3 1 true⟩,
  ⟨none, .mov 9 (.t 1)⟩,
  ⟨none, .mkf 10 347 [5]⟩,
  ⟨none, .call (some 11) 345 [(.t 8), (.t 9), (.t 10)] false⟩,
  ⟨none, .ext 12 (.t 11) 0⟩,
  ⟨none, .ext 13 (.t 11) 1⟩,
  ⟨none, .store 6 1 (.t 12)⟩,
  ⟨none, .mov 7 (.t 13)⟩])
 (.ret))⟩
/-- impl.MoveMoney -/
def r341 : RF :=
 ⟨4, [.cell 8 1 true, .tmp 9],
 .seq (.reg [⟨none, .locb 4 (.t 0)⟩,
  ⟨none, .loc 8 [.nil]⟩,
  ⟨none, .mov 9 (.k (.int .i64 0))⟩])
 (.seq (.reg [⟨none, .load 15 4 1 true⟩,
  ⟨none, .call (some 16) 260 [(.t 15)] false⟩,
  ⟨none, .loc 10 [.nil]⟩,
  ⟨none, .store 10 1 (.t 16)⟩])
 (.seq (.reg [⟨none, .load 18 4 1 true⟩,
  ⟨none, .mov 19 (.t 1)⟩,
  ⟨none, .call (some 20) 342 [(.t 18), (.t 19)] false⟩,
  ⟨none, .mov 17 (.t 20)⟩,
  ⟨none, .ext 21 (.t 17) 0⟩,
  ⟨none, .ext 22 (.t 17) 1⟩,
  ⟨none, .mov 11 (.t 21)⟩,
  ⟨none, .mov 12 (.t 22)⟩])
 (.seq (.reg [⟨none, .load 24 4 1 true⟩,
  ⟨none, .mov 25 (.t 2)⟩,
  ⟨none, .call (some 26) 342 [(.t 24), (.t 25)] false⟩,
  ⟨none, .mov 23 (.t 26)⟩,
  ⟨none, .ext 27 (.t 23) 0⟩,
  ⟨none, .ext 28 (.t 23) 1⟩,
  ⟨none, .mov 13 (.t 27)⟩,
  ⟨none, .mov 14 (.t 28)⟩])
 (.seq (.block 0 (.seq (.reg [⟨none, .load 30 4 1 true⟩,
    ⟨none, .call (some 31) 265 [(.t 30)] false⟩,
    ⟨none, .not 32 (.t 31)⟩,
    ⟨none, .mov 33 (.t 32)⟩,
    ⟨some (33, false), .mov 34 (.t 1)⟩,
    ⟨some (33, false), .mov 35 (.t 2)⟩,
    ⟨some (33, false), .bin 36 .eql (.t 34) (.t 35)⟩,
    ⟨none, .pick 37 (.t 33) (.k (.bool true)) (.t 36)⟩,
    ⟨none, .mov 29 (.t 37)⟩])
   (.cond (.t 29)
   (.seq (.reg [⟨none, .load 38 10 1 true⟩,
     ⟨none, .store 8 1 (.t 38)⟩,
     ⟨none, .mov 9 (.k (.int .i64 1))⟩])
    (.ret))
   (.seq (.reg [⟨none, .mov 40 (.t 12)⟩,
     ⟨none, .not 41 (.t 40)⟩,
     ⟨none, .mov 42 (.t 41)⟩,
     ⟨some (42, false), .mov 43 (.t 14)⟩,
     ⟨some (42, false), .not 44 (.t 43)⟩,
     ⟨none, .pick 45 (.t 42) (.k (.bool true)) (.t 44)⟩,
     ⟨none, .mov 39 (.t 45)⟩])
    (.cond (.t 39)
    (.seq (.reg [⟨none, .load 46 10 1 true⟩,
      ⟨none, .store 8 1 (.t 46)⟩,
      ⟨none, .mov 9 (.k (.int .i64 2))⟩])
     (.ret))
    (.seq (.reg [⟨none, .fad 48 4 0⟩,
      ⟨none, .load 49 48 1 false⟩,
      ⟨none, .mov 50 (.t 11)⟩,
      ⟨none, .idx 51 11 (.t 49) (.t 50)⟩,
      ⟨none, .fad 52 51 4⟩,
      ⟨none, .load 53 52 1 false⟩,
      ⟨none, .bin 54 .neq (.t 53) (.k (.int .i64 0))⟩,
      ⟨none, .mov 55 (.t 54)⟩,
      ⟨some (55, false), .fad 56 4 0⟩,
      ⟨some (55, false), .load 57 56 1 false⟩,
      ⟨some (55, false), .mov 58 (.t 13)⟩,
      ⟨some (55, false), .idx 59 11 (.t 57) (.t 58)⟩,
      ⟨some (55, false), .fad 60 59 4⟩,
      ⟨some (55, false), .load 61 60 1 false⟩,
      ⟨some (55, false), .bin 62 .neq (.t 61) (.k (.int .i64 0))⟩,
      ⟨none, .pick 63 (.t 55) (.k (.bool true)) (.t 62)⟩,
      ⟨none, .mov 47 (.t 63)⟩])
     (.cond (.t 47)
     (.seq (.reg [⟨none, .load 64 10 1 true⟩,
       ⟨none, .store 8 1 (.t 64)⟩,
       ⟨none, .mov 9 (.k (.int .i64 6))⟩])
      (.ret))
     (.seq (.reg [⟨none, .fad 66 4 0⟩,
       ⟨none, .load 67 66 1 false⟩,
       ⟨none, .mov 68 (.t 11)⟩,
       ⟨none, .idx 69 11 (.t 67) (.t 68)⟩,
       ⟨none, .fad 70 69 1⟩,
       ⟨none, .load 71 70 1 false⟩,
       ⟨none, .mov 72 (.t 3)⟩,
       ⟨none, .bin 73 .lss (.t 71) (.t 72)⟩,
       ⟨none, .mov 65 (.t 73)⟩])
      (.cond (.t 65)
      (.seq (.reg [⟨none, .load 74 10 1 true⟩,
        ⟨none, .store 8 1 (.t 74)⟩,
        ⟨none, .mov 9 (.k (.int .i64 4))⟩])
       (.ret))
      (.seq (.reg [⟨none, .fad 76 4 0⟩,
        ⟨none, .load 77 76 1 false⟩,
        ⟨none, .mov 78 (.t 13)⟩,
        ⟨none, .idx 79 11 (.t 77) (.t 78)⟩,
        ⟨none, .fad 80 79 1⟩,
        ⟨none, .load 81 80 1 false⟩,
        ⟨none, .mov 82 (.t 3)⟩,
        ⟨none, .bin 83 .add (.t 81) (.t 82)⟩,
        ⟨none, .mov 84 (.t 3)⟩,
        ⟨none, .bin 85 .lss (.t 83) (.t 84)⟩,
        ⟨none, .mov 75 (.t 85)⟩])
       (.cond (.t 75)
       (.seq (.reg [⟨none, .load 86 10 1 true⟩,
         ⟨none, .store 8 1 (.t 86)⟩,
         ⟨none, .mov 9 (.k (.int .i64 5))⟩])
        (.ret))
       (.skip))))))))))))
 (.seq (.reg [⟨none, .fad 87 10 0⟩,
  ⟨none, .load 88 87 1 false⟩,
  ⟨none, .mov 89 (.t 11)⟩,
  ⟨none, .idx 90 11 (.t 88) (.t 89)⟩,
  ⟨none, .fad 91 90 1⟩,
  ⟨none, .load 92 91 1 false⟩,
  ⟨none, .mov 93 (.t 3)⟩,
  ⟨none, .bin 94 .sub (.t 92) (.t 93)⟩,
  ⟨none, .idx 95 11 (.t 88) (.t 89)⟩,
  ⟨none, .fad 96 95 1⟩,
  ⟨none, .store 96 1 (.t 94)⟩])
 (.seq (.reg [⟨none, .fad 97 10 0⟩,
  ⟨none, .load 98 97 1 false⟩,
  ⟨none, .mov 99 (.t 13)⟩,
  ⟨none, .idx 100 11 (.t 98) (.t 99)⟩,
  ⟨none, .fad 101 100 1⟩,
  ⟨none, .load 102 101 1 false⟩,
  ⟨none, .mov 103 (.t 3)⟩,
  ⟨none, .bin 104 .add (.t 102) (.t 103)⟩,
  ⟨none, .idx 105 11 (.t 98) (.t 99)⟩,
  ⟨none, .fad 106 105 1⟩,
  ⟨none, .store 106 1 (.t 104)⟩])
 (.seq (.reg [⟨none, .load 107 10 1 true⟩,
  ⟨none, .store 8 1 (.t 107)⟩,
  ⟨none, .mov 9 (.k (.int .i64 0))⟩])
 (.ret))))))))⟩
/-- A loop of impl.accountOf. -/
def r342L0 : RC :=
 .seq (.seq (.reg [⟨none, .mov 7 (.t 6)⟩,
      ⟨none, .fad 8 2 0⟩,
      ⟨none, .load 9 8 1 false⟩,
      ⟨none, .len 10 (.t 9)⟩,
      ⟨none, .bin 11 .lss (.t 7) (.t 10)⟩,
      ⟨none, .mov 12 (.t 11)⟩,
      ⟨some (12, true), .fad 13 2 0⟩,
      ⟨some (12, true), .load 14 13 1 false⟩,
      ⟨some (12, true), .mov 15 (.t 6)⟩,
      ⟨some (12, true), .idx 16 11 (.t 14) (.t 15)⟩,
      ⟨some (12, true), .fad 17 16 0⟩,
      ⟨some (12, true), .load 18 17 1 false⟩,
      ⟨some (12, true), .mov 19 (.t 1)⟩,
      ⟨some (12, true), .bin 20 .lss (.t 18) (.t 19)⟩,
      ⟨none, .pick 21 (.t 12) (.t 20) (.k (.bool false))⟩])
     (.cond (.t 21)
     (.skip)
     (.exit 0)))
    (.block 1 (.reg [⟨none, .mov 22 (.t 6)⟩,
     ⟨none, .bin 23 .add (.t 22) (.k (.int .i64 1))⟩,
     ⟨none, .mov 6 (.t 23)⟩]))
/-- impl.accountOf -/
def r342 : RF :=
 ⟨2, [.tmp 4, .tmp 5],
 .seq (.reg [⟨none, .locb 2 (.t 0)⟩,
  ⟨none, .mov 4 (.k (.int .i64 0))⟩,
  ⟨none, .mov 5 (.k (.bool false))⟩])
 (.seq (.reg [⟨none, .mov 6 (.k (.int .i64 0))⟩])
 (.seq (.block 0 (.loop [1, 2, 6]
   r342L0))
 (.seq (.reg [⟨none, .chk []⟩,
  ⟨none, .mov 24 (.t 6)⟩,
  ⟨none, .mov 25 (.t 6)⟩,
  ⟨none, .fad 26 2 0⟩,
  ⟨none, .load 27 26 1 false⟩,
  ⟨none, .len 28 (.t 27)⟩,
  ⟨none, .bin 29 .lss (.t 25) (.t 28)⟩,
  ⟨none, .mov 30 (.t 29)⟩,
  ⟨some (30, true), .mov 33 (.t 6)⟩,
  ⟨some (30, true), .mov 37 (.t 1)⟩,
  ⟨none, .mov 4 (.t 24)⟩,
  ⟨some (30, true), .fad 31 2 0⟩,
  ⟨some (30, true), .load 32 31 1 false⟩,
  ⟨some (30, true), .idx 34 11 (.t 32) (.t 33)⟩,
  ⟨some (30, true), .fad 35 34 0⟩,
  ⟨some (30, true), .load 36 35 1 false⟩,
  ⟨some (30, true), .bin 38 .eql (.t 36) (.t 37)⟩,
  ⟨none, .pick 39 (.t 30) (.t 38) (.k (.bool false))⟩,
  ⟨none, .mov 5 (.t 39)⟩])
 (.ret))))⟩
/-- impl.CloseAccount$1 -/
def r344 : RF :=
 ⟨1, [.tmp 2],
 .seq (.reg [⟨none, .mov 2 (.k (.int .i64 0))⟩])
 (.seq (.seq (.reg [⟨none, .mov 3 (.t 0)⟩,
   ⟨none, .nilc 4 (.t 3)⟩,
   ⟨none, .fad 5 4 4⟩,
   ⟨none, .load 6 5 1 false⟩,
   ⟨none, .bin 7 .neq (.t 6) (.k (.int .i64 0))⟩])
  (.cond (.t 7)
  (.seq (.reg [⟨none, .mov 2 (.k (.int .i64 6))⟩])
   (.ret))
  (.skip)))
 (.seq (.seq (.reg [⟨none, .mov 8 (.t 0)⟩,
   ⟨none, .nilc 9 (.t 8)⟩,
   ⟨none, .fad 10 9 1⟩,
   ⟨none, .load 11 10 1 false⟩,
   ⟨none, .bin 12 .neq (.t 11) (.k (.int .u64 0))⟩])
  (.cond (.t 12)
  (.seq (.reg [⟨none, .mov 2 (.k (.int .i64 4))⟩])
   (.ret))
  (.skip)))
 (.seq (.reg [⟨none, .mov 13 (.t 0)⟩,
  ⟨none, .nilc 14 (.t 13)⟩,
  ⟨none, .fad 15 14 4⟩,
  ⟨none, .store 15 1 (.k (.int .i64 (-1)))⟩])
 (.seq (.reg [⟨none, .mov 2 (.k (.int .i64 0))⟩])
 (.ret)))))⟩
/-- impl.change -/
def r345 : RF :=
 ⟨3, [.cell 6 1 true, .tmp 7],
 .seq (.reg [⟨none, .locb 3 (.t 0)⟩,
  ⟨none, .loc 6 [.nil]⟩,
  ⟨none, .mov 7 (.k (.int .i64 0))⟩])
 (.seq (.reg [⟨none, .load 12 3 1 true⟩,
  ⟨none, .call (some 13) 260 [(.t 12)] false⟩,
  ⟨none, .loc 8 [.nil]⟩,
  ⟨none, .store 8 1 (.t 13)⟩])
 (.seq (.seq (.reg [⟨none, .load 14 3 1 true⟩,
   ⟨none, .call (some 15) 265 [(.t 14)] false⟩,
   ⟨none, .not 16 (.t 15)⟩])
  (.cond (.t 16)
  (.seq (.reg [⟨none, .load 17 8 1 true⟩,
    ⟨none, .store 6 1 (.t 17)⟩,
    ⟨none, .mov 7 (.k (.int .i64 1))⟩])
   (.ret))
  (.skip)))
 (.seq (.reg [⟨none, .load 19 3 1 true⟩,
  ⟨none, .mov 20 (.t 1)⟩,
  ⟨none, .call (some 21) 342 [(.t 19), (.t 20)] false⟩,
  ⟨none, .mov 18 (.t 21)⟩,
  ⟨none, .ext 22 (.t 18) 0⟩,
  ⟨none, .ext 23 (.t 18) 1⟩,
  ⟨none, .mov 9 (.t 22)⟩,
  ⟨none, .mov 10 (.t 23)⟩])
 (.seq (.seq (.reg [⟨none, .mov 24 (.t 10)⟩,
   ⟨none, .not 25 (.t 24)⟩])
  (.cond (.t 25)
  (.seq (.reg [⟨none, .load 26 8 1 true⟩,
    ⟨none, .store 6 1 (.t 26)⟩,
    ⟨none, .mov 7 (.k (.int .i64 2))⟩])
   (.ret))
  (.skip)))
 (.seq (.seq (.reg [⟨none, .mov 27 (.t 2)⟩,
   ⟨none, .fad 28 8 0⟩,
   ⟨none, .load 29 28 1 false⟩,
   ⟨none, .mov 30 (.t 9)⟩,
   ⟨none, .idx 31 11 (.t 29) (.t 30)⟩,
   ⟨none, .calv (some 32) (.t 27) [(.t 31)] false⟩,
   ⟨none, .mov 11 (.t 32)⟩])
  (.seq (.reg [⟨none, .mov 33 (.t 11)⟩,
   ⟨none, .bin 34 .neq (.t 33) (.k (.int .i64 0))⟩])
  (.cond (.t 34)
  (.seq (.reg [⟨none, .load 35 3 1 true⟩,
    ⟨none, .call (some 36) 260 [(.t 35)] false⟩,
    ⟨none, .mov 37 (.t 11)⟩,
    ⟨none, .store 6 1 (.t 36)⟩,
    ⟨none, .mov 7 (.t 37)⟩])
   (.ret))
  (.skip))))
 (.seq (.seq (.reg [⟨none, .fad 38 8 0⟩,
   ⟨none, .load 39 38 1 false⟩,
   ⟨none, .mov 40 (.t 9)⟩,
   ⟨none, .idx 41 11 (.t 39) (.t 40)⟩,
   ⟨none, .fad 42 41 4⟩,
   ⟨none, .load 43 42 1 false⟩,
   ⟨none, .bin 44 .eql (.t 43) (.k (.int .i64 (-1)))⟩])
  (.cond (.t 44)
  (.reg [⟨none, .fad 45 8 0⟩,
   ⟨none, .load 46 45 1 false⟩,
   ⟨none, .mov 47 (.t 9)⟩,
   ⟨none, .mov 48 (.t 9)⟩,
   ⟨none, .bin 49 .add (.t 48) (.k (.int .i64 1))⟩,
   ⟨none, .call (some 50) 348 [(.t 46), (.t 47), (.t 49)] false⟩,
   ⟨none, .fad 51 8 0⟩,
   ⟨none, .store 51 1 (.t 50)⟩])
  (.skip)))
 (.seq (.reg [⟨none, .load 52 8 1 true⟩,
  ⟨none, .store 6 1 (.t 52)⟩,
  ⟨none, .mov 7 (.k (.int .i64 0))⟩])
 (.ret))))))))⟩
/-- impl.Deposit$1 -/
def r346 : RF :=
 ⟨2, [.tmp 3],
 .seq (.reg [⟨none, .mov 3 (.k (.int .i64 0))⟩])
 (.seq (.seq (.reg [⟨none, .mov 4 (.t 0)⟩,
   ⟨none, .nilc 5 (.t 4)⟩,
   ⟨none, .fad 6 5 4⟩,
   ⟨none, .load 7 6 1 false⟩,
   ⟨none, .bin 8 .neq (.t 7) (.k (.int .i64 0))⟩])
  (.cond (.t 8)
  (.seq (.reg [⟨none, .mov 3 (.k (.int .i64 6))⟩])
   (.ret))
  (.skip)))
 (.seq (.seq (.reg [⟨none, .chk []⟩,
   ⟨none, .mov 9 (.t 0)⟩,
   ⟨none, .nilc 10 (.t 9)⟩,
   ⟨none, .mov 15 (.t 0)⟩,
   ⟨none, .nilc 16 (.t 15)⟩,
   ⟨none, .fad 11 10 1⟩,
   ⟨none, .load 12 11 1 false⟩,
   ⟨none, .load 13 1 1 false⟩,
   ⟨none, .bin 14 .add (.t 12) (.t 13)⟩,
   ⟨none, .fad 17 16 1⟩,
   ⟨none, .load 18 17 1 false⟩,
   ⟨none, .bin 19 .lss (.t 14) (.t 18)⟩])
  (.cond (.t 19)
  (.seq (.reg [⟨none, .mov 3 (.k (.int .i64 5))⟩])
   (.ret))
  (.skip)))
 (.seq (.reg [⟨none, .chk []⟩,
  ⟨none, .mov 20 (.t 0)⟩,
  ⟨none, .nilc 21 (.t 20)⟩,
  ⟨none, .fad 22 21 1⟩,
  ⟨none, .load 23 22 1 false⟩,
  ⟨none, .load 24 1 1 false⟩,
  ⟨none, .bin 25 .add (.t 23) (.t 24)⟩,
  ⟨none, .nilc 26 (.t 20)⟩,
  ⟨none, .fad 27 26 1⟩,
  ⟨none, .store 27 1 (.t 25)⟩])
 (.seq (.reg [⟨none, .mov 3 (.k (.int .i64 0))⟩])
 (.ret)))))⟩
/-- impl.Withdraw$1 -/
def r347 : RF :=
 ⟨2, [.tmp 3],
 .seq (.reg [⟨none, .mov 3 (.k (.int .i64 0))⟩])
 (.seq (.seq (.reg [⟨none, .mov 4 (.t 0)⟩,
   ⟨none, .nilc 5 (.t 4)⟩,
   ⟨none, .fad 6 5 4⟩,
   ⟨none, .load 7 6 1 false⟩,
   ⟨none, .bin 8 .neq (.t 7) (.k (.int .i64 0))⟩])
  (.cond (.t 8)
  (.seq (.reg [⟨none, .mov 3 (.k (.int .i64 6))⟩])
   (.ret))
  (.skip)))
 (.seq (.seq (.reg [⟨none, .chk []⟩,
   ⟨none, .mov 9 (.t 0)⟩,
   ⟨none, .nilc 10 (.t 9)⟩,
   ⟨none, .fad 11 10 1⟩,
   ⟨none, .load 12 11 1 false⟩,
   ⟨none, .load 13 1 1 false⟩,
   ⟨none, .bin 14 .lss (.t 12) (.t 13)⟩])
  (.cond (.t 14)
  (.seq (.reg [⟨none, .mov 3 (.k (.int .i64 4))⟩])
   (.ret))
  (.skip)))
 (.seq (.reg [⟨none, .chk []⟩,
  ⟨none, .mov 15 (.t 0)⟩,
  ⟨none, .nilc 16 (.t 15)⟩,
  ⟨none, .fad 17 16 1⟩,
  ⟨none, .load 18 17 1 false⟩,
  ⟨none, .load 19 1 1 false⟩,
  ⟨none, .bin 20 .sub (.t 18) (.t 19)⟩,
  ⟨none, .nilc 21 (.t 15)⟩,
  ⟨none, .fad 22 21 1⟩,
  ⟨none, .store 22 1 (.t 20)⟩])
 (.seq (.reg [⟨none, .mov 3 (.k (.int .i64 0))⟩])
 (.ret)))))⟩
/-- The functions of this text, with their numbers. -/
def tI10 : List (Nat × RF) := [(209, r209), (260, r260), (265, r265), (337, r337), (338, r338), (339, r339), (340, r340), (341, r341), (342, r342), (344, r344), (345, r345), (346, r346), (347, r347)]
end Go.Proofs.Ytcdlbjomdokmiaa.A
/- The compact code of some functions: impl.Ahead, impl.ahead, impl.PastOk, impl.PastAt, impl.isPast, impl.DoLedger, impl.doLedger, impl.InOrder, impl.follows, impl.hasAnswered. -/
namespace Go.Proofs.Ytcdlbjomdokmiaa.A
open Go
/-- impl.Ahead -/
def r11 : RF :=
 ⟨2, [.tmp 4],
 .seq (.reg [⟨none, .locb 2 (.t 0)⟩,
  ⟨none, .locb 3 (.t 1)⟩,
  ⟨none, .mov 4 (.k (.bool false))⟩])
 (.seq (.reg [⟨none, .load 5 2 8 true⟩,
  ⟨none, .load 6 3 8 true⟩,
  ⟨none, .call (some 7) 27 [(.t 5), (.t 6)] false⟩,
  ⟨none, .mov 4 (.t 7)⟩])
 (.ret))⟩
/-- impl.ahead -/
def r27 : RF :=
 ⟨2, [.tmp 4],
 .seq (.reg [⟨none, .locb 2 (.t 0)⟩,
  ⟨none, .locb 3 (.t 1)⟩,
  ⟨none, .mov 4 (.k (.bool false))⟩])
 (.seq (.reg [⟨none, .fad 5 2 5⟩,
  ⟨none, .load 6 5 1 false⟩,
  ⟨none, .bin 7 .neq (.t 6) (.k (.int .i64 (-1)))⟩,
  ⟨none, .mov 8 (.t 7)⟩,
  ⟨some (8, true), .fad 9 2 5⟩,
  ⟨some (8, true), .load 10 9 1 false⟩,
  ⟨some (8, true), .fad 11 3 4⟩,
  ⟨some (8, true), .load 12 11 1 false⟩,
  ⟨some (8, true), .bin 13 .lss (.t 10) (.t 12)⟩,
  ⟨none, .pick 14 (.t 8) (.t 13) (.k (.bool false))⟩,
  ⟨none, .mov 4 (.t 14)⟩])
 (.ret))⟩
/-- impl.PastOk -/
def r43 : RF :=
 ⟨1, [.tmp 2],
 .seq (.reg [⟨none, .mov 2 (.k (.bool false))⟩])
 (.seq (.reg [⟨none, .mov 3 (.t 0)⟩,
  ⟨none, .call (some 4) 97 [(.t 3)] false⟩,
  ⟨none, .mov 2 (.t 4)⟩])
 (.ret))⟩
/-- A loop of impl.PastAt. -/
def r53L0 : RC :=
 .seq (.reg [⟨none, .bin 15 .lss (.t 14) (.t 13)⟩])
    (.seq (.cond (.t 15)
     (.skip)
     (.exit 0))
    (.seq (.block 1 (.seq (.reg [⟨none, .idx 16 1 (.t 12) (.t 14)⟩,
       ⟨none, .load 17 16 8 true⟩,
       ⟨none, .loc 7 [.int .i64 0, .int .u64 0, .int .u64 0, .int .u64 0, .int .i64 0, .int .i64 0, .int .i64 0, .int .u64 0]⟩,
       ⟨none, .store 7 8 (.t 17)⟩])
      (.seq (.seq (.reg [⟨none, .fad 18 7 4⟩,
        ⟨none, .load 19 18 1 false⟩,
        ⟨none, .mov 20 (.t 1)⟩,
        ⟨none, .bin 21 .gtr (.t 19) (.t 20)⟩])
       (.cond (.t 21)
       (.exit 1)
       (.skip)))
      (.seq (.seq (.reg [⟨none, .fad 22 7 5⟩,
        ⟨none, .load 23 22 1 false⟩,
        ⟨none, .mov 24 (.t 1)⟩,
        ⟨none, .bin 25 .gtr (.t 23) (.t 24)⟩])
       (.cond (.t 25)
       (.seq (.reg [⟨none, .fad 26 7 5⟩,
         ⟨none, .store 26 1 (.k (.int .i64 (-1)))⟩])
        (.seq (.reg [⟨none, .fad 27 7 6⟩,
         ⟨none, .store 27 1 (.k (.int .i64 0))⟩])
        (.reg [⟨none, .fad 28 7 7⟩,
        ⟨none, .store 28 1 (.k (.int .u64 0))⟩])))
       (.skip)))
      (.reg [⟨none, .mov 29 (.t 5)⟩,
      ⟨none, .load 30 7 8 true⟩,
      ⟨none, .lit 31 1 1 [.int .i64 0, .int .u64 0, .int .u64 0, .int .u64 0, .int .i64 0, .int .i64 0, .int .i64 0, .int .u64 0] [(0, (.t 30))]⟩,
      ⟨none, .app 32 1 64 (.t 29) (.t 31)⟩,
      ⟨none, .mov 5 (.t 32)⟩])))))
    (.reg [⟨none, .bin 33 .add (.t 14) (.k (.int .i64 1))⟩,
    ⟨none, .mov 14 (.t 33)⟩])))
/-- impl.PastAt -/
def r53 : RF :=
 ⟨2, [.tmp 4],
 .seq (.reg [⟨none, .mov 4 (.k (.nil))⟩])
 (.seq (.seq (.reg [⟨none, .mov 8 (.t 0)⟩,
   ⟨none, .call (some 9) 97 [(.t 8)] false⟩,
   ⟨none, .not 10 (.t 9)⟩])
  (.cond (.t 10)
  (.seq (.reg [⟨none, .mov 4 (.k (.nil))⟩])
   (.ret))
  (.skip)))
 (.seq (.reg [⟨none, .lit 11 1 0 [.int .i64 0, .int .u64 0, .int .u64 0, .int .u64 0, .int .i64 0, .int .i64 0, .int .i64 0, .int .u64 0] []⟩,
  ⟨none, .mov 5 (.t 11)⟩])
 (.seq (.seq (.reg [⟨none, .mov 12 (.t 0)⟩,
   ⟨none, .len 13 (.t 12)⟩,
   ⟨none, .mov 14 (.k (.int .i64 0))⟩])
  (.block 0 (.loop [1, 5, 12, 13, 14]
   r53L0)))
 (.seq (.reg [⟨none, .mov 34 (.t 5)⟩,
  ⟨none, .mov 4 (.t 34)⟩])
 (.ret)))))⟩
/-- A loop of impl.isPast. -/
def r97L0 : RC :=
 .seq (.reg [⟨none, .bin 8 .lss (.t 7) (.t 6)⟩])
    (.seq (.cond (.t 8)
     (.skip)
     (.exit 0))
    (.seq (.block 1 (.seq (.reg [⟨none, .idx 9 1 (.t 5) (.t 7)⟩,
       ⟨none, .load 10 9 8 true⟩,
       ⟨none, .loc 4 [.int .i64 0, .int .u64 0, .int .u64 0, .int .u64 0, .int .i64 0, .int .i64 0, .int .i64 0, .int .u64 0]⟩,
       ⟨none, .store 4 8 (.t 10)⟩])
      (.seq (.seq (.reg [⟨none, .fad 11 4 0⟩,
        ⟨none, .fad 12 11 0⟩,
        ⟨none, .load 13 12 1 false⟩,
        ⟨none, .bin 14 .lss (.t 13) (.k (.int .i64 0))⟩,
        ⟨none, .mov 15 (.t 14)⟩,
        ⟨some (15, false), .fad 16 4 0⟩,
        ⟨some (15, false), .fad 17 16 0⟩,
        ⟨some (15, false), .load 18 17 1 false⟩,
        ⟨some (15, false), .bin 19 .gtr (.t 18) (.k (.int .i64 5))⟩,
        ⟨none, .pick 20 (.t 15) (.k (.bool true)) (.t 19)⟩,
        ⟨none, .mov 21 (.t 20)⟩,
        ⟨some (21, false), .fad 22 4 4⟩,
        ⟨some (21, false), .load 23 22 1 false⟩,
        ⟨some (21, false), .bin 24 .lss (.t 23) (.k (.int .i64 0))⟩,
        ⟨none, .pick 25 (.t 21) (.k (.bool true)) (.t 24)⟩,
        ⟨none, .mov 26 (.t 25)⟩,
        ⟨some (26, false), .fad 27 4 4⟩,
        ⟨some (26, false), .load 28 27 1 false⟩,
        ⟨some (26, false), .bin 29 .gtr (.t 28) (.k (.int .i64 1000000))⟩,
        ⟨none, .pick 30 (.t 26) (.k (.bool true)) (.t 29)⟩])
       (.cond (.t 30)
       (.seq (.reg [⟨none, .mov 2 (.k (.bool false))⟩])
        (.ret))
       (.skip)))
      (.seq (.reg [⟨none, .fad 31 4 5⟩,
       ⟨none, .load 32 31 1 false⟩,
       ⟨none, .bin 33 .eql (.t 32) (.k (.int .i64 (-1)))⟩,
       ⟨none, .mov 34 (.t 33)⟩,
       ⟨some (34, true), .fad 35 4 6⟩,
       ⟨some (34, true), .load 36 35 1 false⟩,
       ⟨some (34, true), .bin 37 .neq (.t 36) (.k (.int .i64 0))⟩,
       ⟨some (34, true), .mov 38 (.t 37)⟩,
       ⟨some (38, false), .fad 39 4 7⟩,
       ⟨some (38, false), .load 40 39 1 false⟩,
       ⟨some (38, false), .bin 41 .neq (.t 40) (.k (.int .u64 0))⟩,
       ⟨some (34, true), .pick 42 (.t 38) (.k (.bool true)) (.t 41)⟩,
       ⟨none, .pick 43 (.t 34) (.t 42) (.k (.bool false))⟩,
       ⟨none, .mov 44 (.t 43)⟩,
       ⟨some (44, false), .fad 45 4 5⟩,
       ⟨some (44, false), .load 46 45 1 false⟩,
       ⟨some (44, false), .bin 47 .neq (.t 46) (.k (.int .i64 (-1)))⟩,
       ⟨some (44, false), .mov 48 (.t 47)⟩,
       ⟨some (48, true), .fad 49 4 5⟩,
       ⟨some (48, true), .load 50 49 1 false⟩,
       ⟨some (48, true), .fad 51 4 4⟩,
       ⟨some (48, true), .load 52 51 1 false⟩,
       ⟨some (48, true), .bin 53 .leq (.t 50) (.t 52)⟩,
       ⟨some (48, true), .mov 54 (.t 53)⟩,
       ⟨some (54, false), .fad 55 4 5⟩,
       ⟨some (54, false), .load 56 55 1 false⟩,
       ⟨some (54, false), .bin 57 .gtr (.t 56) (.k (.int .i64 1000000))⟩,
       ⟨some (48, true), .pick 58 (.t 54) (.k (.bool true)) (.t 57)⟩,
       ⟨some (44, false), .pick 59 (.t 48) (.t 58) (.k (.bool false))⟩,
       ⟨none, .pick 60 (.t 44) (.k (.bool true)) (.t 59)⟩])
      (.cond (.t 60)
      (.seq (.reg [⟨none, .mov 2 (.k (.bool false))⟩])
       (.ret))
      (.skip))))))
    (.reg [⟨none, .bin 61 .add (.t 7) (.k (.int .i64 1))⟩,
    ⟨none, .mov 7 (.t 61)⟩])))
/-- impl.isPast -/
def r97 : RF :=
 ⟨1, [.tmp 2],
 .seq (.reg [⟨none, .mov 2 (.k (.bool false))⟩])
 (.seq (.seq (.reg [⟨none, .mov 5 (.t 0)⟩,
   ⟨none, .len 6 (.t 5)⟩,
   ⟨none, .mov 7 (.k (.int .i64 0))⟩])
  (.block 0 (.loop [0, 5, 6, 7]
   r97L0)))
 (.seq (.reg [⟨none, .mov 62 (.t 0)⟩,
  ⟨none, .len 63 (.t 62)⟩,
  ⟨none, .bin 64 .leq (.t 63) (.k (.int .i64 7))⟩,
  ⟨none, .mov 2 (.t 64)⟩])
 (.ret)))⟩
/-- impl.DoLedger -/
def r295 : RF :=
 ⟨2, [.cell 4 1 true, .tmp 5, .tmp 6],
 .seq (.reg [⟨none, .locb 2 (.t 0)⟩,
  ⟨none, .locb 3 (.t 1)⟩,
  ⟨none, .loc 4 [.nil]⟩,
  ⟨none, .mov 5 (.k (.int .i64 0))⟩,
  ⟨none, .mov 6 (.k (.int .u64 0))⟩])
 (.seq (.reg [⟨none, .load 7 2 1 true⟩,
  ⟨none, .load 8 3 4 true⟩,
  ⟨none, .call (some 9) 329 [(.t 7), (.t 8)] false⟩,
  ⟨none, .ext 10 (.t 9) 0⟩,
  ⟨none, .ext 11 (.t 9) 1⟩,
  ⟨none, .ext 12 (.t 9) 2⟩,
  ⟨none, .store 4 1 (.t 10)⟩,
  ⟨none, .mov 5 (.t 11)⟩,
  ⟨none, .mov 6 (.t 12)⟩])
 (.ret))⟩
/-- impl.doLedger -/
def r329 : RF :=
 ⟨2, [.cell 4 1 true, .tmp 5, .tmp 6],
 .seq (.reg [⟨none, .locb 2 (.t 0)⟩,
  ⟨none, .locb 3 (.t 1)⟩,
  ⟨none, .loc 4 [.nil]⟩,
  ⟨none, .mov 5 (.k (.int .i64 0))⟩,
  ⟨none, .mov 6 (.k (.int .u64 0))⟩])
 (.seq (.reg [⟨none, .load 13 2 1 true⟩,
  ⟨none, .call (some 14) 260 [(.t 13)] false⟩,
  ⟨none, .loc 7 [.nil]⟩,
  ⟨none, .store 7 1 (.t 14)⟩,
  ⟨none, .mov 8 (.k (.int .i64 1))⟩])
 (.seq (.seq (.reg [⟨none, .load 15 2 1 true⟩,
   ⟨none, .call (some 16) 265 [(.t 15)] false⟩])
  (.cond (.t 16)
  (.seq (.reg [⟨none, .fad 17 3 0⟩,
    ⟨none, .load 18 17 1 false⟩])
   (.block 0 (.seq (.reg [⟨none, .bin 20 .eql (.t 18) (.k (.int .i64 0))⟩,
     ⟨none, .mov 19 (.t 20)⟩])
    (.cond (.t 19)
    (.reg [⟨none, .load 22 2 1 true⟩,
     ⟨none, .fad 23 3 1⟩,
     ⟨none, .load 24 23 1 false⟩,
     ⟨none, .call (some 25) 337 [(.t 22), (.t 24)] false⟩,
     ⟨none, .mov 21 (.t 25)⟩,
     ⟨none, .ext 26 (.t 21) 0⟩,
     ⟨none, .ext 27 (.t 21) 1⟩,
     ⟨none, .store 7 1 (.t 26)⟩,
     ⟨none, .mov 8 (.t 27)⟩])
    (.seq (.reg [⟨none, .bin 29 .eql (.t 18) (.k (.int .i64 1))⟩,
      ⟨none, .mov 28 (.t 29)⟩])
     (.cond (.t 28)
     (.reg [⟨none, .load 31 2 1 true⟩,
      ⟨none, .fad 32 3 1⟩,
      ⟨none, .load 33 32 1 false⟩,
      ⟨none, .call (some 34) 338 [(.t 31), (.t 33)] false⟩,
      ⟨none, .mov 30 (.t 34)⟩,
      ⟨none, .ext 35 (.t 30) 0⟩,
      ⟨none, .ext 36 (.t 30) 1⟩,
      ⟨none, .store 7 1 (.t 35)⟩,
      ⟨none, .mov 8 (.t 36)⟩])
     (.seq (.reg [⟨none, .bin 38 .eql (.t 18) (.k (.int .i64 2))⟩,
       ⟨none, .mov 37 (.t 38)⟩])
      (.cond (.t 37)
      (.reg [⟨none, .load 40 2 1 true⟩,
       ⟨none, .fad 41 3 1⟩,
       ⟨none, .load 42 41 1 false⟩,
       ⟨none, .fad 43 3 3⟩,
       ⟨none, .load 44 43 1 false⟩,
       ⟨none, .call (some 45) 339 [(.t 40), (.t 42), (.t 44)] false⟩,
       ⟨none, .mov 39 (.t 45)⟩,
       ⟨none, .ext 46 (.t 39) 0⟩,
       ⟨none, .ext 47 (.t 39) 1⟩,
       ⟨none, .store 7 1 (.t 46)⟩,
       ⟨none, .mov 8 (.t 47)⟩])
      (.seq (.reg [⟨none, .bin 49 .eql (.t 18) (.k (.int .i64 3))⟩,
        ⟨none, .mov 48 (.t 49)⟩])
       (.cond (.t 48)
       (.reg [⟨none, .load 51 2 1 true⟩,
        ⟨none, .fad 52 3 1⟩,
        ⟨none, .load 53 52 1 false⟩,
        ⟨none, .fad 54 3 3⟩,
        ⟨none, .load 55 54 1 false⟩,
        ⟨none, .call (some 56) 340 [(.t 51), (.t 53), (.t 55)] false⟩,
        ⟨none, .mov 50 (.t 56)⟩,
        ⟨none, .ext 57 (.t 50) 0⟩,
        ⟨none, .ext 58 (.t 50) 1⟩,
        ⟨none, .store 7 1 (.t 57)⟩,
        ⟨none, .mov 8 (.t 58)⟩])
       (.seq (.reg [⟨none, .bin 60 .eql (.t 18) (.k (.int .i64 4))⟩,
         ⟨none, .mov 59 (.t 60)⟩])
        (.cond (.t 59)
        (.reg [⟨none, .load 62 2 1 true⟩,
         ⟨none, .fad 63 3 1⟩,
         ⟨none, .load 64 63 1 false⟩,
         ⟨none, .fad 65 3 2⟩,
         ⟨none, .load 66 65 1 false⟩,
         ⟨none, .fad 67 3 3⟩,
         ⟨none, .load 68 67 1 false⟩,
         ⟨none, .call (some 69) 341 [(.t 62), (.t 64), (.t 66), (.t 68)] false⟩,
         ⟨none, .mov 61 (.t 69)⟩,
         ⟨none, .ext 70 (.t 61) 0⟩,
         ⟨none, .ext 71 (.t 61) 1⟩,
         ⟨none, .store 7 1 (.t 70)⟩,
         ⟨none, .mov 8 (.t 71)⟩])
        (.seq (.reg [⟨none, .bin 73 .eql (.t 18) (.k (.int .i64 5))⟩,
          ⟨none, .mov 72 (.t 73)⟩])
         (.cond (.t 72)
         (.seq (.reg [⟨none, .mov 8 (.k (.int .i64 2))⟩])
          (.seq (.reg [⟨none, .load 75 2 1 true⟩,
           ⟨none, .fad 76 3 1⟩,
           ⟨none, .load 77 76 1 false⟩,
           ⟨none, .call (some 78) 342 [(.t 75), (.t 77)] false⟩,
           ⟨none, .mov 74 (.t 78)⟩,
           ⟨none, .ext 79 (.t 74) 0⟩,
           ⟨none, .ext 80 (.t 74) 1⟩,
           ⟨none, .mov 9 (.t 79)⟩,
           ⟨none, .mov 10 (.t 80)⟩])
          (.seq (.reg [⟨none, .mov 81 (.t 10)⟩])
          (.cond (.t 81)
          (.reg [⟨none, .mov 8 (.k (.int .i64 0))⟩])
          (.skip)))))
         (.skip)))))))))))))))
  (.skip)))
 (.seq (.reg [⟨none, .load 83 7 1 true⟩,
  ⟨none, .fad 84 3 1⟩,
  ⟨none, .load 85 84 1 false⟩,
  ⟨none, .call (some 86) 342 [(.t 83), (.t 85)] false⟩,
  ⟨none, .mov 82 (.t 86)⟩,
  ⟨none, .ext 87 (.t 82) 0⟩,
  ⟨none, .ext 88 (.t 82) 1⟩,
  ⟨none, .mov 11 (.t 87)⟩,
  ⟨none, .mov 12 (.t 88)⟩])
 (.seq (.seq (.reg [⟨none, .mov 89 (.t 8)⟩,
   ⟨none, .bin 90 .neq (.t 89) (.k (.int .i64 0))⟩,
   ⟨none, .mov 91 (.t 90)⟩,
   ⟨some (91, false), .mov 92 (.t 12)⟩,
   ⟨some (91, false), .not 93 (.t 92)⟩,
   ⟨none, .pick 94 (.t 91) (.k (.bool true)) (.t 93)⟩])
  (.cond (.t 94)
  (.seq (.reg [⟨none, .load 95 7 1 true⟩,
    ⟨none, .mov 96 (.t 8)⟩,
    ⟨none, .store 4 1 (.t 95)⟩,
    ⟨none, .mov 5 (.t 96)⟩,
    ⟨none, .mov 6 (.k (.int .u64 0))⟩])
   (.ret))
  (.skip)))
 (.seq (.reg [⟨none, .chk []⟩,
  ⟨none, .own [4]⟩,
  ⟨none, .mov 98 (.t 8)⟩,
  ⟨none, .mov 101 (.t 11)⟩,
  ⟨none, .load 97 7 1 true⟩,
  ⟨none, .fad 99 7 0⟩,
  ⟨none, .load 100 99 1 false⟩,
  ⟨none, .idx 102 11 (.t 100) (.t 101)⟩,
  ⟨none, .fad 103 102 1⟩,
  ⟨none, .load 104 103 1 false⟩,
  ⟨none, .lst 4 1 (.t 97)⟩,
  ⟨none, .mov 5 (.t 98)⟩,
  ⟨none, .mov 6 (.t 104)⟩])
 (.ret))))))⟩
/-- A loop of impl.InOrder. -/
def r362L0 : RC :=
 .seq (.reg [⟨none, .bin 17 .lss (.t 16) (.t 15)⟩])
    (.seq (.cond (.t 17)
     (.skip)
     (.exit 0))
    (.seq (.block 1 (.seq (.reg [⟨none, .mov 18 (.t 16)⟩,
       ⟨none, .idx 19 15 (.t 14) (.t 16)⟩,
       ⟨none, .load 20 19 1 false⟩,
       ⟨none, .mov 6 (.t 18)⟩,
       ⟨none, .mov 7 (.t 20)⟩])
      (.seq (.seq (.reg [⟨none, .mov 21 (.t 7)⟩,
        ⟨none, .bin 22 .lss (.t 21) (.k (.int .i64 0))⟩,
        ⟨none, .mov 23 (.t 22)⟩,
        ⟨some (23, false), .mov 24 (.t 7)⟩,
        ⟨some (23, false), .mov 25 (.t 0)⟩,
        ⟨some (23, false), .len 26 (.t 25)⟩,
        ⟨some (23, false), .bin 27 .geq (.t 24) (.t 26)⟩,
        ⟨none, .pick 28 (.t 23) (.k (.bool true)) (.t 27)⟩])
       (.cond (.t 28)
       (.seq (.reg [⟨none, .mov 4 (.k (.bool false))⟩])
        (.ret))
       (.skip)))
      (.seq (.reg [⟨none, .chk [8]⟩,
       ⟨none, .loc 8 [.nil]⟩,
       ⟨none, .mov 30 (.t 0)⟩,
       ⟨none, .mov 31 (.t 1)⟩,
       ⟨none, .mov 32 (.t 6)⟩,
       ⟨none, .cut 33 15 (.t 31) none (some (.t 32))⟩,
       ⟨none, .mov 34 (.t 7)⟩,
       ⟨none, .load 35 5 1 true⟩,
       ⟨none, .call (some 36) 372 [(.t 30), (.t 33), (.t 34), (.t 35)] true⟩,
       ⟨none, .mov 29 (.t 36)⟩,
       ⟨none, .ext 37 (.t 29) 0⟩,
       ⟨none, .ext 38 (.t 29) 1⟩,
       ⟨none, .store 8 1 (.t 37)⟩,
       ⟨none, .mov 9 (.t 38)⟩])
      (.seq (.seq (.reg [⟨none, .mov 39 (.t 9)⟩,
        ⟨none, .not 40 (.t 39)⟩])
       (.cond (.t 40)
       (.seq (.reg [⟨none, .mov 4 (.k (.bool false))⟩])
        (.ret))
       (.skip)))
      (.reg [⟨none, .load 41 8 1 true⟩,
      ⟨none, .store 5 1 (.t 41)⟩]))))))
    (.reg [⟨none, .bin 42 .add (.t 16) (.k (.int .i64 1))⟩,
    ⟨none, .mov 16 (.t 42)⟩])))
/-- impl.InOrder -/
def r362 : RF :=
 ⟨2, [.tmp 4],
 .seq (.reg [⟨none, .mov 4 (.k (.bool false))⟩])
 (.seq (.seq (.reg [⟨none, .mov 10 (.t 0)⟩,
   ⟨none, .call (some 11) 97 [(.t 10)] false⟩,
   ⟨none, .not 12 (.t 11)⟩])
  (.cond (.t 12)
  (.seq (.reg [⟨none, .mov 4 (.k (.bool false))⟩])
   (.ret))
  (.skip)))
 (.seq (.reg [⟨none, .build 13 [.nil] []⟩,
  ⟨none, .loc 5 [.nil]⟩,
  ⟨none, .store 5 1 (.t 13)⟩])
 (.seq (.seq (.reg [⟨none, .mov 14 (.t 1)⟩,
   ⟨none, .len 15 (.t 14)⟩,
   ⟨none, .mov 16 (.k (.int .i64 0))⟩])
  (.block 0 (.loop [0, 1, 5, 14, 15, 16]
   r362L0)))
 (.seq (.reg [⟨none, .mov 43 (.t 0)⟩,
  ⟨none, .mov 44 (.t 1)⟩,
  ⟨none, .call (some 45) 373 [(.t 43), (.t 44)] false⟩,
  ⟨none, .mov 4 (.t 45)⟩])
 (.ret)))))⟩
/-- A loop of impl.follows. -/
def r372L0 : RC :=
 .seq (.reg [⟨none, .bin 23 .lss (.t 22) (.t 21)⟩])
    (.seq (.cond (.t 23)
     (.skip)
     (.exit 0))
    (.seq (.block 1 (.seq (.reg [⟨none, .idx 24 15 (.t 20) (.t 22)⟩,
       ⟨none, .load 25 24 1 false⟩,
       ⟨none, .mov 12 (.t 25)⟩])
      (.seq (.reg [⟨none, .chk []⟩,
       ⟨none, .mov 26 (.t 12)⟩,
       ⟨none, .mov 27 (.t 2)⟩,
       ⟨none, .bin 28 .eql (.t 26) (.t 27)⟩,
       ⟨none, .mov 29 (.t 28)⟩,
       ⟨some (29, false), .mov 31 (.t 0)⟩,
       ⟨some (29, false), .mov 32 (.t 12)⟩,
       ⟨some (29, false), .idx 33 1 (.t 31) (.t 32)⟩,
       ⟨some (29, false), .load 30 10 8 true⟩,
       ⟨some (29, false), .load 34 33 8 true⟩,
       ⟨some (29, false), .call (some 35) 27 [(.t 30), (.t 34)] true⟩,
       ⟨none, .pick 36 (.t 29) (.k (.bool true)) (.t 35)⟩])
      (.cond (.t 36)
      (.seq (.reg [⟨none, .load 37 7 1 true⟩,
        ⟨none, .store 8 1 (.t 37)⟩,
        ⟨none, .mov 9 (.k (.bool false))⟩])
       (.ret))
      (.skip)))))
    (.reg [⟨none, .bin 38 .add (.t 22) (.k (.int .i64 1))⟩,
    ⟨none, .mov 22 (.t 38)⟩])))
/-- impl.follows -/
def r372 : RF :=
 ⟨4, [.cell 8 1 true, .tmp 9],
 .seq (.reg [⟨none, .locb 7 (.t 3)⟩,
  ⟨none, .loc 8 [.nil]⟩,
  ⟨none, .mov 9 (.k (.bool false))⟩])
 (.seq (.reg [⟨none, .mov 16 (.t 0)⟩,
  ⟨none, .mov 17 (.t 2)⟩,
  ⟨none, .idx 18 1 (.t 16) (.t 17)⟩,
  ⟨none, .load 19 18 8 true⟩,
  ⟨none, .loc 10 [.int .i64 0, .int .u64 0, .int .u64 0, .int .u64 0, .int .i64 0, .int .i64 0, .int .i64 0, .int .u64 0]⟩,
  ⟨none, .store 10 8 (.t 19)⟩])
 (.seq (.seq (.reg [⟨none, .mov 20 (.t 1)⟩,
   ⟨none, .len 21 (.t 20)⟩,
   ⟨none, .mov 22 (.k (.int .i64 0))⟩])
  (.block 0 (.loop [0, 2, 7, 8, 10, 20, 21, 22]
   r372L0)))
 (.seq (.reg [⟨none, .load 40 7 1 true⟩,
  ⟨none, .fad 41 10 0⟩,
  ⟨none, .load 42 41 4 true⟩,
  ⟨none, .call (some 43) 329 [(.t 40), (.t 42)] false⟩,
  ⟨none, .mov 39 (.t 43)⟩,
  ⟨none, .ext 44 (.t 39) 0⟩,
  ⟨none, .ext 45 (.t 39) 1⟩,
  ⟨none, .ext 46 (.t 39) 2⟩,
  ⟨none, .loc 13 [.nil]⟩,
  ⟨none, .store 13 1 (.t 44)⟩,
  ⟨none, .mov 14 (.t 45)⟩,
  ⟨none, .mov 15 (.t 46)⟩])
 (.seq (.reg [⟨none, .chk []⟩,
  ⟨none, .own [8]⟩,
  ⟨none, .load 47 13 1 true⟩,
  ⟨none, .fad 48 10 5⟩,
  ⟨none, .load 49 48 1 false⟩,
  ⟨none, .bin 50 .eql (.t 49) (.k (.int .i64 (-1)))⟩,
  ⟨none, .mov 51 (.t 50)⟩,
  ⟨some (51, false), .mov 52 (.t 14)⟩,
  ⟨some (51, false), .fad 53 10 6⟩,
  ⟨some (51, false), .load 54 53 1 false⟩,
  ⟨some (51, false), .bin 55 .eql (.t 52) (.t 54)⟩,
  ⟨some (51, false), .mov 56 (.t 55)⟩,
  ⟨some (56, true), .mov 57 (.t 15)⟩,
  ⟨some (56, true), .fad 58 10 7⟩,
  ⟨some (56, true), .load 59 58 1 false⟩,
  ⟨some (56, true), .bin 60 .eql (.t 57) (.t 59)⟩,
  ⟨some (51, false), .pick 61 (.t 56) (.t 60) (.k (.bool false))⟩,
  ⟨none, .pick 62 (.t 51) (.k (.bool true)) (.t 61)⟩,
  ⟨none, .lst 8 1 (.t 47)⟩,
  ⟨none, .mov 9 (.t 62)⟩])
 (.ret)))))⟩
/-- A loop of impl.hasAnswered. -/
def r373L0 : RC :=
 .seq (.reg [⟨none, .bin 10 .lss (.t 9) (.t 8)⟩])
    (.seq (.cond (.t 10)
     (.skip)
     (.exit 0))
    (.seq (.block 1 (.seq (.reg [⟨none, .mov 11 (.t 9)⟩,
       ⟨none, .idx 12 1 (.t 7) (.t 9)⟩,
       ⟨none, .load 13 12 8 true⟩,
       ⟨none, .loc 6 [.int .i64 0, .int .u64 0, .int .u64 0, .int .u64 0, .int .i64 0, .int .i64 0, .int .i64 0, .int .u64 0]⟩,
       ⟨none, .mov 5 (.t 11)⟩,
       ⟨none, .store 6 8 (.t 13)⟩])
      (.seq (.reg [⟨none, .fad 14 6 5⟩,
       ⟨none, .load 15 14 1 false⟩,
       ⟨none, .bin 16 .neq (.t 15) (.k (.int .i64 (-1)))⟩,
       ⟨none, .mov 17 (.t 16)⟩,
       ⟨some (17, true), .mov 18 (.t 1)⟩,
       ⟨some (17, true), .mov 19 (.t 5)⟩,
       ⟨some (17, true), .call (some 20) 378 [(.t 18), (.t 19)] false⟩,
       ⟨some (17, true), .not 21 (.t 20)⟩,
       ⟨none, .pick 22 (.t 17) (.t 21) (.k (.bool false))⟩])
      (.cond (.t 22)
      (.seq (.reg [⟨none, .mov 4 (.k (.bool false))⟩])
       (.ret))
      (.skip)))))
    (.reg [⟨none, .bin 23 .add (.t 9) (.k (.int .i64 1))⟩,
    ⟨none, .mov 9 (.t 23)⟩])))
/-- impl.hasAnswered -/
def r373 : RF :=
 ⟨2, [.tmp 4],
 .seq (.reg [⟨none, .mov 4 (.k (.bool false))⟩])
 (.seq (.seq (.reg [⟨none, .mov 7 (.t 0)⟩,
   ⟨none, .len 8 (.t 7)⟩,
   ⟨none, .mov 9 (.k (.int .i64 0))⟩])
  (.block 0 (.loop [1, 7, 8, 9]
   r373L0)))
 (.seq (.reg [⟨none, .mov 4 (.k (.bool true))⟩])
 (.ret)))⟩
/-- The functions of this text, with their numbers. -/
def tI17 : List (Nat × RF) := [(11, r11), (27, r27), (43, r43), (53, r53), (97, r97), (295, r295), (329, r329), (362, r362), (372, r372), (373, r373)]
end Go.Proofs.Ytcdlbjomdokmiaa.A
/- The compact code of some functions: laws.eqIntS, laws.markIntS, laws.heldIntS, laws.toIntS. -/
namespace Go.Proofs.Ytcdlbjomdokmiaa.A
open Go
/-- A loop of laws.eqIntS. -/
def r285L0 : RC :=
 .seq (.seq (.reg [⟨none, .mov 11 (.t 5)⟩,
      ⟨none, .mov 12 (.t 0)⟩,
      ⟨none, .len 13 (.t 12)⟩,
      ⟨none, .bin 14 .lss (.t 11) (.t 13)⟩])
     (.cond (.t 14)
     (.skip)
     (.exit 0)))
    (.seq (.block 1 (.seq (.reg [⟨none, .chk []⟩,
       ⟨none, .mov 17 (.t 0)⟩,
       ⟨none, .mov 18 (.t 5)⟩,
       ⟨none, .idx 19 15 (.t 17) (.t 18)⟩,
       ⟨none, .mov 21 (.t 1)⟩,
       ⟨none, .mov 22 (.t 5)⟩,
       ⟨none, .idx 23 15 (.t 21) (.t 22)⟩,
       ⟨none, .load 20 19 1 false⟩,
       ⟨none, .load 24 23 1 false⟩,
       ⟨none, .bin 25 .neq (.t 20) (.t 24)⟩])
      (.cond (.t 25)
      (.seq (.reg [⟨none, .mov 4 (.k (.bool false))⟩])
       (.ret))
      (.skip))))
    (.reg [⟨none, .mov 15 (.t 5)⟩,
    ⟨none, .bin 16 .add (.t 15) (.k (.int .i64 1))⟩,
    ⟨none, .mov 5 (.t 16)⟩]))
/-- laws.eqIntS -/
def r285 : RF :=
 ⟨2, [.tmp 4],
 .seq (.reg [⟨none, .mov 4 (.k (.bool false))⟩])
 (.seq (.seq (.reg [⟨none, .mov 6 (.t 0)⟩,
   ⟨none, .len 7 (.t 6)⟩,
   ⟨none, .mov 8 (.t 1)⟩,
   ⟨none, .len 9 (.t 8)⟩,
   ⟨none, .bin 10 .neq (.t 7) (.t 9)⟩])
  (.cond (.t 10)
  (.seq (.reg [⟨none, .mov 4 (.k (.bool false))⟩])
   (.ret))
  (.skip)))
 (.seq (.seq (.reg [⟨none, .mov 5 (.k (.int .i64 0))⟩])
  (.block 0 (.loop [0, 1, 5]
   r285L0)))
 (.seq (.reg [⟨none, .mov 4 (.k (.bool true))⟩])
 (.ret))))⟩
/-- A loop of laws.markIntS. -/
def r287L0 : RC :=
 .seq (.seq (.reg [⟨none, .mov 6 (.t 5)⟩,
      ⟨none, .mov 7 (.t 0)⟩,
      ⟨none, .len 8 (.t 7)⟩,
      ⟨none, .bin 9 .lss (.t 6) (.t 8)⟩])
     (.cond (.t 9)
     (.skip)
     (.exit 0)))
    (.seq (.block 1 (.seq (.reg [⟨none, .mov 12 (.t 0)⟩,
       ⟨none, .mov 13 (.t 5)⟩,
       ⟨none, .mov 14 (.t 1)⟩,
       ⟨none, .idx 15 15 (.t 12) (.t 13)⟩,
       ⟨none, .store 15 1 (.t 14)⟩])
      (.reg [⟨none, .mov 16 (.t 1)⟩,
      ⟨none, .bin 17 .add (.t 16) (.k (.int .i64 1))⟩,
      ⟨none, .mov 1 (.t 17)⟩])))
    (.reg [⟨none, .mov 10 (.t 5)⟩,
    ⟨none, .bin 11 .add (.t 10) (.k (.int .i64 1))⟩,
    ⟨none, .mov 5 (.t 11)⟩]))
/-- laws.markIntS -/
def r287 : RF :=
 ⟨2, [.tmp 4],
 .seq (.reg [⟨none, .mov 4 (.k (.int .i64 0))⟩])
 (.seq (.seq (.reg [⟨none, .mov 5 (.k (.int .i64 0))⟩])
  (.block 0 (.loop [0, 1, 5]
   r287L0)))
 (.seq (.reg [⟨none, .mov 18 (.t 1)⟩,
  ⟨none, .mov 4 (.t 18)⟩])
 (.ret)))⟩
/-- A loop of laws.heldIntS. -/
def r288L0 : RC :=
 .seq (.seq (.reg [⟨none, .mov 6 (.t 5)⟩,
      ⟨none, .mov 7 (.t 0)⟩,
      ⟨none, .len 8 (.t 7)⟩,
      ⟨none, .bin 9 .lss (.t 6) (.t 8)⟩])
     (.cond (.t 9)
     (.skip)
     (.exit 0)))
    (.seq (.block 1 (.seq (.seq (.reg [⟨none, .mov 12 (.t 0)⟩,
        ⟨none, .mov 13 (.t 5)⟩,
        ⟨none, .idx 14 15 (.t 12) (.t 13)⟩,
        ⟨none, .load 15 14 1 false⟩,
        ⟨none, .mov 16 (.t 1)⟩,
        ⟨none, .bin 17 .neq (.t 15) (.t 16)⟩])
       (.cond (.t 17)
       (.seq (.reg [⟨none, .mov 4 (.k (.int .i64 (-1)))⟩])
        (.ret))
       (.skip)))
      (.reg [⟨none, .mov 18 (.t 1)⟩,
      ⟨none, .bin 19 .add (.t 18) (.k (.int .i64 1))⟩,
      ⟨none, .mov 1 (.t 19)⟩])))
    (.reg [⟨none, .mov 10 (.t 5)⟩,
    ⟨none, .bin 11 .add (.t 10) (.k (.int .i64 1))⟩,
    ⟨none, .mov 5 (.t 11)⟩]))
/-- laws.heldIntS -/
def r288 : RF :=
 ⟨2, [.tmp 4],
 .seq (.reg [⟨none, .mov 4 (.k (.int .i64 0))⟩])
 (.seq (.seq (.reg [⟨none, .mov 5 (.k (.int .i64 0))⟩])
  (.block 0 (.loop [0, 1, 5]
   r288L0)))
 (.seq (.reg [⟨none, .mov 20 (.t 1)⟩,
  ⟨none, .mov 4 (.t 20)⟩])
 (.ret)))⟩
/-- A loop of laws.toIntS. -/
def r360L0 : RC :=
 .seq (.seq (.reg [⟨none, .mov 8 (.t 4)⟩,
      ⟨none, .mov 9 (.t 0)⟩,
      ⟨none, .len 10 (.t 9)⟩,
      ⟨none, .bin 11 .lss (.t 8) (.t 10)⟩])
     (.cond (.t 11)
     (.skip)
     (.exit 0)))
    (.seq (.block 1 (.reg [⟨none, .mov 14 (.t 3)⟩,
      ⟨none, .mov 15 (.t 4)⟩,
      ⟨none, .mov 16 (.t 0)⟩,
      ⟨none, .mov 17 (.t 4)⟩,
      ⟨none, .idx 18 15 (.t 16) (.t 17)⟩,
      ⟨none, .load 19 18 1 false⟩,
      ⟨none, .idx 20 15 (.t 14) (.t 15)⟩,
      ⟨none, .store 20 1 (.t 19)⟩]))
    (.reg [⟨none, .mov 12 (.t 4)⟩,
    ⟨none, .bin 13 .add (.t 12) (.k (.int .i64 1))⟩,
    ⟨none, .mov 4 (.t 13)⟩]))
/-- laws.toIntS -/
def r360 : RF :=
 ⟨1, [.tmp 2],
 .seq (.reg [⟨none, .mov 2 (.k (.nil))⟩])
 (.seq (.reg [⟨none, .mov 5 (.t 0)⟩,
  ⟨none, .len 6 (.t 5)⟩,
  ⟨none, .mks 7 15 8 [.int .i64 0] (.t 6) (.t 6)⟩,
  ⟨none, .mov 3 (.t 7)⟩])
 (.seq (.seq (.reg [⟨none, .mov 4 (.k (.int .i64 0))⟩])
  (.block 0 (.loop [0, 3, 4]
   r360L0)))
 (.seq (.reg [⟨none, .mov 21 (.t 3)⟩,
  ⟨none, .mov 2 (.t 21)⟩])
 (.ret))))⟩
/-- The functions of this text, with their numbers. -/
def tLInt : List (Nat × RF) := [(285, r285), (287, r287), (288, r288), (360, r360)]
end Go.Proofs.Ytcdlbjomdokmiaa.A
/- The compact code of some functions: laws.toLedgerCall, laws.eqLedgerCall. -/
namespace Go.Proofs.Ytcdlbjomdokmiaa.A
open Go
/-- laws.toLedgerCall -/
def r26 : RF :=
 ⟨1, [.cell 2 4 true],
 .seq (.reg [⟨none, .locb 1 (.t 0)⟩,
  ⟨none, .loc 2 [.int .i64 0, .int .u64 0, .int .u64 0, .int .u64 0]⟩])
 (.seq (.reg [⟨none, .loc 3 [.int .i64 0, .int .u64 0, .int .u64 0, .int .u64 0]⟩])
 (.seq (.reg [⟨none, .fad 4 1 0⟩,
  ⟨none, .load 5 4 1 false⟩,
  ⟨none, .fad 6 3 0⟩,
  ⟨none, .store 6 1 (.t 5)⟩])
 (.seq (.reg [⟨none, .fad 7 1 1⟩,
  ⟨none, .load 8 7 1 false⟩,
  ⟨none, .fad 9 3 1⟩,
  ⟨none, .store 9 1 (.t 8)⟩])
 (.seq (.reg [⟨none, .fad 10 1 2⟩,
  ⟨none, .load 11 10 1 false⟩,
  ⟨none, .fad 12 3 2⟩,
  ⟨none, .store 12 1 (.t 11)⟩])
 (.seq (.reg [⟨none, .fad 13 1 3⟩,
  ⟨none, .load 14 13 1 false⟩,
  ⟨none, .fad 15 3 3⟩,
  ⟨none, .store 15 1 (.t 14)⟩])
 (.seq (.reg [⟨none, .load 16 3 4 true⟩,
  ⟨none, .store 2 4 (.t 16)⟩])
 (.ret)))))))⟩
/-- laws.eqLedgerCall -/
def r119 : RF :=
 ⟨2, [.tmp 4],
 .seq (.reg [⟨none, .locb 2 (.t 0)⟩,
  ⟨none, .locb 3 (.t 1)⟩,
  ⟨none, .mov 4 (.k (.bool false))⟩])
 (.seq (.seq (.reg [⟨none, .fad 5 2 0⟩,
   ⟨none, .load 6 5 1 false⟩,
   ⟨none, .fad 7 3 0⟩,
   ⟨none, .load 8 7 1 false⟩,
   ⟨none, .bin 9 .neq (.t 6) (.t 8)⟩])
  (.cond (.t 9)
  (.seq (.reg [⟨none, .mov 4 (.k (.bool false))⟩])
   (.ret))
  (.skip)))
 (.seq (.seq (.reg [⟨none, .fad 10 2 1⟩,
   ⟨none, .load 11 10 1 false⟩,
   ⟨none, .fad 12 3 1⟩,
   ⟨none, .load 13 12 1 false⟩,
   ⟨none, .bin 14 .neq (.t 11) (.t 13)⟩])
  (.cond (.t 14)
  (.seq (.reg [⟨none, .mov 4 (.k (.bool false))⟩])
   (.ret))
  (.skip)))
 (.seq (.seq (.reg [⟨none, .fad 15 2 2⟩,
   ⟨none, .load 16 15 1 false⟩,
   ⟨none, .fad 17 3 2⟩,
   ⟨none, .load 18 17 1 false⟩,
   ⟨none, .bin 19 .neq (.t 16) (.t 18)⟩])
  (.cond (.t 19)
  (.seq (.reg [⟨none, .mov 4 (.k (.bool false))⟩])
   (.ret))
  (.skip)))
 (.seq (.seq (.reg [⟨none, .fad 20 2 3⟩,
   ⟨none, .load 21 20 1 false⟩,
   ⟨none, .fad 22 3 3⟩,
   ⟨none, .load 23 22 1 false⟩,
   ⟨none, .bin 24 .neq (.t 21) (.t 23)⟩])
  (.cond (.t 24)
  (.seq (.reg [⟨none, .mov 4 (.k (.bool false))⟩])
   (.ret))
  (.skip)))
 (.seq (.reg [⟨none, .mov 4 (.k (.bool true))⟩])
 (.ret))))))⟩
/-- The functions of this text, with their numbers. -/
def tLLedgerCall : List (Nat × RF) := [(26, r26), (119, r119)]
end Go.Proofs.Ytcdlbjomdokmiaa.A
/- The compact code of some functions: laws.toPast, laws.szPastS, laws.toPastS, laws.eqPastS, laws.markPastS, laws.heldPastS, laws.eqPast. -/
namespace Go.Proofs.Ytcdlbjomdokmiaa.A
open Go
/-- laws.toPast -/
def r9 : RF :=
 ⟨1, [.cell 2 8 true],
 .seq (.reg [⟨none, .locb 1 (.t 0)⟩,
  ⟨none, .loc 2 [.int .i64 0, .int .u64 0, .int .u64 0, .int .u64 0, .int .i64 0, .int .i64 0, .int .i64 0, .int .u64 0]⟩])
 (.seq (.reg [⟨none, .loc 3 [.int .i64 0, .int .u64 0, .int .u64 0, .int .u64 0, .int .i64 0, .int .i64 0, .int .i64 0, .int .u64 0]⟩])
 (.seq (.reg [⟨none, .fad 4 1 0⟩,
  ⟨none, .load 5 4 4 true⟩,
  ⟨none, .call (some 6) 26 [(.t 5)] false⟩,
  ⟨none, .fad 7 3 0⟩,
  ⟨none, .store 7 4 (.t 6)⟩])
 (.seq (.reg [⟨none, .fad 8 1 4⟩,
  ⟨none, .load 9 8 1 false⟩,
  ⟨none, .fad 10 3 4⟩,
  ⟨none, .store 10 1 (.t 9)⟩])
 (.seq (.reg [⟨none, .fad 11 1 5⟩,
  ⟨none, .load 12 11 1 false⟩,
  ⟨none, .fad 13 3 5⟩,
  ⟨none, .store 13 1 (.t 12)⟩])
 (.seq (.reg [⟨none, .fad 14 1 6⟩,
  ⟨none, .load 15 14 1 false⟩,
  ⟨none, .fad 16 3 6⟩,
  ⟨none, .store 16 1 (.t 15)⟩])
 (.seq (.reg [⟨none, .fad 17 1 7⟩,
  ⟨none, .load 18 17 1 false⟩,
  ⟨none, .fad 19 3 7⟩,
  ⟨none, .store 19 1 (.t 18)⟩])
 (.seq (.reg [⟨none, .load 20 3 8 true⟩,
  ⟨none, .store 2 8 (.t 20)⟩])
 (.ret))))))))⟩
/-- laws.szPastS -/
def r40 : RF :=
 ⟨2, [.tmp 4],
 .seq (.reg [⟨none, .mov 4 (.k (.int .i64 0))⟩])
 (.seq (.reg [⟨none, .mov 5 (.t 1)⟩,
  ⟨none, .mov 6 (.t 0)⟩,
  ⟨none, .len 7 (.t 6)⟩,
  ⟨none, .bin 8 .sub (.t 5) (.t 7)⟩,
  ⟨none, .mov 1 (.t 8)⟩])
 (.seq (.seq (.reg [⟨none, .mov 9 (.t 1)⟩,
   ⟨none, .bin 10 .lss (.t 9) (.k (.int .i64 0))⟩])
  (.cond (.t 10)
  (.seq (.reg [⟨none, .mov 4 (.k (.int .i64 (-1)))⟩])
   (.ret))
  (.skip)))
 (.seq (.reg [⟨none, .mov 11 (.t 1)⟩,
  ⟨none, .mov 4 (.t 11)⟩])
 (.ret))))⟩
/-- A loop of laws.toPastS. -/
def r41L0 : RC :=
 .seq (.seq (.reg [⟨none, .mov 8 (.t 4)⟩,
      ⟨none, .mov 9 (.t 0)⟩,
      ⟨none, .len 10 (.t 9)⟩,
      ⟨none, .bin 11 .lss (.t 8) (.t 10)⟩])
     (.cond (.t 11)
     (.skip)
     (.exit 0)))
    (.seq (.block 1 (.reg [⟨none, .mov 14 (.t 3)⟩,
      ⟨none, .mov 15 (.t 4)⟩,
      ⟨none, .mov 16 (.t 0)⟩,
      ⟨none, .mov 17 (.t 4)⟩,
      ⟨none, .idx 18 2 (.t 16) (.t 17)⟩,
      ⟨none, .load 19 18 8 true⟩,
      ⟨none, .call (some 20) 9 [(.t 19)] false⟩,
      ⟨none, .idx 21 1 (.t 14) (.t 15)⟩,
      ⟨none, .store 21 8 (.t 20)⟩]))
    (.reg [⟨none, .mov 12 (.t 4)⟩,
    ⟨none, .bin 13 .add (.t 12) (.k (.int .i64 1))⟩,
    ⟨none, .mov 4 (.t 13)⟩]))
/-- laws.toPastS -/
def r41 : RF :=
 ⟨1, [.tmp 2],
 .seq (.reg [⟨none, .mov 2 (.k (.nil))⟩])
 (.seq (.reg [⟨none, .mov 5 (.t 0)⟩,
  ⟨none, .len 6 (.t 5)⟩,
  ⟨none, .mks 7 1 64 [.int .i64 0, .int .u64 0, .int .u64 0, .int .u64 0, .int .i64 0, .int .i64 0, .int .i64 0, .int .u64 0] (.t 6) (.t 6)⟩,
  ⟨none, .mov 3 (.t 7)⟩])
 (.seq (.seq (.reg [⟨none, .mov 4 (.k (.int .i64 0))⟩])
  (.block 0 (.loop [0, 3, 4]
   r41L0)))
 (.seq (.reg [⟨none, .mov 22 (.t 3)⟩,
  ⟨none, .mov 2 (.t 22)⟩])
 (.ret))))⟩
/-- A loop of laws.eqPastS. -/
def r44L0 : RC :=
 .seq (.seq (.reg [⟨none, .mov 11 (.t 5)⟩,
      ⟨none, .mov 12 (.t 0)⟩,
      ⟨none, .len 13 (.t 12)⟩,
      ⟨none, .bin 14 .lss (.t 11) (.t 13)⟩])
     (.cond (.t 14)
     (.skip)
     (.exit 0)))
    (.seq (.block 1 (.seq (.reg [⟨none, .chk []⟩,
       ⟨none, .mov 17 (.t 0)⟩,
       ⟨none, .mov 18 (.t 5)⟩,
       ⟨none, .idx 19 1 (.t 17) (.t 18)⟩,
       ⟨none, .mov 21 (.t 1)⟩,
       ⟨none, .mov 22 (.t 5)⟩,
       ⟨none, .idx 23 1 (.t 21) (.t 22)⟩,
       ⟨none, .load 20 19 8 true⟩,
       ⟨none, .load 24 23 8 true⟩,
       ⟨none, .call (some 25) 98 [(.t 20), (.t 24)] true⟩,
       ⟨none, .not 26 (.t 25)⟩])
      (.cond (.t 26)
      (.seq (.reg [⟨none, .mov 4 (.k (.bool false))⟩])
       (.ret))
      (.skip))))
    (.reg [⟨none, .mov 15 (.t 5)⟩,
    ⟨none, .bin 16 .add (.t 15) (.k (.int .i64 1))⟩,
    ⟨none, .mov 5 (.t 16)⟩]))
/-- laws.eqPastS -/
def r44 : RF :=
 ⟨2, [.tmp 4],
 .seq (.reg [⟨none, .mov 4 (.k (.bool false))⟩])
 (.seq (.seq (.reg [⟨none, .mov 6 (.t 0)⟩,
   ⟨none, .len 7 (.t 6)⟩,
   ⟨none, .mov 8 (.t 1)⟩,
   ⟨none, .len 9 (.t 8)⟩,
   ⟨none, .bin 10 .neq (.t 7) (.t 9)⟩])
  (.cond (.t 10)
  (.seq (.reg [⟨none, .mov 4 (.k (.bool false))⟩])
   (.ret))
  (.skip)))
 (.seq (.seq (.reg [⟨none, .mov 5 (.k (.int .i64 0))⟩])
  (.block 0 (.loop [0, 1, 5]
   r44L0)))
 (.seq (.reg [⟨none, .mov 4 (.k (.bool true))⟩])
 (.ret))))⟩
/-- A loop of laws.markPastS. -/
def r54L0 : RC :=
 .seq (.seq (.reg [⟨none, .mov 6 (.t 5)⟩,
      ⟨none, .mov 7 (.t 0)⟩,
      ⟨none, .len 8 (.t 7)⟩,
      ⟨none, .bin 9 .lss (.t 6) (.t 8)⟩])
     (.cond (.t 9)
     (.skip)
     (.exit 0)))
    (.seq (.block 1 (.seq (.reg [⟨none, .mov 12 (.t 0)⟩,
       ⟨none, .mov 13 (.t 5)⟩,
       ⟨none, .mov 14 (.t 1)⟩,
       ⟨none, .idx 15 1 (.t 12) (.t 13)⟩,
       ⟨none, .fad 16 15 0⟩,
       ⟨none, .fad 17 16 0⟩,
       ⟨none, .store 17 1 (.t 14)⟩])
      (.seq (.reg [⟨none, .mov 18 (.t 1)⟩,
       ⟨none, .bin 19 .add (.t 18) (.k (.int .i64 1))⟩,
       ⟨none, .mov 1 (.t 19)⟩])
      (.seq (.reg [⟨none, .mov 20 (.t 0)⟩,
       ⟨none, .mov 21 (.t 5)⟩,
       ⟨none, .mov 22 (.t 1)⟩,
       ⟨none, .conv 23 .u64 (.t 22)⟩,
       ⟨none, .idx 24 1 (.t 20) (.t 21)⟩,
       ⟨none, .fad 25 24 0⟩,
       ⟨none, .fad 26 25 1⟩,
       ⟨none, .store 26 1 (.t 23)⟩])
      (.seq (.reg [⟨none, .mov 27 (.t 1)⟩,
       ⟨none, .bin 28 .add (.t 27) (.k (.int .i64 1))⟩,
       ⟨none, .mov 1 (.t 28)⟩])
      (.seq (.reg [⟨none, .mov 29 (.t 0)⟩,
       ⟨none, .mov 30 (.t 5)⟩,
       ⟨none, .mov 31 (.t 1)⟩,
       ⟨none, .conv 32 .u64 (.t 31)⟩,
       ⟨none, .idx 33 1 (.t 29) (.t 30)⟩,
       ⟨none, .fad 34 33 0⟩,
       ⟨none, .fad 35 34 2⟩,
       ⟨none, .store 35 1 (.t 32)⟩])
      (.seq (.reg [⟨none, .mov 36 (.t 1)⟩,
       ⟨none, .bin 37 .add (.t 36) (.k (.int .i64 1))⟩,
       ⟨none, .mov 1 (.t 37)⟩])
      (.seq (.reg [⟨none, .mov 38 (.t 0)⟩,
       ⟨none, .mov 39 (.t 5)⟩,
       ⟨none, .mov 40 (.t 1)⟩,
       ⟨none, .conv 41 .u64 (.t 40)⟩,
       ⟨none, .idx 42 1 (.t 38) (.t 39)⟩,
       ⟨none, .fad 43 42 0⟩,
       ⟨none, .fad 44 43 3⟩,
       ⟨none, .store 44 1 (.t 41)⟩])
      (.seq (.reg [⟨none, .mov 45 (.t 1)⟩,
       ⟨none, .bin 46 .add (.t 45) (.k (.int .i64 1))⟩,
       ⟨none, .mov 1 (.t 46)⟩])
      (.seq (.reg [⟨none, .mov 47 (.t 0)⟩,
       ⟨none, .mov 48 (.t 5)⟩,
       ⟨none, .mov 49 (.t 1)⟩,
       ⟨none, .idx 50 1 (.t 47) (.t 48)⟩,
       ⟨none, .fad 51 50 4⟩,
       ⟨none, .store 51 1 (.t 49)⟩])
      (.seq (.reg [⟨none, .mov 52 (.t 1)⟩,
       ⟨none, .bin 53 .add (.t 52) (.k (.int .i64 1))⟩,
       ⟨none, .mov 1 (.t 53)⟩])
      (.seq (.reg [⟨none, .mov 54 (.t 0)⟩,
       ⟨none, .mov 55 (.t 5)⟩,
       ⟨none, .mov 56 (.t 1)⟩,
       ⟨none, .idx 57 1 (.t 54) (.t 55)⟩,
       ⟨none, .fad 58 57 5⟩,
       ⟨none, .store 58 1 (.t 56)⟩])
      (.seq (.reg [⟨none, .mov 59 (.t 1)⟩,
       ⟨none, .bin 60 .add (.t 59) (.k (.int .i64 1))⟩,
       ⟨none, .mov 1 (.t 60)⟩])
      (.seq (.reg [⟨none, .mov 61 (.t 0)⟩,
       ⟨none, .mov 62 (.t 5)⟩,
       ⟨none, .mov 63 (.t 1)⟩,
       ⟨none, .idx 64 1 (.t 61) (.t 62)⟩,
       ⟨none, .fad 65 64 6⟩,
       ⟨none, .store 65 1 (.t 63)⟩])
      (.seq (.reg [⟨none, .mov 66 (.t 1)⟩,
       ⟨none, .bin 67 .add (.t 66) (.k (.int .i64 1))⟩,
       ⟨none, .mov 1 (.t 67)⟩])
      (.seq (.reg [⟨none, .mov 68 (.t 0)⟩,
       ⟨none, .mov 69 (.t 5)⟩,
       ⟨none, .mov 70 (.t 1)⟩,
       ⟨none, .conv 71 .u64 (.t 70)⟩,
       ⟨none, .idx 72 1 (.t 68) (.t 69)⟩,
       ⟨none, .fad 73 72 7⟩,
       ⟨none, .store 73 1 (.t 71)⟩])
      (.reg [⟨none, .mov 74 (.t 1)⟩,
      ⟨none, .bin 75 .add (.t 74) (.k (.int .i64 1))⟩,
      ⟨none, .mov 1 (.t 75)⟩])))))))))))))))))
    (.reg [⟨none, .mov 10 (.t 5)⟩,
    ⟨none, .bin 11 .add (.t 10) (.k (.int .i64 1))⟩,
    ⟨none, .mov 5 (.t 11)⟩]))
/-- laws.markPastS -/
def r54 : RF :=
 ⟨2, [.tmp 4],
 .seq (.reg [⟨none, .mov 4 (.k (.int .i64 0))⟩])
 (.seq (.seq (.reg [⟨none, .mov 5 (.k (.int .i64 0))⟩])
  (.block 0 (.loop [0, 1, 5]
   r54L0)))
 (.seq (.reg [⟨none, .mov 76 (.t 1)⟩,
  ⟨none, .mov 4 (.t 76)⟩])
 (.ret)))⟩
/-- A loop of laws.heldPastS. -/
def r55L0 : RC :=
 .seq (.seq (.reg [⟨none, .mov 6 (.t 5)⟩,
      ⟨none, .mov 7 (.t 0)⟩,
      ⟨none, .len 8 (.t 7)⟩,
      ⟨none, .bin 9 .lss (.t 6) (.t 8)⟩])
     (.cond (.t 9)
     (.skip)
     (.exit 0)))
    (.seq (.block 1 (.seq (.seq (.reg [⟨none, .mov 12 (.t 0)⟩,
        ⟨none, .mov 13 (.t 5)⟩,
        ⟨none, .idx 14 1 (.t 12) (.t 13)⟩,
        ⟨none, .fad 15 14 0⟩,
        ⟨none, .fad 16 15 0⟩,
        ⟨none, .load 17 16 1 false⟩,
        ⟨none, .mov 18 (.t 1)⟩,
        ⟨none, .bin 19 .neq (.t 17) (.t 18)⟩])
       (.cond (.t 19)
       (.seq (.reg [⟨none, .mov 4 (.k (.int .i64 (-1)))⟩])
        (.ret))
       (.skip)))
      (.seq (.reg [⟨none, .mov 20 (.t 1)⟩,
       ⟨none, .bin 21 .add (.t 20) (.k (.int .i64 1))⟩,
       ⟨none, .mov 1 (.t 21)⟩])
      (.seq (.seq (.reg [⟨none, .mov 22 (.t 0)⟩,
        ⟨none, .mov 23 (.t 5)⟩,
        ⟨none, .idx 24 1 (.t 22) (.t 23)⟩,
        ⟨none, .fad 25 24 0⟩,
        ⟨none, .fad 26 25 1⟩,
        ⟨none, .load 27 26 1 false⟩,
        ⟨none, .mov 28 (.t 1)⟩,
        ⟨none, .conv 29 .u64 (.t 28)⟩,
        ⟨none, .bin 30 .neq (.t 27) (.t 29)⟩])
       (.cond (.t 30)
       (.seq (.reg [⟨none, .mov 4 (.k (.int .i64 (-1)))⟩])
        (.ret))
       (.skip)))
      (.seq (.reg [⟨none, .mov 31 (.t 1)⟩,
       ⟨none, .bin 32 .add (.t 31) (.k (.int .i64 1))⟩,
       ⟨none, .mov 1 (.t 32)⟩])
      (.seq (.seq (.reg [⟨none, .mov 33 (.t 0)⟩,
        ⟨none, .mov 34 (.t 5)⟩,
        ⟨none, .idx 35 1 (.t 33) (.t 34)⟩,
        ⟨none, .fad 36 35 0⟩,
        ⟨none, .fad 37 36 2⟩,
        ⟨none, .load 38 37 1 false⟩,
        ⟨none, .mov 39 (.t 1)⟩,
        ⟨none, .conv 40 .u64 (.t 39)⟩,
        ⟨none, .bin 41 .neq (.t 38) (.t 40)⟩])
       (.cond (.t 41)
       (.seq (.reg [⟨none, .mov 4 (.k (.int .i64 (-1)))⟩])
        (.ret))
       (.skip)))
      (.seq (.reg [⟨none, .mov 42 (.t 1)⟩,
       ⟨none, .bin 43 .add (.t 42) (.k (.int .i64 1))⟩,
       ⟨none, .mov 1 (.t 43)⟩])
      (.seq (.seq (.reg [⟨none, .mov 44 (.t 0)⟩,
        ⟨none, .mov 45 (.t 5)⟩,
        ⟨none, .idx 46 1 (.t 44) (.t 45)⟩,
        ⟨none, .fad 47 46 0⟩,
        ⟨none, .fad 48 47 3⟩,
        ⟨none, .load 49 48 1 false⟩,
        ⟨none, .mov 50 (.t 1)⟩,
        ⟨none, .conv 51 .u64 (.t 50)⟩,
        ⟨none, .bin 52 .neq (.t 49) (.t 51)⟩])
       (.cond (.t 52)
       (.seq (.reg [⟨none, .mov 4 (.k (.int .i64 (-1)))⟩])
        (.ret))
       (.skip)))
      (.seq (.reg [⟨none, .mov 53 (.t 1)⟩,
       ⟨none, .bin 54 .add (.t 53) (.k (.int .i64 1))⟩,
       ⟨none, .mov 1 (.t 54)⟩])
      (.seq (.seq (.reg [⟨none, .mov 55 (.t 0)⟩,
        ⟨none, .mov 56 (.t 5)⟩,
        ⟨none, .idx 57 1 (.t 55) (.t 56)⟩,
        ⟨none, .fad 58 57 4⟩,
        ⟨none, .load 59 58 1 false⟩,
        ⟨none, .mov 60 (.t 1)⟩,
        ⟨none, .bin 61 .neq (.t 59) (.t 60)⟩])
       (.cond (.t 61)
       (.seq (.reg [⟨none, .mov 4 (.k (.int .i64 (-1)))⟩])
        (.ret))
       (.skip)))
      (.seq (.reg [⟨none, .mov 62 (.t 1)⟩,
       ⟨none, .bin 63 .add (.t 62) (.k (.int .i64 1))⟩,
       ⟨none, .mov 1 (.t 63)⟩])
      (.seq (.seq (.reg [⟨none, .mov 64 (.t 0)⟩,
        ⟨none, .mov 65 (.t 5)⟩,
        ⟨none, .idx 66 1 (.t 64) (.t 65)⟩,
        ⟨none, .fad 67 66 5⟩,
        ⟨none, .load 68 67 1 false⟩,
        ⟨none, .mov 69 (.t 1)⟩,
        ⟨none, .bin 70 .neq (.t 68) (.t 69)⟩])
       (.cond (.t 70)
       (.seq (.reg [⟨none, .mov 4 (.k (.int .i64 (-1)))⟩])
        (.ret))
       (.skip)))
      (.seq (.reg [⟨none, .mov 71 (.t 1)⟩,
       ⟨none, .bin 72 .add (.t 71) (.k (.int .i64 1))⟩,
       ⟨none, .mov 1 (.t 72)⟩])
      (.seq (.seq (.reg [⟨none, .mov 73 (.t 0)⟩,
        ⟨none, .mov 74 (.t 5)⟩,
        ⟨none, .idx 75 1 (.t 73) (.t 74)⟩,
        ⟨none, .fad 76 75 6⟩,
        ⟨none, .load 77 76 1 false⟩,
        ⟨none, .mov 78 (.t 1)⟩,
        ⟨none, .bin 79 .neq (.t 77) (.t 78)⟩])
       (.cond (.t 79)
       (.seq (.reg [⟨none, .mov 4 (.k (.int .i64 (-1)))⟩])
        (.ret))
       (.skip)))
      (.seq (.reg [⟨none, .mov 80 (.t 1)⟩,
       ⟨none, .bin 81 .add (.t 80) (.k (.int .i64 1))⟩,
       ⟨none, .mov 1 (.t 81)⟩])
      (.seq (.seq (.reg [⟨none, .mov 82 (.t 0)⟩,
        ⟨none, .mov 83 (.t 5)⟩,
        ⟨none, .idx 84 1 (.t 82) (.t 83)⟩,
        ⟨none, .fad 85 84 7⟩,
        ⟨none, .load 86 85 1 false⟩,
        ⟨none, .mov 87 (.t 1)⟩,
        ⟨none, .conv 88 .u64 (.t 87)⟩,
        ⟨none, .bin 89 .neq (.t 86) (.t 88)⟩])
       (.cond (.t 89)
       (.seq (.reg [⟨none, .mov 4 (.k (.int .i64 (-1)))⟩])
        (.ret))
       (.skip)))
      (.reg [⟨none, .mov 90 (.t 1)⟩,
      ⟨none, .bin 91 .add (.t 90) (.k (.int .i64 1))⟩,
      ⟨none, .mov 1 (.t 91)⟩])))))))))))))))))
    (.reg [⟨none, .mov 10 (.t 5)⟩,
    ⟨none, .bin 11 .add (.t 10) (.k (.int .i64 1))⟩,
    ⟨none, .mov 5 (.t 11)⟩]))
/-- laws.heldPastS -/
def r55 : RF :=
 ⟨2, [.tmp 4],
 .seq (.reg [⟨none, .mov 4 (.k (.int .i64 0))⟩])
 (.seq (.seq (.reg [⟨none, .mov 5 (.k (.int .i64 0))⟩])
  (.block 0 (.loop [0, 1, 5]
   r55L0)))
 (.seq (.reg [⟨none, .mov 92 (.t 1)⟩,
  ⟨none, .mov 4 (.t 92)⟩])
 (.ret)))⟩
/-- laws.eqPast -/
def r98 : RF :=
 ⟨2, [.tmp 4],
 .seq (.reg [⟨none, .locb 2 (.t 0)⟩,
  ⟨none, .locb 3 (.t 1)⟩,
  ⟨none, .mov 4 (.k (.bool false))⟩])
 (.seq (.seq (.reg [⟨none, .fad 5 2 0⟩,
   ⟨none, .load 6 5 4 true⟩,
   ⟨none, .fad 7 3 0⟩,
   ⟨none, .load 8 7 4 true⟩,
   ⟨none, .call (some 9) 119 [(.t 6), (.t 8)] false⟩,
   ⟨none, .not 10 (.t 9)⟩])
  (.cond (.t 10)
  (.seq (.reg [⟨none, .mov 4 (.k (.bool false))⟩])
   (.ret))
  (.skip)))
 (.seq (.seq (.reg [⟨none, .fad 11 2 4⟩,
   ⟨none, .load 12 11 1 false⟩,
   ⟨none, .fad 13 3 4⟩,
   ⟨none, .load 14 13 1 false⟩,
   ⟨none, .bin 15 .neq (.t 12) (.t 14)⟩])
  (.cond (.t 15)
  (.seq (.reg [⟨none, .mov 4 (.k (.bool false))⟩])
   (.ret))
  (.skip)))
 (.seq (.seq (.reg [⟨none, .fad 16 2 5⟩,
   ⟨none, .load 17 16 1 false⟩,
   ⟨none, .fad 18 3 5⟩,
   ⟨none, .load 19 18 1 false⟩,
   ⟨none, .bin 20 .neq (.t 17) (.t 19)⟩])
  (.cond (.t 20)
  (.seq (.reg [⟨none, .mov 4 (.k (.bool false))⟩])
   (.ret))
  (.skip)))
 (.seq (.seq (.reg [⟨none, .fad 21 2 6⟩,
   ⟨none, .load 22 21 1 false⟩,
   ⟨none, .fad 23 3 6⟩,
   ⟨none, .load 24 23 1 false⟩,
   ⟨none, .bin 25 .neq (.t 22) (.t 24)⟩])
  (.cond (.t 25)
  (.seq (.reg [⟨none, .mov 4 (.k (.bool false))⟩])
   (.ret))
  (.skip)))
 (.seq (.seq (.reg [⟨none, .fad 26 2 7⟩,
   ⟨none, .load 27 26 1 false⟩,
   ⟨none, .fad 28 3 7⟩,
   ⟨none, .load 29 28 1 false⟩,
   ⟨none, .bin 30 .neq (.t 27) (.t 29)⟩])
  (.cond (.t 30)
  (.seq (.reg [⟨none, .mov 4 (.k (.bool false))⟩])
   (.ret))
  (.skip)))
 (.seq (.reg [⟨none, .mov 4 (.k (.bool true))⟩])
 (.ret)))))))⟩
/-- The functions of this text, with their numbers. -/
def tLPast : List (Nat × RF) := [(9, r9), (40, r40), (41, r41), (44, r44), (54, r54), (55, r55), (98, r98)]
end Go.Proofs.Ytcdlbjomdokmiaa.A
/- The compact code of some functions: slices.Contains[[]int,int]. -/
namespace Go.Proofs.Ytcdlbjomdokmiaa.A
open Go
/-- slices.Contains[[]int,int] -/
def r378 : RF :=
 ⟨2, [.tmp 4],
 .seq (.reg [⟨none, .mov 4 (.k (.bool false))⟩])
 (.seq (.reg [⟨none, .mov 5 (.t 0)⟩,
  ⟨none, .mov 6 (.t 1)⟩,
  ⟨none, .call (some 7) 379 [(.t 5), (.t 6)] false⟩,
  ⟨none, .bin 8 .geq (.t 7) (.k (.int .i64 0))⟩,
  ⟨none, .mov 4 (.t 8)⟩])
 (.ret))⟩
/-- The functions of this text, with their numbers. -/
def tLibslicesContainsintint : List (Nat × RF) := [(378, r378)]
end Go.Proofs.Ytcdlbjomdokmiaa.A
/- The compact code of some functions: slices.Index[[]int,int]. -/
namespace Go.Proofs.Ytcdlbjomdokmiaa.A
open Go
/-- A loop of slices.Index[[]int,int]. -/
def r379L0 : RC :=
 .seq (.reg [⟨none, .bin 9 .lss (.t 8) (.t 7)⟩])
    (.seq (.cond (.t 9)
     (.skip)
     (.exit 0))
    (.seq (.block 1 (.seq (.reg [⟨none, .mov 10 (.t 8)⟩,
       ⟨none, .mov 5 (.t 10)⟩])
      (.seq (.reg [⟨none, .mov 11 (.t 1)⟩,
       ⟨none, .mov 12 (.t 0)⟩,
       ⟨none, .mov 13 (.t 5)⟩,
       ⟨none, .idx 14 15 (.t 12) (.t 13)⟩,
       ⟨none, .load 15 14 1 false⟩,
       ⟨none, .bin 16 .eql (.t 11) (.t 15)⟩])
      (.cond (.t 16)
      (.seq (.reg [⟨none, .mov 17 (.t 5)⟩,
        ⟨none, .mov 4 (.t 17)⟩])
       (.ret))
      (.skip)))))
    (.reg [⟨none, .bin 18 .add (.t 8) (.k (.int .i64 1))⟩,
    ⟨none, .mov 8 (.t 18)⟩])))
/-- slices.Index[[]int,int] -/
def r379 : RF :=
 ⟨2, [.tmp 4],
 .seq (.reg [⟨none, .mov 4 (.k (.int .i64 0))⟩])
 (.seq (.seq (.reg [⟨none, .mov 6 (.t 0)⟩,
   ⟨none, .len 7 (.t 6)⟩,
   ⟨none, .mov 8 (.k (.int .i64 0))⟩])
  (.block 0 (.loop [0, 1, 7, 8]
   r379L0)))
 (.seq (.reg [⟨none, .mov 4 (.k (.int .i64 (-1)))⟩])
 (.ret)))⟩
/-- The functions of this text, with their numbers. -/
def tLibslicesIndexintint : List (Nat × RF) := [(379, r379)]
end Go.Proofs.Ytcdlbjomdokmiaa.A
/- The compact code of some functions: spec.l01In, spec.l01New, spec.l01Below, spec.l01Size, spec.l01PickInt, spec.l01Once, spec.l01Byte, spec.l01Big, spec.l01Has. -/
namespace Go.Proofs.Ytcdlbjomdokmiaa.A
open Go
/-- spec.l01In -/
def r5 : RF :=
 ⟨3, [.tmp 6],
 .seq (.reg [⟨none, .mov 6 (.k (.bool false))⟩])
 (.seq (.reg [⟨none, .mov 7 (.t 1)⟩,
  ⟨none, .mov 8 (.t 0)⟩,
  ⟨none, .bin 9 .leq (.t 7) (.t 8)⟩,
  ⟨none, .mov 10 (.t 9)⟩,
  ⟨some (10, true), .mov 11 (.t 0)⟩,
  ⟨some (10, true), .mov 12 (.t 2)⟩,
  ⟨some (10, true), .bin 13 .leq (.t 11) (.t 12)⟩,
  ⟨none, .pick 14 (.t 10) (.t 13) (.k (.bool false))⟩,
  ⟨none, .mov 6 (.t 14)⟩])
 (.ret))⟩
/-- A loop of spec.l01New. -/
def r194L0 : RC :=
 .seq (.seq (.reg [⟨none, .mov 8 (.t 4)⟩,
      ⟨none, .mov 9 (.t 0)⟩,
      ⟨none, .len 10 (.t 9)⟩,
      ⟨none, .bin 11 .lss (.t 8) (.t 10)⟩,
      ⟨none, .mov 12 (.t 11)⟩,
      ⟨some (12, true), .mov 13 (.t 4)⟩,
      ⟨some (12, true), .bin 14 .lss (.t 13) (.k (.int .i64 4000))⟩,
      ⟨none, .pick 15 (.t 12) (.t 14) (.k (.bool false))⟩])
     (.cond (.t 15)
     (.skip)
     (.exit 0)))
    (.seq (.block 1 (.reg [⟨none, .mov 18 (.t 3)⟩,
      ⟨none, .bin 19 .mul (.t 18) (.k (.int .i64 149))⟩,
      ⟨none, .mov 20 (.t 0)⟩,
      ⟨none, .mov 21 (.t 4)⟩,
      ⟨none, .idx 22 19 (.t 20) (.t 21)⟩,
      ⟨none, .load 23 22 1 false⟩,
      ⟨none, .conv 24 .i64 (.t 23)⟩,
      ⟨none, .bin 25 .add (.t 19) (.t 24)⟩,
      ⟨none, .bin 26 .add (.t 25) (.k (.int .i64 11))⟩,
      ⟨none, .bin 27 .and (.t 26) (.k (.int .i64 1073741823))⟩,
      ⟨none, .mov 3 (.t 27)⟩]))
    (.reg [⟨none, .mov 16 (.t 4)⟩,
    ⟨none, .bin 17 .add (.t 16) (.k (.int .i64 1))⟩,
    ⟨none, .mov 4 (.t 17)⟩]))
/-- spec.l01New -/
def r194 : RF :=
 ⟨1, [.tmp 2],
 .seq (.reg [⟨none, .mov 2 (.k (.nilp))⟩])
 (.seq (.reg [⟨none, .mov 5 (.t 0)⟩,
  ⟨none, .len 6 (.t 5)⟩,
  ⟨none, .bin 7 .add (.k (.int .i64 138138)) (.t 6)⟩,
  ⟨none, .mov 3 (.t 7)⟩])
 (.seq (.seq (.reg [⟨none, .mov 4 (.k (.int .i64 0))⟩])
  (.block 0 (.loop [0, 3, 4]
   r194L0)))
 (.seq (.reg [⟨none, .mov 28 (.t 0)⟩,
  ⟨none, .mov 29 (.t 3)⟩,
  ⟨none, .build 30 [.nil, .int .i64 0, .int .i64 0] [(0, 1, (.t 28)), (2, 1, (.t 29))]⟩,
  ⟨none, .newb 31 (.t 30)⟩,
  ⟨none, .mov 2 (.t 31)⟩])
 (.ret))))⟩
/-- spec.l01Below -/
def r236 : RF :=
 ⟨2, [.tmp 4],
 .seq (.reg [⟨none, .mov 4 (.k (.int .i64 0))⟩])
 (.seq (.seq (.reg [⟨none, .mov 8 (.t 1)⟩,
   ⟨none, .bin 9 .leq (.t 8) (.k (.int .i64 0))⟩])
  (.cond (.t 9)
  (.seq (.reg [⟨none, .mov 4 (.k (.int .i64 0))⟩])
   (.ret))
  (.skip)))
 (.seq (.seq (.reg [⟨none, .mov 10 (.t 1)⟩,
   ⟨none, .bin 11 .leq (.t 10) (.k (.int .i64 256))⟩])
  (.cond (.t 11)
  (.seq (.reg [⟨none, .mov 12 (.t 0)⟩,
    ⟨none, .call (some 13) 263 [(.t 12)] false⟩,
    ⟨none, .mov 14 (.t 1)⟩,
    ⟨none, .bin 15 .rem (.t 13) (.t 14)⟩,
    ⟨none, .mov 4 (.t 15)⟩])
   (.ret))
  (.skip)))
 (.seq (.reg [⟨none, .mov 16 (.t 0)⟩,
  ⟨none, .call (some 17) 263 [(.t 16)] false⟩,
  ⟨none, .mov 5 (.t 17)⟩])
 (.seq (.reg [⟨none, .mov 18 (.t 0)⟩,
  ⟨none, .call (some 19) 263 [(.t 18)] false⟩,
  ⟨none, .mov 6 (.t 19)⟩])
 (.seq (.reg [⟨none, .mov 20 (.t 0)⟩,
  ⟨none, .call (some 21) 263 [(.t 20)] false⟩,
  ⟨none, .mov 7 (.t 21)⟩])
 (.seq (.reg [⟨none, .mov 22 (.t 5)⟩,
  ⟨none, .bin 23 .mul (.t 22) (.k (.int .i64 65536))⟩,
  ⟨none, .mov 24 (.t 6)⟩,
  ⟨none, .bin 25 .mul (.t 24) (.k (.int .i64 256))⟩,
  ⟨none, .bin 26 .add (.t 23) (.t 25)⟩,
  ⟨none, .mov 27 (.t 7)⟩,
  ⟨none, .bin 28 .add (.t 26) (.t 27)⟩,
  ⟨none, .mov 29 (.t 1)⟩,
  ⟨none, .bin 30 .rem (.t 28) (.t 29)⟩,
  ⟨none, .mov 4 (.t 30)⟩])
 (.ret)))))))⟩
/-- spec.l01Size -/
def r238 : RF :=
 ⟨2, [.tmp 4],
 .seq (.reg [⟨none, .mov 4 (.k (.int .i64 0))⟩])
 (.seq (.reg [⟨none, .mov 6 (.t 0)⟩,
  ⟨none, .len 7 (.t 6)⟩,
  ⟨none, .bin 8 .quo (.t 7) (.k (.int .i64 16))⟩,
  ⟨none, .bin 9 .add (.k (.int .i64 2)) (.t 8)⟩,
  ⟨none, .mov 5 (.t 9)⟩])
 (.seq (.seq (.reg [⟨none, .mov 10 (.t 5)⟩,
   ⟨none, .mov 11 (.t 1)⟩,
   ⟨none, .bin 12 .gtr (.t 10) (.t 11)⟩])
  (.cond (.t 12)
  (.seq (.reg [⟨none, .mov 13 (.t 1)⟩,
    ⟨none, .mov 4 (.t 13)⟩])
   (.ret))
  (.skip)))
 (.seq (.reg [⟨none, .mov 14 (.t 5)⟩,
  ⟨none, .mov 4 (.t 14)⟩])
 (.ret))))⟩
/-- spec.l01PickInt -/
def r239 : RF :=
 ⟨2, [.tmp 4],
 .seq (.reg [⟨none, .mov 4 (.k (.int .i64 0))⟩])
 (.seq (.reg [⟨none, .mov 5 (.t 1)⟩,
  ⟨none, .mov 6 (.t 0)⟩,
  ⟨none, .mov 7 (.t 1)⟩,
  ⟨none, .len 8 (.t 7)⟩,
  ⟨none, .call (some 9) 236 [(.t 6), (.t 8)] false⟩,
  ⟨none, .idx 10 15 (.t 5) (.t 9)⟩,
  ⟨none, .load 11 10 1 false⟩,
  ⟨none, .mov 4 (.t 11)⟩])
 (.ret))⟩
/-- spec.l01Once -/
def r240 : RF :=
 ⟨2, [.tmp 4],
 .seq (.reg [⟨none, .mov 4 (.k (.bool false))⟩])
 (.seq (.reg [⟨none, .mov 5 (.t 0)⟩,
  ⟨none, .mov 6 (.t 1)⟩,
  ⟨none, .call (some 7) 236 [(.t 5), (.t 6)] false⟩,
  ⟨none, .bin 8 .eql (.t 7) (.k (.int .i64 0))⟩,
  ⟨none, .mov 4 (.t 8)⟩])
 (.ret))⟩
/-- spec.l01Byte -/
def r263 : RF :=
 ⟨1, [.tmp 2],
 .seq (.reg [⟨none, .mov 2 (.k (.int .i64 0))⟩])
 (.seq (.reg [⟨none, .mov 4 (.t 0)⟩,
  ⟨none, .mov 5 (.t 0)⟩,
  ⟨none, .nilc 6 (.t 5)⟩,
  ⟨none, .fad 7 6 2⟩,
  ⟨none, .load 8 7 1 false⟩,
  ⟨none, .bin 9 .mul (.t 8) (.k (.int .i64 6364136223846793005))⟩,
  ⟨none, .bin 10 .add (.t 9) (.k (.int .i64 1442695040888963407))⟩,
  ⟨none, .nilc 11 (.t 4)⟩,
  ⟨none, .fad 12 11 2⟩,
  ⟨none, .store 12 1 (.t 10)⟩])
 (.seq (.reg [⟨none, .chk []⟩,
  ⟨none, .mov 13 (.t 0)⟩,
  ⟨none, .nilc 14 (.t 13)⟩,
  ⟨none, .mov 18 (.t 0)⟩,
  ⟨none, .nilc 19 (.t 18)⟩,
  ⟨none, .fad 15 14 2⟩,
  ⟨none, .load 16 15 1 false⟩,
  ⟨none, .bin 17 .shr (.t 16) (.k (.int .u64 33))⟩,
  ⟨none, .fad 20 19 2⟩,
  ⟨none, .load 21 20 1 false⟩,
  ⟨none, .bin 22 .shr (.t 21) (.k (.int .u64 45))⟩,
  ⟨none, .bin 23 .xor (.t 17) (.t 22)⟩,
  ⟨none, .bin 24 .and (.t 23) (.k (.int .i64 255))⟩,
  ⟨none, .mov 3 (.t 24)⟩])
 (.seq (.seq (.reg [⟨none, .chk []⟩,
   ⟨none, .mov 25 (.t 0)⟩,
   ⟨none, .nilc 26 (.t 25)⟩,
   ⟨none, .mov 29 (.t 0)⟩,
   ⟨none, .nilc 30 (.t 29)⟩,
   ⟨none, .fad 27 26 1⟩,
   ⟨none, .load 28 27 1 false⟩,
   ⟨none, .fad 31 30 0⟩,
   ⟨none, .load 32 31 1 false⟩,
   ⟨none, .len 33 (.t 32)⟩,
   ⟨none, .bin 34 .lss (.t 28) (.t 33)⟩])
  (.cond (.t 34)
  (.seq (.reg [⟨none, .chk []⟩,
    ⟨none, .mov 35 (.t 3)⟩,
    ⟨none, .mov 36 (.t 0)⟩,
    ⟨none, .nilc 37 (.t 36)⟩,
    ⟨none, .mov 40 (.t 0)⟩,
    ⟨none, .nilc 41 (.t 40)⟩,
    ⟨none, .fad 38 37 0⟩,
    ⟨none, .load 39 38 1 false⟩,
    ⟨none, .fad 42 41 1⟩,
    ⟨none, .load 43 42 1 false⟩,
    ⟨none, .idx 44 19 (.t 39) (.t 43)⟩,
    ⟨none, .load 45 44 1 false⟩,
    ⟨none, .conv 46 .i64 (.t 45)⟩,
    ⟨none, .bin 47 .add (.t 35) (.t 46)⟩,
    ⟨none, .bin 48 .and (.t 47) (.k (.int .i64 255))⟩,
    ⟨none, .mov 3 (.t 48)⟩])
   (.reg [⟨none, .mov 49 (.t 0)⟩,
   ⟨none, .mov 50 (.t 0)⟩,
   ⟨none, .nilc 51 (.t 50)⟩,
   ⟨none, .fad 52 51 1⟩,
   ⟨none, .load 53 52 1 false⟩,
   ⟨none, .bin 54 .add (.t 53) (.k (.int .i64 1))⟩,
   ⟨none, .nilc 55 (.t 49)⟩,
   ⟨none, .fad 56 55 1⟩,
   ⟨none, .store 56 1 (.t 54)⟩]))
  (.skip)))
 (.seq (.reg [⟨none, .mov 57 (.t 3)⟩,
  ⟨none, .mov 2 (.t 57)⟩])
 (.ret)))))⟩
/-- A loop of spec.l01Big. -/
def r264L0 : RC :=
 .seq (.seq (.reg [⟨none, .mov 28 (.t 4)⟩,
      ⟨none, .bin 29 .lss (.t 28) (.k (.int .i64 8))⟩])
     (.cond (.t 29)
     (.skip)
     (.exit 1)))
    (.seq (.block 2 (.reg [⟨none, .mov 32 (.t 3)⟩,
      ⟨none, .bin 33 .mul (.t 32) (.k (.int .u64 256))⟩,
      ⟨none, .mov 34 (.t 0)⟩,
      ⟨none, .call (some 35) 236 [(.t 34), (.k (.int .i64 256))] false⟩,
      ⟨none, .conv 36 .u64 (.t 35)⟩,
      ⟨none, .bin 37 .add (.t 33) (.t 36)⟩,
      ⟨none, .mov 3 (.t 37)⟩]))
    (.reg [⟨none, .mov 30 (.t 4)⟩,
    ⟨none, .bin 31 .add (.t 30) (.k (.int .i64 1))⟩,
    ⟨none, .mov 4 (.t 31)⟩]))
/-- spec.l01Big -/
def r264 : RF :=
 ⟨1, [.tmp 2],
 .seq (.reg [⟨none, .mov 2 (.k (.int .u64 0))⟩])
 (.seq (.reg [⟨none, .mov 3 (.k (.int .u64 0))⟩])
 (.seq (.seq (.reg [⟨none, .mov 5 (.t 0)⟩,
   ⟨none, .call (some 6) 236 [(.t 5), (.k (.int .i64 8))] false⟩])
  (.block 0 (.seq (.reg [⟨none, .bin 8 .eql (.t 6) (.k (.int .i64 0))⟩,
    ⟨none, .mov 7 (.t 8)⟩])
   (.cond (.t 7)
   (.seq (.reg [⟨none, .mov 2 (.k (.int .u64 0))⟩])
    (.ret))
   (.seq (.reg [⟨none, .bin 10 .eql (.t 6) (.k (.int .i64 1))⟩,
     ⟨none, .mov 9 (.t 10)⟩])
    (.cond (.t 9)
    (.seq (.reg [⟨none, .mov 2 (.k (.int .u64 18446744073709551615))⟩])
     (.ret))
    (.seq (.reg [⟨none, .bin 12 .eql (.t 6) (.k (.int .i64 2))⟩,
      ⟨none, .mov 11 (.t 12)⟩])
     (.cond (.t 11)
     (.seq (.reg [⟨none, .mov 13 (.t 0)⟩,
       ⟨none, .call (some 14) 236 [(.t 13), (.k (.int .i64 300))] false⟩,
       ⟨none, .conv 15 .u64 (.t 14)⟩,
       ⟨none, .mov 2 (.t 15)⟩])
      (.ret))
     (.seq (.reg [⟨none, .bin 17 .eql (.t 6) (.k (.int .i64 3))⟩,
       ⟨none, .mov 16 (.t 17)⟩])
      (.cond (.t 16)
      (.seq (.reg [⟨none, .mov 18 (.t 0)⟩,
        ⟨none, .call (some 19) 236 [(.t 18), (.k (.int .i64 300))] false⟩,
        ⟨none, .conv 20 .u64 (.t 19)⟩,
        ⟨none, .bin 21 .sub (.k (.int .u64 18446744073709551615)) (.t 20)⟩,
        ⟨none, .mov 2 (.t 21)⟩])
       (.ret))
      (.seq (.reg [⟨none, .bin 23 .eql (.t 6) (.k (.int .i64 4))⟩,
        ⟨none, .mov 22 (.t 23)⟩])
       (.cond (.t 22)
       (.seq (.reg [⟨none, .mov 24 (.t 0)⟩,
         ⟨none, .call (some 25) 236 [(.t 24), (.k (.int .i64 64))] false⟩,
         ⟨none, .conv 26 .u64 (.t 25)⟩,
         ⟨none, .bin 27 .shl (.k (.int .u64 1)) (.t 26)⟩,
         ⟨none, .mov 2 (.t 27)⟩])
        (.ret))
       (.skip)))))))))))))
 (.seq (.seq (.reg [⟨none, .mov 4 (.k (.int .i64 0))⟩])
  (.block 1 (.loop [0, 3, 4]
   r264L0)))
 (.seq (.reg [⟨none, .mov 38 (.t 3)⟩,
  ⟨none, .mov 39 (.t 0)⟩,
  ⟨none, .call (some 40) 236 [(.t 39), (.k (.int .i64 64))] false⟩,
  ⟨none, .conv 41 .u64 (.t 40)⟩,
  ⟨none, .bin 42 .shr (.t 38) (.t 41)⟩,
  ⟨none, .mov 2 (.t 42)⟩])
 (.ret)))))⟩
/-- A loop of spec.l01Has. -/
def r377L0 : RC :=
 .seq (.seq (.reg [⟨none, .mov 6 (.t 5)⟩,
      ⟨none, .mov 7 (.t 0)⟩,
      ⟨none, .len 8 (.t 7)⟩,
      ⟨none, .bin 9 .lss (.t 6) (.t 8)⟩])
     (.cond (.t 9)
     (.skip)
     (.exit 0)))
    (.seq (.block 1 (.seq (.reg [⟨none, .mov 12 (.t 0)⟩,
       ⟨none, .mov 13 (.t 5)⟩,
       ⟨none, .idx 14 15 (.t 12) (.t 13)⟩,
       ⟨none, .load 15 14 1 false⟩,
       ⟨none, .mov 16 (.t 1)⟩,
       ⟨none, .bin 17 .eql (.t 15) (.t 16)⟩])
      (.cond (.t 17)
      (.seq (.reg [⟨none, .mov 4 (.k (.bool true))⟩])
       (.ret))
      (.skip))))
    (.reg [⟨none, .mov 10 (.t 5)⟩,
    ⟨none, .bin 11 .add (.t 10) (.k (.int .i64 1))⟩,
    ⟨none, .mov 5 (.t 11)⟩]))
/-- spec.l01Has -/
def r377 : RF :=
 ⟨2, [.tmp 4],
 .seq (.reg [⟨none, .mov 4 (.k (.bool false))⟩])
 (.seq (.seq (.reg [⟨none, .mov 5 (.k (.int .i64 0))⟩])
  (.block 0 (.loop [0, 1, 5]
   r377L0)))
 (.seq (.reg [⟨none, .mov 4 (.k (.bool false))⟩])
 (.ret)))⟩
/-- The functions of this text, with their numbers. -/
def tS01d : List (Nat × RF) := [(5, r5), (194, r194), (236, r236), (238, r238), (239, r239), (240, r240), (263, r263), (264, r264), (377, r377)]
end Go.Proofs.Ytcdlbjomdokmiaa.A
/- The compact code of some functions: spec.l10DrawId, spec.l10DrawAmount, spec.BookOk, spec.TotalOf, spec.l10Copy, spec.OpenAccount, spec.CloseAccount, spec.Deposit, spec.Withdraw, spec.MoveMoney, spec.l10Find, spec.l10Of, spec.l10With. -/
namespace Go.Proofs.Ytcdlbjomdokmiaa.A
open Go
/-- spec.l10DrawId -/
def r235 : RF :=
 ⟨1, [.tmp 2],
 .seq (.reg [⟨none, .mov 2 (.k (.int .u64 0))⟩])
 (.seq (.reg [⟨none, .lit 3 13 8 [.int .u64 0] [(0, (.k (.int .u64 0))), (1, (.k (.int .u64 1))), (2, (.k (.int .u64 2))), (3, (.k (.int .u64 5))), (4, (.k (.int .u64 9))), (5, (.k (.int .u64 100))), (6, (.k (.int .u64 9223372036854775808))), (7, (.k (.int .u64 18446744073709551615)))]⟩,
  ⟨none, .mov 4 (.t 0)⟩,
  ⟨none, .call (some 5) 236 [(.t 4), (.k (.int .i64 8))] false⟩,
  ⟨none, .idx 6 13 (.t 3) (.t 5)⟩,
  ⟨none, .load 7 6 1 false⟩,
  ⟨none, .mov 2 (.t 7)⟩])
 (.ret))⟩
/-- spec.l10DrawAmount -/
def r237 : RF :=
 ⟨1, [.tmp 2],
 .seq (.reg [⟨none, .mov 2 (.k (.int .u64 0))⟩])
 (.seq (.seq (.reg [⟨none, .mov 3 (.t 0)⟩,
   ⟨none, .call (some 4) 240 [(.t 3), (.k (.int .i64 5))] false⟩])
  (.cond (.t 4)
  (.seq (.reg [⟨none, .mov 5 (.t 0)⟩,
    ⟨none, .call (some 6) 264 [(.t 5)] false⟩,
    ⟨none, .mov 2 (.t 6)⟩])
   (.ret))
  (.skip)))
 (.seq (.reg [⟨none, .mov 7 (.t 0)⟩,
  ⟨none, .call (some 8) 236 [(.t 7), (.k (.int .i64 60))] false⟩,
  ⟨none, .conv 9 .u64 (.t 8)⟩,
  ⟨none, .mov 2 (.t 9)⟩])
 (.ret)))⟩
/-- A loop of spec.BookOk. -/
def r241L0 : RC :=
 .seq (.seq (.reg [⟨none, .mov 9 (.t 3)⟩,
      ⟨none, .fad 10 1 0⟩,
      ⟨none, .load 11 10 1 false⟩,
      ⟨none, .len 12 (.t 11)⟩,
      ⟨none, .bin 13 .lss (.t 9) (.t 12)⟩])
     (.cond (.t 13)
     (.skip)
     (.exit 0)))
    (.seq (.block 1 (.seq (.reg [⟨none, .fad 16 1 0⟩,
       ⟨none, .load 17 16 1 false⟩,
       ⟨none, .mov 18 (.t 3)⟩,
       ⟨none, .idx 19 11 (.t 17) (.t 18)⟩,
       ⟨none, .load 20 19 5 true⟩,
       ⟨none, .loc 4 [.int .u64 0, .int .u64 0, .int .u64 0, .int .u64 0, .int .i64 0]⟩,
       ⟨none, .store 4 5 (.t 20)⟩])
      (.seq (.seq (.reg [⟨none, .chk []⟩,
        ⟨none, .mov 21 (.t 3)⟩,
        ⟨none, .bin 22 .gtr (.t 21) (.k (.int .i64 0))⟩,
        ⟨none, .mov 23 (.t 22)⟩,
        ⟨some (23, true), .mov 26 (.t 3)⟩,
        ⟨some (23, true), .bin 27 .sub (.t 26) (.k (.int .i64 1))⟩,
        ⟨some (23, true), .fad 24 1 0⟩,
        ⟨some (23, true), .load 25 24 1 false⟩,
        ⟨some (23, true), .idx 28 11 (.t 25) (.t 27)⟩,
        ⟨some (23, true), .fad 29 28 0⟩,
        ⟨some (23, true), .load 30 29 1 false⟩,
        ⟨some (23, true), .fad 31 4 0⟩,
        ⟨some (23, true), .load 32 31 1 false⟩,
        ⟨some (23, true), .bin 33 .geq (.t 30) (.t 32)⟩,
        ⟨none, .pick 34 (.t 23) (.t 33) (.k (.bool false))⟩,
        ⟨none, .mov 35 (.t 34)⟩,
        ⟨some (35, false), .fad 36 4 4⟩,
        ⟨some (35, false), .load 37 36 1 false⟩,
        ⟨some (35, false), .bin 38 .lss (.t 37) (.k (.int .i64 0))⟩,
        ⟨none, .pick 39 (.t 35) (.k (.bool true)) (.t 38)⟩,
        ⟨none, .mov 40 (.t 39)⟩,
        ⟨some (40, false), .fad 41 4 4⟩,
        ⟨some (40, false), .load 42 41 1 false⟩,
        ⟨some (40, false), .bin 43 .eql (.t 42) (.k (.int .i64 0))⟩,
        ⟨some (40, false), .mov 44 (.t 43)⟩,
        ⟨some (44, true), .fad 45 4 2⟩,
        ⟨some (44, true), .load 46 45 1 false⟩,
        ⟨some (44, true), .bin 47 .neq (.t 46) (.k (.int .u64 0))⟩,
        ⟨some (44, true), .mov 48 (.t 47)⟩,
        ⟨some (48, false), .fad 49 4 3⟩,
        ⟨some (48, false), .load 50 49 1 false⟩,
        ⟨some (48, false), .bin 51 .neq (.t 50) (.k (.int .u64 0))⟩,
        ⟨some (44, true), .pick 52 (.t 48) (.k (.bool true)) (.t 51)⟩,
        ⟨some (40, false), .pick 53 (.t 44) (.t 52) (.k (.bool false))⟩,
        ⟨none, .pick 54 (.t 40) (.k (.bool true)) (.t 53)⟩])
       (.cond (.t 54)
       (.seq (.reg [⟨none, .mov 2 (.k (.bool false))⟩])
        (.ret))
       (.skip)))
      (.seq (.reg [⟨none, .fad 55 4 2⟩,
       ⟨none, .load 56 55 1 false⟩,
       ⟨none, .fad 57 4 1⟩,
       ⟨none, .load 58 57 1 false⟩,
       ⟨none, .bin 59 .sub (.k (.int .u64 18446744073709551615)) (.t 58)⟩,
       ⟨none, .bin 60 .gtr (.t 56) (.t 59)⟩,
       ⟨none, .mov 61 (.t 60)⟩,
       ⟨some (61, false), .fad 62 4 3⟩,
       ⟨some (61, false), .load 63 62 1 false⟩,
       ⟨some (61, false), .fad 64 4 1⟩,
       ⟨some (61, false), .load 65 64 1 false⟩,
       ⟨some (61, false), .bin 66 .sub (.k (.int .u64 18446744073709551615)) (.t 65)⟩,
       ⟨some (61, false), .fad 67 4 2⟩,
       ⟨some (61, false), .load 68 67 1 false⟩,
       ⟨some (61, false), .bin 69 .sub (.t 66) (.t 68)⟩,
       ⟨some (61, false), .bin 70 .gtr (.t 63) (.t 69)⟩,
       ⟨none, .pick 71 (.t 61) (.k (.bool true)) (.t 70)⟩])
      (.cond (.t 71)
      (.seq (.reg [⟨none, .mov 2 (.k (.bool false))⟩])
       (.ret))
      (.skip))))))
    (.reg [⟨none, .mov 14 (.t 3)⟩,
    ⟨none, .bin 15 .add (.t 14) (.k (.int .i64 1))⟩,
    ⟨none, .mov 3 (.t 15)⟩]))
/-- spec.BookOk -/
def r241 : RF :=
 ⟨1, [.tmp 2],
 .seq (.reg [⟨none, .locb 1 (.t 0)⟩,
  ⟨none, .mov 2 (.k (.bool false))⟩])
 (.seq (.seq (.reg [⟨none, .fad 5 1 0⟩,
   ⟨none, .load 6 5 1 false⟩,
   ⟨none, .len 7 (.t 6)⟩,
   ⟨none, .bin 8 .gtr (.t 7) (.k (.int .i64 40))⟩])
  (.cond (.t 8)
  (.seq (.reg [⟨none, .mov 2 (.k (.bool false))⟩])
   (.ret))
  (.skip)))
 (.seq (.seq (.reg [⟨none, .mov 3 (.k (.int .i64 0))⟩])
  (.block 0 (.loop [1, 3]
   r241L0)))
 (.seq (.reg [⟨none, .mov 2 (.k (.bool true))⟩])
 (.ret))))⟩
/-- A loop of spec.TotalOf. -/
def r245L0 : RC :=
 .seq (.seq (.reg [⟨none, .mov 11 (.t 6)⟩,
      ⟨none, .fad 12 1 0⟩,
      ⟨none, .load 13 12 1 false⟩,
      ⟨none, .len 14 (.t 13)⟩,
      ⟨none, .bin 15 .lss (.t 11) (.t 14)⟩])
     (.cond (.t 15)
     (.skip)
     (.exit 0)))
    (.seq (.block 1 (.seq (.reg [⟨none, .chk []⟩,
       ⟨none, .mov 20 (.t 6)⟩,
       ⟨none, .mov 26 (.t 6)⟩,
       ⟨none, .fad 18 1 0⟩,
       ⟨none, .load 19 18 1 false⟩,
       ⟨none, .idx 21 11 (.t 19) (.t 20)⟩,
       ⟨none, .fad 22 21 1⟩,
       ⟨none, .load 23 22 1 false⟩,
       ⟨none, .fad 24 1 0⟩,
       ⟨none, .load 25 24 1 false⟩,
       ⟨none, .idx 27 11 (.t 25) (.t 26)⟩,
       ⟨none, .fad 28 27 2⟩,
       ⟨none, .load 29 28 1 false⟩,
       ⟨none, .bin 30 .add (.t 23) (.t 29)⟩,
       ⟨none, .mov 7 (.t 30)⟩])
      (.seq (.seq (.reg [⟨none, .mov 31 (.t 7)⟩,
        ⟨none, .mov 32 (.t 5)⟩,
        ⟨none, .bin 33 .sub (.k (.int .u64 18446744073709551615)) (.t 32)⟩,
        ⟨none, .bin 34 .gtr (.t 31) (.t 33)⟩])
       (.cond (.t 34)
       (.reg [⟨none, .mov 35 (.t 4)⟩,
        ⟨none, .bin 36 .add (.t 35) (.k (.int .u64 1))⟩,
        ⟨none, .mov 4 (.t 36)⟩])
       (.skip)))
      (.reg [⟨none, .mov 37 (.t 5)⟩,
      ⟨none, .mov 38 (.t 7)⟩,
      ⟨none, .bin 39 .add (.t 37) (.t 38)⟩,
      ⟨none, .mov 5 (.t 39)⟩]))))
    (.reg [⟨none, .mov 16 (.t 6)⟩,
    ⟨none, .bin 17 .add (.t 16) (.k (.int .i64 1))⟩,
    ⟨none, .mov 6 (.t 17)⟩]))
/-- spec.TotalOf -/
def r245 : RF :=
 ⟨1, [.tmp 2, .tmp 3],
 .seq (.reg [⟨none, .locb 1 (.t 0)⟩,
  ⟨none, .mov 2 (.k (.int .u64 0))⟩,
  ⟨none, .mov 3 (.k (.int .u64 0))⟩])
 (.seq (.reg [⟨none, .mov 4 (.k (.int .u64 0))⟩,
  ⟨none, .mov 5 (.k (.int .u64 0))⟩])
 (.seq (.seq (.reg [⟨none, .load 8 1 1 true⟩,
   ⟨none, .call (some 9) 241 [(.t 8)] false⟩,
   ⟨none, .not 10 (.t 9)⟩])
  (.cond (.t 10)
  (.seq (.reg [⟨none, .mov 2 (.k (.int .u64 0))⟩,
    ⟨none, .mov 3 (.k (.int .u64 0))⟩])
   (.ret))
  (.skip)))
 (.seq (.seq (.reg [⟨none, .mov 6 (.k (.int .i64 0))⟩])
  (.block 0 (.loop [1, 4, 5, 6]
   r245L0)))
 (.seq (.reg [⟨none, .mov 40 (.t 4)⟩,
  ⟨none, .mov 41 (.t 5)⟩,
  ⟨none, .mov 2 (.t 40)⟩,
  ⟨none, .mov 3 (.t 41)⟩])
 (.ret)))))⟩
/-- A loop of spec.l10Copy. -/
def r259L0 : RC :=
 .seq (.seq (.reg [⟨none, .mov 6 (.t 4)⟩,
      ⟨none, .fad 7 1 0⟩,
      ⟨none, .load 8 7 1 false⟩,
      ⟨none, .len 9 (.t 8)⟩,
      ⟨none, .bin 10 .lss (.t 6) (.t 9)⟩])
     (.cond (.t 10)
     (.skip)
     (.exit 0)))
    (.seq (.block 1 (.reg [⟨none, .chk []⟩,
      ⟨none, .mov 17 (.t 4)⟩,
      ⟨none, .fad 13 3 0⟩,
      ⟨none, .load 14 13 1 false⟩,
      ⟨none, .fad 15 1 0⟩,
      ⟨none, .load 16 15 1 false⟩,
      ⟨none, .idx 18 11 (.t 16) (.t 17)⟩,
      ⟨none, .load 19 18 5 true⟩,
      ⟨none, .lit 20 11 1 [.int .u64 0, .int .u64 0, .int .u64 0, .int .u64 0, .int .i64 0] [(0, (.t 19))]⟩,
      ⟨none, .app 21 11 40 (.t 14) (.t 20)⟩,
      ⟨none, .fad 22 3 0⟩,
      ⟨none, .store 22 1 (.t 21)⟩]))
    (.reg [⟨none, .mov 11 (.t 4)⟩,
    ⟨none, .bin 12 .add (.t 11) (.k (.int .i64 1))⟩,
    ⟨none, .mov 4 (.t 12)⟩]))
/-- spec.l10Copy -/
def r259 : RF :=
 ⟨1, [.cell 2 1 true],
 .seq (.reg [⟨none, .locb 1 (.t 0)⟩,
  ⟨none, .loc 2 [.nil]⟩])
 (.seq (.reg [⟨none, .build 5 [.nil] []⟩,
  ⟨none, .loc 3 [.nil]⟩,
  ⟨none, .store 3 1 (.t 5)⟩])
 (.seq (.seq (.reg [⟨none, .mov 4 (.k (.int .i64 0))⟩])
  (.block 0 (.loop [1, 2, 3, 4]
   r259L0)))
 (.seq (.reg [⟨none, .load 23 3 1 true⟩,
  ⟨none, .store 2 1 (.t 23)⟩])
 (.ret))))⟩
/-- A loop of spec.OpenAccount. -/
def r323L0 : RC :=
 .seq (.seq (.reg [⟨none, .mov 27 (.t 8)⟩,
      ⟨none, .fad 28 2 0⟩,
      ⟨none, .load 29 28 1 false⟩,
      ⟨none, .len 30 (.t 29)⟩,
      ⟨none, .bin 31 .lss (.t 27) (.t 30)⟩])
     (.cond (.t 31)
     (.skip)
     (.exit 0)))
    (.seq (.block 1 (.seq (.seq (.reg [⟨none, .mov 34 (.t 7)⟩,
        ⟨none, .not 35 (.t 34)⟩,
        ⟨none, .mov 36 (.t 35)⟩,
        ⟨some (36, true), .fad 37 2 0⟩,
        ⟨some (36, true), .load 38 37 1 false⟩,
        ⟨some (36, true), .mov 39 (.t 8)⟩,
        ⟨some (36, true), .idx 40 11 (.t 38) (.t 39)⟩,
        ⟨some (36, true), .fad 41 40 0⟩,
        ⟨some (36, true), .load 42 41 1 false⟩,
        ⟨some (36, true), .mov 43 (.t 1)⟩,
        ⟨some (36, true), .bin 44 .gtr (.t 42) (.t 43)⟩,
        ⟨none, .pick 45 (.t 36) (.t 44) (.k (.bool false))⟩])
       (.cond (.t 45)
       (.seq (.reg [⟨none, .fad 46 6 0⟩,
         ⟨none, .load 47 46 1 false⟩,
         ⟨none, .mov 48 (.t 1)⟩,
         ⟨none, .build 49 [.int .u64 0, .int .u64 0, .int .u64 0, .int .u64 0, .int .i64 0] [(0, 1, (.t 48))]⟩,
         ⟨none, .lit 50 11 1 [.int .u64 0, .int .u64 0, .int .u64 0, .int .u64 0, .int .i64 0] [(0, (.t 49))]⟩,
         ⟨none, .app 51 11 40 (.t 47) (.t 50)⟩,
         ⟨none, .fad 52 6 0⟩,
         ⟨none, .store 52 1 (.t 51)⟩])
        (.reg [⟨none, .mov 7 (.k (.bool true))⟩]))
       (.skip)))
      (.reg [⟨none, .chk []⟩,
      ⟨none, .mov 57 (.t 8)⟩,
      ⟨none, .fad 53 6 0⟩,
      ⟨none, .load 54 53 1 false⟩,
      ⟨none, .fad 55 2 0⟩,
      ⟨none, .load 56 55 1 false⟩,
      ⟨none, .idx 58 11 (.t 56) (.t 57)⟩,
      ⟨none, .load 59 58 5 true⟩,
      ⟨none, .lit 60 11 1 [.int .u64 0, .int .u64 0, .int .u64 0, .int .u64 0, .int .i64 0] [(0, (.t 59))]⟩,
      ⟨none, .app 61 11 40 (.t 54) (.t 60)⟩,
      ⟨none, .fad 62 6 0⟩,
      ⟨none, .store 62 1 (.t 61)⟩])))
    (.reg [⟨none, .mov 32 (.t 8)⟩,
    ⟨none, .bin 33 .add (.t 32) (.k (.int .i64 1))⟩,
    ⟨none, .mov 8 (.t 33)⟩]))
/-- spec.OpenAccount -/
def r323 : RF :=
 ⟨2, [.cell 4 1 true, .tmp 5],
 .seq (.reg [⟨none, .locb 2 (.t 0)⟩,
  ⟨none, .loc 4 [.nil]⟩,
  ⟨none, .mov 5 (.k (.int .i64 0))⟩])
 (.seq (.seq (.reg [⟨none, .load 9 2 1 true⟩,
   ⟨none, .call (some 10) 241 [(.t 9)] false⟩,
   ⟨none, .not 11 (.t 10)⟩])
  (.cond (.t 11)
  (.seq (.reg [⟨none, .load 12 2 1 true⟩,
    ⟨none, .call (some 13) 259 [(.t 12)] false⟩,
    ⟨none, .store 4 1 (.t 13)⟩,
    ⟨none, .mov 5 (.k (.int .i64 1))⟩])
   (.ret))
  (.skip)))
 (.seq (.seq (.reg [⟨none, .load 14 2 1 true⟩,
   ⟨none, .mov 15 (.t 1)⟩,
   ⟨none, .call (some 16) 328 [(.t 14), (.t 15)] false⟩,
   ⟨none, .bin 17 .geq (.t 16) (.k (.int .i64 0))⟩])
  (.cond (.t 17)
  (.seq (.reg [⟨none, .load 18 2 1 true⟩,
    ⟨none, .call (some 19) 259 [(.t 18)] false⟩,
    ⟨none, .store 4 1 (.t 19)⟩,
    ⟨none, .mov 5 (.k (.int .i64 3))⟩])
   (.ret))
  (.skip)))
 (.seq (.seq (.reg [⟨none, .fad 20 2 0⟩,
   ⟨none, .load 21 20 1 false⟩,
   ⟨none, .len 22 (.t 21)⟩,
   ⟨none, .bin 23 .eql (.t 22) (.k (.int .i64 40))⟩])
  (.cond (.t 23)
  (.seq (.reg [⟨none, .load 24 2 1 true⟩,
    ⟨none, .call (some 25) 259 [(.t 24)] false⟩,
    ⟨none, .store 4 1 (.t 25)⟩,
    ⟨none, .mov 5 (.k (.int .i64 1))⟩])
   (.ret))
  (.skip)))
 (.seq (.reg [⟨none, .build 26 [.nil] []⟩,
  ⟨none, .loc 6 [.nil]⟩,
  ⟨none, .store 6 1 (.t 26)⟩])
 (.seq (.reg [⟨none, .mov 7 (.k (.bool false))⟩])
 (.seq (.seq (.reg [⟨none, .mov 8 (.k (.int .i64 0))⟩])
  (.block 0 (.loop [1, 2, 4, 6, 7, 8]
   r323L0)))
 (.seq (.seq (.reg [⟨none, .mov 63 (.t 7)⟩,
   ⟨none, .not 64 (.t 63)⟩])
  (.cond (.t 64)
  (.reg [⟨none, .fad 65 6 0⟩,
   ⟨none, .load 66 65 1 false⟩,
   ⟨none, .mov 67 (.t 1)⟩,
   ⟨none, .build 68 [.int .u64 0, .int .u64 0, .int .u64 0, .int .u64 0, .int .i64 0] [(0, 1, (.t 67))]⟩,
   ⟨none, .lit 69 11 1 [.int .u64 0, .int .u64 0, .int .u64 0, .int .u64 0, .int .i64 0] [(0, (.t 68))]⟩,
   ⟨none, .app 70 11 40 (.t 66) (.t 69)⟩,
   ⟨none, .fad 71 6 0⟩,
   ⟨none, .store 71 1 (.t 70)⟩])
  (.skip)))
 (.seq (.reg [⟨none, .load 72 6 1 true⟩,
  ⟨none, .store 4 1 (.t 72)⟩,
  ⟨none, .mov 5 (.k (.int .i64 0))⟩])
 (.ret)))))))))⟩
/-- A loop of spec.CloseAccount. -/
def r324L0 : RC :=
 .seq (.seq (.reg [⟨none, .mov 35 (.t 9)⟩,
      ⟨none, .fad 36 2 0⟩,
      ⟨none, .load 37 36 1 false⟩,
      ⟨none, .len 38 (.t 37)⟩,
      ⟨none, .bin 39 .lss (.t 35) (.t 38)⟩])
     (.cond (.t 39)
     (.skip)
     (.exit 1)))
    (.seq (.block 2 (.seq (.reg [⟨none, .fad 42 2 0⟩,
       ⟨none, .load 43 42 1 false⟩,
       ⟨none, .mov 44 (.t 9)⟩,
       ⟨none, .idx 45 11 (.t 43) (.t 44)⟩,
       ⟨none, .fad 46 45 0⟩,
       ⟨none, .load 47 46 1 false⟩,
       ⟨none, .mov 48 (.t 1)⟩,
       ⟨none, .bin 49 .neq (.t 47) (.t 48)⟩])
      (.cond (.t 49)
      (.reg [⟨none, .chk []⟩,
       ⟨none, .mov 54 (.t 9)⟩,
       ⟨none, .fad 50 8 0⟩,
       ⟨none, .load 51 50 1 false⟩,
       ⟨none, .fad 52 2 0⟩,
       ⟨none, .load 53 52 1 false⟩,
       ⟨none, .idx 55 11 (.t 53) (.t 54)⟩,
       ⟨none, .load 56 55 5 true⟩,
       ⟨none, .lit 57 11 1 [.int .u64 0, .int .u64 0, .int .u64 0, .int .u64 0, .int .i64 0] [(0, (.t 56))]⟩,
       ⟨none, .app 58 11 40 (.t 51) (.t 57)⟩,
       ⟨none, .fad 59 8 0⟩,
       ⟨none, .store 59 1 (.t 58)⟩])
      (.skip))))
    (.reg [⟨none, .mov 40 (.t 9)⟩,
    ⟨none, .bin 41 .add (.t 40) (.k (.int .i64 1))⟩,
    ⟨none, .mov 9 (.t 41)⟩]))
/-- spec.CloseAccount -/
def r324 : RF :=
 ⟨2, [.cell 4 1 true, .tmp 5],
 .seq (.reg [⟨none, .locb 2 (.t 0)⟩,
  ⟨none, .loc 4 [.nil]⟩,
  ⟨none, .mov 5 (.k (.int .i64 0))⟩])
 (.seq (.reg [⟨none, .load 11 2 1 true⟩,
  ⟨none, .mov 12 (.t 1)⟩,
  ⟨none, .call (some 13) 335 [(.t 11), (.t 12), (.k (.int .i64 1))] false⟩,
  ⟨none, .mov 10 (.t 13)⟩,
  ⟨none, .ext 14 (.t 10) 0⟩,
  ⟨none, .ext 15 (.t 10) 1⟩,
  ⟨none, .loc 6 [.int .u64 0, .int .u64 0, .int .u64 0, .int .u64 0, .int .i64 0]⟩,
  ⟨none, .store 6 5 (.t 14)⟩,
  ⟨none, .mov 7 (.t 15)⟩])
 (.seq (.block 0 (.seq (.reg [⟨none, .mov 17 (.t 7)⟩,
    ⟨none, .bin 18 .neq (.t 17) (.k (.int .i64 0))⟩,
    ⟨none, .mov 16 (.t 18)⟩])
   (.cond (.t 16)
   (.seq (.reg [⟨none, .load 19 2 1 true⟩,
     ⟨none, .call (some 20) 259 [(.t 19)] false⟩,
     ⟨none, .mov 21 (.t 7)⟩,
     ⟨none, .store 4 1 (.t 20)⟩,
     ⟨none, .mov 5 (.t 21)⟩])
    (.ret))
   (.seq (.reg [⟨none, .fad 23 6 4⟩,
     ⟨none, .load 24 23 1 false⟩,
     ⟨none, .bin 25 .neq (.t 24) (.k (.int .i64 0))⟩,
     ⟨none, .mov 22 (.t 25)⟩])
    (.cond (.t 22)
    (.seq (.reg [⟨none, .load 26 2 1 true⟩,
      ⟨none, .call (some 27) 259 [(.t 26)] false⟩,
      ⟨none, .store 4 1 (.t 27)⟩,
      ⟨none, .mov 5 (.k (.int .i64 6))⟩])
     (.ret))
    (.seq (.reg [⟨none, .fad 29 6 1⟩,
      ⟨none, .load 30 29 1 false⟩,
      ⟨none, .bin 31 .neq (.t 30) (.k (.int .u64 0))⟩,
      ⟨none, .mov 28 (.t 31)⟩])
     (.cond (.t 28)
     (.seq (.reg [⟨none, .load 32 2 1 true⟩,
       ⟨none, .call (some 33) 259 [(.t 32)] false⟩,
       ⟨none, .store 4 1 (.t 33)⟩,
       ⟨none, .mov 5 (.k (.int .i64 4))⟩])
      (.ret))
     (.skip))))))))
 (.seq (.reg [⟨none, .build 34 [.nil] []⟩,
  ⟨none, .loc 8 [.nil]⟩,
  ⟨none, .store 8 1 (.t 34)⟩])
 (.seq (.seq (.reg [⟨none, .mov 9 (.k (.int .i64 0))⟩])
  (.block 1 (.loop [1, 2, 4, 8, 9]
   r324L0)))
 (.seq (.reg [⟨none, .load 60 8 1 true⟩,
  ⟨none, .store 4 1 (.t 60)⟩,
  ⟨none, .mov 5 (.k (.int .i64 0))⟩])
 (.ret))))))⟩
/-- spec.Deposit -/
def r325 : RF :=
 ⟨3, [.cell 6 1 true, .tmp 7],
 .seq (.reg [⟨none, .locb 3 (.t 0)⟩,
  ⟨none, .loc 6 [.nil]⟩,
  ⟨none, .mov 7 (.k (.int .i64 0))⟩])
 (.seq (.reg [⟨none, .load 11 3 1 true⟩,
  ⟨none, .mov 12 (.t 1)⟩,
  ⟨none, .call (some 13) 335 [(.t 11), (.t 12), (.k (.int .i64 1))] false⟩,
  ⟨none, .mov 10 (.t 13)⟩,
  ⟨none, .ext 14 (.t 10) 0⟩,
  ⟨none, .ext 15 (.t 10) 1⟩,
  ⟨none, .loc 8 [.int .u64 0, .int .u64 0, .int .u64 0, .int .u64 0, .int .i64 0]⟩,
  ⟨none, .store 8 5 (.t 14)⟩,
  ⟨none, .mov 9 (.t 15)⟩])
 (.seq (.block 0 (.seq (.reg [⟨none, .mov 17 (.t 9)⟩,
    ⟨none, .bin 18 .neq (.t 17) (.k (.int .i64 0))⟩,
    ⟨none, .mov 16 (.t 18)⟩])
   (.cond (.t 16)
   (.seq (.reg [⟨none, .load 19 3 1 true⟩,
     ⟨none, .call (some 20) 259 [(.t 19)] false⟩,
     ⟨none, .mov 21 (.t 9)⟩,
     ⟨none, .store 6 1 (.t 20)⟩,
     ⟨none, .mov 7 (.t 21)⟩])
    (.ret))
   (.seq (.reg [⟨none, .fad 23 8 4⟩,
     ⟨none, .load 24 23 1 false⟩,
     ⟨none, .bin 25 .neq (.t 24) (.k (.int .i64 0))⟩,
     ⟨none, .mov 22 (.t 25)⟩])
    (.cond (.t 22)
    (.seq (.reg [⟨none, .load 26 3 1 true⟩,
      ⟨none, .call (some 27) 259 [(.t 26)] false⟩,
      ⟨none, .store 6 1 (.t 27)⟩,
      ⟨none, .mov 7 (.k (.int .i64 6))⟩])
     (.ret))
    (.seq (.reg [⟨none, .mov 29 (.t 2)⟩,
      ⟨none, .fad 30 8 1⟩,
      ⟨none, .load 31 30 1 false⟩,
      ⟨none, .bin 32 .sub (.k (.int .u64 18446744073709551615)) (.t 31)⟩,
      ⟨none, .bin 33 .gtr (.t 29) (.t 32)⟩,
      ⟨none, .mov 28 (.t 33)⟩])
     (.cond (.t 28)
     (.seq (.reg [⟨none, .load 34 3 1 true⟩,
       ⟨none, .call (some 35) 259 [(.t 34)] false⟩,
       ⟨none, .store 6 1 (.t 35)⟩,
       ⟨none, .mov 7 (.k (.int .i64 5))⟩])
      (.ret))
     (.skip))))))))
 (.seq (.reg [⟨none, .fad 36 8 1⟩,
  ⟨none, .load 37 36 1 false⟩,
  ⟨none, .mov 38 (.t 2)⟩,
  ⟨none, .bin 39 .add (.t 37) (.t 38)⟩,
  ⟨none, .fad 40 8 1⟩,
  ⟨none, .store 40 1 (.t 39)⟩])
 (.seq (.reg [⟨none, .load 41 3 1 true⟩,
  ⟨none, .load 42 8 5 true⟩,
  ⟨none, .call (some 43) 336 [(.t 41), (.t 42)] false⟩,
  ⟨none, .store 6 1 (.t 43)⟩,
  ⟨none, .mov 7 (.k (.int .i64 0))⟩])
 (.ret)))))⟩
/-- spec.Withdraw -/
def r326 : RF :=
 ⟨3, [.cell 6 1 true, .tmp 7],
 .seq (.reg [⟨none, .locb 3 (.t 0)⟩,
  ⟨none, .loc 6 [.nil]⟩,
  ⟨none, .mov 7 (.k (.int .i64 0))⟩])
 (.seq (.reg [⟨none, .load 11 3 1 true⟩,
  ⟨none, .mov 12 (.t 1)⟩,
  ⟨none, .call (some 13) 335 [(.t 11), (.t 12), (.k (.int .i64 1))] false⟩,
  ⟨none, .mov 10 (.t 13)⟩,
  ⟨none, .ext 14 (.t 10) 0⟩,
  ⟨none, .ext 15 (.t 10) 1⟩,
  ⟨none, .loc 8 [.int .u64 0, .int .u64 0, .int .u64 0, .int .u64 0, .int .i64 0]⟩,
  ⟨none, .store 8 5 (.t 14)⟩,
  ⟨none, .mov 9 (.t 15)⟩])
 (.seq (.block 0 (.seq (.reg [⟨none, .mov 17 (.t 9)⟩,
    ⟨none, .bin 18 .neq (.t 17) (.k (.int .i64 0))⟩,
    ⟨none, .mov 16 (.t 18)⟩])
   (.cond (.t 16)
   (.seq (.reg [⟨none, .load 19 3 1 true⟩,
     ⟨none, .call (some 20) 259 [(.t 19)] false⟩,
     ⟨none, .mov 21 (.t 9)⟩,
     ⟨none, .store 6 1 (.t 20)⟩,
     ⟨none, .mov 7 (.t 21)⟩])
    (.ret))
   (.seq (.reg [⟨none, .fad 23 8 4⟩,
     ⟨none, .load 24 23 1 false⟩,
     ⟨none, .bin 25 .neq (.t 24) (.k (.int .i64 0))⟩,
     ⟨none, .mov 22 (.t 25)⟩])
    (.cond (.t 22)
    (.seq (.reg [⟨none, .load 26 3 1 true⟩,
      ⟨none, .call (some 27) 259 [(.t 26)] false⟩,
      ⟨none, .store 6 1 (.t 27)⟩,
      ⟨none, .mov 7 (.k (.int .i64 6))⟩])
     (.ret))
    (.seq (.reg [⟨none, .mov 29 (.t 2)⟩,
      ⟨none, .fad 30 8 1⟩,
      ⟨none, .load 31 30 1 false⟩,
      ⟨none, .bin 32 .gtr (.t 29) (.t 31)⟩,
      ⟨none, .mov 28 (.t 32)⟩])
     (.cond (.t 28)
     (.seq (.reg [⟨none, .load 33 3 1 true⟩,
       ⟨none, .call (some 34) 259 [(.t 33)] false⟩,
       ⟨none, .store 6 1 (.t 34)⟩,
       ⟨none, .mov 7 (.k (.int .i64 4))⟩])
      (.ret))
     (.skip))))))))
 (.seq (.reg [⟨none, .fad 35 8 1⟩,
  ⟨none, .load 36 35 1 false⟩,
  ⟨none, .mov 37 (.t 2)⟩,
  ⟨none, .bin 38 .sub (.t 36) (.t 37)⟩,
  ⟨none, .fad 39 8 1⟩,
  ⟨none, .store 39 1 (.t 38)⟩])
 (.seq (.reg [⟨none, .load 40 3 1 true⟩,
  ⟨none, .load 41 8 5 true⟩,
  ⟨none, .call (some 42) 336 [(.t 40), (.t 41)] false⟩,
  ⟨none, .store 6 1 (.t 42)⟩,
  ⟨none, .mov 7 (.k (.int .i64 0))⟩])
 (.ret)))))⟩
/-- spec.MoveMoney -/
def r327 : RF :=
 ⟨4, [.cell 8 1 true, .tmp 9],
 .seq (.reg [⟨none, .locb 4 (.t 0)⟩,
  ⟨none, .loc 8 [.nil]⟩,
  ⟨none, .mov 9 (.k (.int .i64 0))⟩])
 (.seq (.reg [⟨none, .load 15 4 1 true⟩,
  ⟨none, .mov 16 (.t 1)⟩,
  ⟨none, .call (some 17) 335 [(.t 15), (.t 16), (.k (.int .i64 1))] false⟩,
  ⟨none, .mov 14 (.t 17)⟩,
  ⟨none, .ext 18 (.t 14) 0⟩,
  ⟨none, .ext 19 (.t 14) 1⟩,
  ⟨none, .loc 10 [.int .u64 0, .int .u64 0, .int .u64 0, .int .u64 0, .int .i64 0]⟩,
  ⟨none, .store 10 5 (.t 18)⟩,
  ⟨none, .mov 11 (.t 19)⟩])
 (.seq (.reg [⟨none, .load 21 4 1 true⟩,
  ⟨none, .mov 22 (.t 2)⟩,
  ⟨none, .call (some 23) 335 [(.t 21), (.t 22), (.k (.int .i64 1))] false⟩,
  ⟨none, .mov 20 (.t 23)⟩,
  ⟨none, .ext 24 (.t 20) 0⟩,
  ⟨none, .ext 25 (.t 20) 1⟩,
  ⟨none, .loc 12 [.int .u64 0, .int .u64 0, .int .u64 0, .int .u64 0, .int .i64 0]⟩,
  ⟨none, .store 12 5 (.t 24)⟩,
  ⟨none, .mov 13 (.t 25)⟩])
 (.seq (.block 0 (.seq (.reg [⟨none, .mov 27 (.t 11)⟩,
    ⟨none, .bin 28 .eql (.t 27) (.k (.int .i64 1))⟩,
    ⟨none, .mov 29 (.t 28)⟩,
    ⟨some (29, false), .mov 30 (.t 1)⟩,
    ⟨some (29, false), .mov 31 (.t 2)⟩,
    ⟨some (29, false), .bin 32 .eql (.t 30) (.t 31)⟩,
    ⟨none, .pick 33 (.t 29) (.k (.bool true)) (.t 32)⟩,
    ⟨none, .mov 26 (.t 33)⟩])
   (.cond (.t 26)
   (.seq (.reg [⟨none, .load 34 4 1 true⟩,
     ⟨none, .call (some 35) 259 [(.t 34)] false⟩,
     ⟨none, .store 8 1 (.t 35)⟩,
     ⟨none, .mov 9 (.k (.int .i64 1))⟩])
    (.ret))
   (.seq (.reg [⟨none, .mov 37 (.t 11)⟩,
     ⟨none, .bin 38 .neq (.t 37) (.k (.int .i64 0))⟩,
     ⟨none, .mov 39 (.t 38)⟩,
     ⟨some (39, false), .mov 40 (.t 13)⟩,
     ⟨some (39, false), .bin 41 .neq (.t 40) (.k (.int .i64 0))⟩,
     ⟨none, .pick 42 (.t 39) (.k (.bool true)) (.t 41)⟩,
     ⟨none, .mov 36 (.t 42)⟩])
    (.cond (.t 36)
    (.seq (.reg [⟨none, .load 43 4 1 true⟩,
      ⟨none, .call (some 44) 259 [(.t 43)] false⟩,
      ⟨none, .store 8 1 (.t 44)⟩,
      ⟨none, .mov 9 (.k (.int .i64 2))⟩])
     (.ret))
    (.seq (.reg [⟨none, .fad 46 10 4⟩,
      ⟨none, .load 47 46 1 false⟩,
      ⟨none, .bin 48 .neq (.t 47) (.k (.int .i64 0))⟩,
      ⟨none, .mov 49 (.t 48)⟩,
      ⟨some (49, false), .fad 50 12 4⟩,
      ⟨some (49, false), .load 51 50 1 false⟩,
      ⟨some (49, false), .bin 52 .neq (.t 51) (.k (.int .i64 0))⟩,
      ⟨none, .pick 53 (.t 49) (.k (.bool true)) (.t 52)⟩,
      ⟨none, .mov 45 (.t 53)⟩])
     (.cond (.t 45)
     (.seq (.reg [⟨none, .load 54 4 1 true⟩,
       ⟨none, .call (some 55) 259 [(.t 54)] false⟩,
       ⟨none, .store 8 1 (.t 55)⟩,
       ⟨none, .mov 9 (.k (.int .i64 6))⟩])
      (.ret))
     (.seq (.reg [⟨none, .mov 57 (.t 3)⟩,
       ⟨none, .fad 58 10 1⟩,
       ⟨none, .load 59 58 1 false⟩,
       ⟨none, .bin 60 .gtr (.t 57) (.t 59)⟩,
       ⟨none, .mov 56 (.t 60)⟩])
      (.cond (.t 56)
      (.seq (.reg [⟨none, .load 61 4 1 true⟩,
        ⟨none, .call (some 62) 259 [(.t 61)] false⟩,
        ⟨none, .store 8 1 (.t 62)⟩,
        ⟨none, .mov 9 (.k (.int .i64 4))⟩])
       (.ret))
      (.seq (.reg [⟨none, .mov 64 (.t 3)⟩,
        ⟨none, .fad 65 12 1⟩,
        ⟨none, .load 66 65 1 false⟩,
        ⟨none, .bin 67 .sub (.k (.int .u64 18446744073709551615)) (.t 66)⟩,
        ⟨none, .bin 68 .gtr (.t 64) (.t 67)⟩,
        ⟨none, .mov 63 (.t 68)⟩])
       (.cond (.t 63)
       (.seq (.reg [⟨none, .load 69 4 1 true⟩,
         ⟨none, .call (some 70) 259 [(.t 69)] false⟩,
         ⟨none, .store 8 1 (.t 70)⟩,
         ⟨none, .mov 9 (.k (.int .i64 5))⟩])
        (.ret))
       (.skip))))))))))))
 (.seq (.reg [⟨none, .fad 71 10 1⟩,
  ⟨none, .load 72 71 1 false⟩,
  ⟨none, .mov 73 (.t 3)⟩,
  ⟨none, .bin 74 .sub (.t 72) (.t 73)⟩,
  ⟨none, .fad 75 10 1⟩,
  ⟨none, .store 75 1 (.t 74)⟩])
 (.seq (.reg [⟨none, .fad 76 12 1⟩,
  ⟨none, .load 77 76 1 false⟩,
  ⟨none, .mov 78 (.t 3)⟩,
  ⟨none, .bin 79 .add (.t 77) (.t 78)⟩,
  ⟨none, .fad 80 12 1⟩,
  ⟨none, .store 80 1 (.t 79)⟩])
 (.seq (.reg [⟨none, .chk []⟩,
  ⟨none, .load 81 4 1 true⟩,
  ⟨none, .load 82 10 5 true⟩,
  ⟨none, .load 84 12 5 true⟩,
  ⟨none, .call (some 83) 336 [(.t 81), (.t 82)] true⟩,
  ⟨none, .call (some 85) 336 [(.t 83), (.t 84)] true⟩,
  ⟨none, .store 8 1 (.t 85)⟩,
  ⟨none, .mov 9 (.k (.int .i64 0))⟩])
 (.ret)))))))⟩
/-- A loop of spec.l10Find. -/
def r328L0 : RC :=
 .seq (.seq (.reg [⟨none, .mov 6 (.t 5)⟩,
      ⟨none, .fad 7 2 0⟩,
      ⟨none, .load 8 7 1 false⟩,
      ⟨none, .len 9 (.t 8)⟩,
      ⟨none, .bin 10 .lss (.t 6) (.t 9)⟩])
     (.cond (.t 10)
     (.skip)
     (.exit 0)))
    (.seq (.block 1 (.seq (.reg [⟨none, .fad 13 2 0⟩,
       ⟨none, .load 14 13 1 false⟩,
       ⟨none, .mov 15 (.t 5)⟩,
       ⟨none, .idx 16 11 (.t 14) (.t 15)⟩,
       ⟨none, .fad 17 16 0⟩,
       ⟨none, .load 18 17 1 false⟩,
       ⟨none, .mov 19 (.t 1)⟩,
       ⟨none, .bin 20 .eql (.t 18) (.t 19)⟩])
      (.cond (.t 20)
      (.seq (.reg [⟨none, .mov 21 (.t 5)⟩,
        ⟨none, .mov 4 (.t 21)⟩])
       (.ret))
      (.skip))))
    (.reg [⟨none, .mov 11 (.t 5)⟩,
    ⟨none, .bin 12 .add (.t 11) (.k (.int .i64 1))⟩,
    ⟨none, .mov 5 (.t 12)⟩]))
/-- spec.l10Find -/
def r328 : RF :=
 ⟨2, [.tmp 4],
 .seq (.reg [⟨none, .locb 2 (.t 0)⟩,
  ⟨none, .mov 4 (.k (.int .i64 0))⟩])
 (.seq (.seq (.reg [⟨none, .mov 5 (.k (.int .i64 0))⟩])
  (.block 0 (.loop [1, 2, 5]
   r328L0)))
 (.seq (.reg [⟨none, .mov 4 (.k (.int .i64 (-1)))⟩])
 (.ret)))⟩
/-- spec.l10Of -/
def r335 : RF :=
 ⟨3, [.cell 6 5 true, .tmp 7],
 .seq (.reg [⟨none, .locb 3 (.t 0)⟩,
  ⟨none, .loc 6 [.int .u64 0, .int .u64 0, .int .u64 0, .int .u64 0, .int .i64 0]⟩,
  ⟨none, .mov 7 (.k (.int .i64 0))⟩])
 (.seq (.seq (.reg [⟨none, .load 9 3 1 true⟩,
   ⟨none, .call (some 10) 241 [(.t 9)] false⟩,
   ⟨none, .not 11 (.t 10)⟩,
   ⟨none, .mov 12 (.t 11)⟩,
   ⟨some (12, false), .mov 13 (.t 2)⟩,
   ⟨some (12, false), .bin 14 .lss (.t 13) (.k (.int .i64 1))⟩,
   ⟨none, .pick 15 (.t 12) (.k (.bool true)) (.t 14)⟩])
  (.cond (.t 15)
  (.seq (.reg [⟨none, .build 16 [.int .u64 0, .int .u64 0, .int .u64 0, .int .u64 0, .int .i64 0] []⟩,
    ⟨none, .store 6 5 (.t 16)⟩,
    ⟨none, .mov 7 (.k (.int .i64 1))⟩])
   (.ret))
  (.skip)))
 (.seq (.reg [⟨none, .load 17 3 1 true⟩,
  ⟨none, .mov 18 (.t 1)⟩,
  ⟨none, .call (some 19) 328 [(.t 17), (.t 18)] false⟩,
  ⟨none, .mov 8 (.t 19)⟩])
 (.seq (.seq (.reg [⟨none, .mov 20 (.t 8)⟩,
   ⟨none, .bin 21 .lss (.t 20) (.k (.int .i64 0))⟩])
  (.cond (.t 21)
  (.seq (.reg [⟨none, .build 22 [.int .u64 0, .int .u64 0, .int .u64 0, .int .u64 0, .int .i64 0] []⟩,
    ⟨none, .store 6 5 (.t 22)⟩,
    ⟨none, .mov 7 (.k (.int .i64 2))⟩])
   (.ret))
  (.skip)))
 (.seq (.reg [⟨none, .fad 23 3 0⟩,
  ⟨none, .load 24 23 1 false⟩,
  ⟨none, .mov 25 (.t 8)⟩,
  ⟨none, .idx 26 11 (.t 24) (.t 25)⟩,
  ⟨none, .load 27 26 5 true⟩,
  ⟨none, .store 6 5 (.t 27)⟩,
  ⟨none, .mov 7 (.k (.int .i64 0))⟩])
 (.ret)))))⟩
/-- A loop of spec.l10With. -/
def r336L0 : RC :=
 .seq (.seq (.reg [⟨none, .mov 9 (.t 6)⟩,
      ⟨none, .fad 10 5 0⟩,
      ⟨none, .load 11 10 1 false⟩,
      ⟨none, .len 12 (.t 11)⟩,
      ⟨none, .bin 13 .lss (.t 9) (.t 12)⟩])
     (.cond (.t 13)
     (.skip)
     (.exit 0)))
    (.seq (.block 1 (.seq (.reg [⟨none, .chk []⟩,
       ⟨none, .mov 18 (.t 6)⟩,
       ⟨none, .fad 16 5 0⟩,
       ⟨none, .load 17 16 1 false⟩,
       ⟨none, .idx 19 11 (.t 17) (.t 18)⟩,
       ⟨none, .fad 20 19 0⟩,
       ⟨none, .load 21 20 1 false⟩,
       ⟨none, .fad 22 3 0⟩,
       ⟨none, .load 23 22 1 false⟩,
       ⟨none, .bin 24 .eql (.t 21) (.t 23)⟩])
      (.cond (.t 24)
      (.reg [⟨none, .fad 25 5 0⟩,
       ⟨none, .load 26 25 1 false⟩,
       ⟨none, .mov 27 (.t 6)⟩,
       ⟨none, .load 28 3 5 true⟩,
       ⟨none, .idx 29 11 (.t 26) (.t 27)⟩,
       ⟨none, .store 29 5 (.t 28)⟩])
      (.skip))))
    (.reg [⟨none, .mov 14 (.t 6)⟩,
    ⟨none, .bin 15 .add (.t 14) (.k (.int .i64 1))⟩,
    ⟨none, .mov 6 (.t 15)⟩]))
/-- spec.l10With -/
def r336 : RF :=
 ⟨2, [.cell 4 1 true],
 .seq (.reg [⟨none, .locb 2 (.t 0)⟩,
  ⟨none, .locb 3 (.t 1)⟩,
  ⟨none, .loc 4 [.nil]⟩])
 (.seq (.reg [⟨none, .load 7 2 1 true⟩,
  ⟨none, .call (some 8) 259 [(.t 7)] false⟩,
  ⟨none, .loc 5 [.nil]⟩,
  ⟨none, .store 5 1 (.t 8)⟩])
 (.seq (.seq (.reg [⟨none, .mov 6 (.k (.int .i64 0))⟩])
  (.block 0 (.loop [3, 4, 5, 6]
   r336L0)))
 (.seq (.reg [⟨none, .load 30 5 1 true⟩,
  ⟨none, .store 4 1 (.t 30)⟩])
 (.ret))))⟩
/-- The functions of this text, with their numbers. -/
def tS10 : List (Nat × RF) := [(235, r235), (237, r237), (241, r241), (245, r245), (259, r259), (323, r323), (324, r324), (325, r325), (326, r326), (327, r327), (328, r328), (335, r335), (336, r336)]
end Go.Proofs.Ytcdlbjomdokmiaa.A
/- The compact code of some functions: spec.Ahead, spec.PastOk, spec.PastAt, spec.DoLedger, spec.InOrder, spec.l17All, spec.l17Fits. -/
namespace Go.Proofs.Ytcdlbjomdokmiaa.A
open Go
/-- spec.Ahead -/
def r10 : RF :=
 ⟨2, [.tmp 4],
 .seq (.reg [⟨none, .locb 2 (.t 0)⟩,
  ⟨none, .locb 3 (.t 1)⟩,
  ⟨none, .mov 4 (.k (.bool false))⟩])
 (.seq (.reg [⟨none, .fad 5 2 5⟩,
  ⟨none, .load 6 5 1 false⟩,
  ⟨none, .bin 7 .neq (.t 6) (.k (.int .i64 (-1)))⟩,
  ⟨none, .mov 8 (.t 7)⟩,
  ⟨some (8, true), .fad 9 2 5⟩,
  ⟨some (8, true), .load 10 9 1 false⟩,
  ⟨some (8, true), .fad 11 3 4⟩,
  ⟨some (8, true), .load 12 11 1 false⟩,
  ⟨some (8, true), .bin 13 .lss (.t 10) (.t 12)⟩,
  ⟨none, .pick 14 (.t 8) (.t 13) (.k (.bool false))⟩,
  ⟨none, .mov 4 (.t 14)⟩])
 (.ret))⟩
/-- A loop of spec.PastOk. -/
def r42L0 : RC :=
 .seq (.seq (.reg [⟨none, .mov 5 (.t 3)⟩,
      ⟨none, .mov 6 (.t 0)⟩,
      ⟨none, .len 7 (.t 6)⟩,
      ⟨none, .bin 8 .lss (.t 5) (.t 7)⟩])
     (.cond (.t 8)
     (.skip)
     (.exit 0)))
    (.seq (.block 1 (.seq (.reg [⟨none, .mov 11 (.t 0)⟩,
       ⟨none, .mov 12 (.t 3)⟩,
       ⟨none, .idx 13 1 (.t 11) (.t 12)⟩,
       ⟨none, .load 14 13 8 true⟩,
       ⟨none, .loc 4 [.int .i64 0, .int .u64 0, .int .u64 0, .int .u64 0, .int .i64 0, .int .i64 0, .int .i64 0, .int .u64 0]⟩,
       ⟨none, .store 4 8 (.t 14)⟩])
      (.seq (.seq (.reg [⟨none, .fad 15 4 0⟩,
        ⟨none, .fad 16 15 0⟩,
        ⟨none, .load 17 16 1 false⟩,
        ⟨none, .call (some 18) 5 [(.t 17), (.k (.int .i64 0)), (.k (.int .i64 5))] false⟩,
        ⟨none, .not 19 (.t 18)⟩,
        ⟨none, .mov 20 (.t 19)⟩,
        ⟨some (20, false), .fad 21 4 4⟩,
        ⟨some (20, false), .load 22 21 1 false⟩,
        ⟨some (20, false), .call (some 23) 5 [(.t 22), (.k (.int .i64 0)), (.k (.int .i64 1000000))] false⟩,
        ⟨some (20, false), .not 24 (.t 23)⟩,
        ⟨none, .pick 25 (.t 20) (.k (.bool true)) (.t 24)⟩])
       (.cond (.t 25)
       (.seq (.reg [⟨none, .mov 2 (.k (.bool false))⟩])
        (.ret))
       (.skip)))
      (.seq (.reg [⟨none, .fad 26 4 5⟩,
       ⟨none, .load 27 26 1 false⟩,
       ⟨none, .bin 28 .eql (.t 27) (.k (.int .i64 (-1)))⟩])
      (.cond (.t 28)
      (.seq (.reg [⟨none, .fad 29 4 6⟩,
        ⟨none, .load 30 29 1 false⟩,
        ⟨none, .bin 31 .neq (.t 30) (.k (.int .i64 0))⟩,
        ⟨none, .mov 32 (.t 31)⟩,
        ⟨some (32, false), .fad 33 4 7⟩,
        ⟨some (32, false), .load 34 33 1 false⟩,
        ⟨some (32, false), .bin 35 .neq (.t 34) (.k (.int .u64 0))⟩,
        ⟨none, .pick 36 (.t 32) (.k (.bool true)) (.t 35)⟩])
       (.cond (.t 36)
       (.seq (.reg [⟨none, .mov 2 (.k (.bool false))⟩])
        (.ret))
       (.skip)))
      (.seq (.reg [⟨none, .fad 37 4 5⟩,
        ⟨none, .load 38 37 1 false⟩,
        ⟨none, .fad 39 4 4⟩,
        ⟨none, .load 40 39 1 false⟩,
        ⟨none, .bin 41 .add (.t 40) (.k (.int .i64 1))⟩,
        ⟨none, .call (some 42) 5 [(.t 38), (.t 41), (.k (.int .i64 1000000))] false⟩,
        ⟨none, .not 43 (.t 42)⟩])
       (.cond (.t 43)
       (.seq (.reg [⟨none, .mov 2 (.k (.bool false))⟩])
        (.ret))
       (.skip))))))))
    (.reg [⟨none, .mov 9 (.t 3)⟩,
    ⟨none, .bin 10 .add (.t 9) (.k (.int .i64 1))⟩,
    ⟨none, .mov 3 (.t 10)⟩]))
/-- spec.PastOk -/
def r42 : RF :=
 ⟨1, [.tmp 2],
 .seq (.reg [⟨none, .mov 2 (.k (.bool false))⟩])
 (.seq (.seq (.reg [⟨none, .mov 3 (.k (.int .i64 0))⟩])
  (.block 0 (.loop [0, 3]
   r42L0)))
 (.seq (.reg [⟨none, .mov 44 (.t 0)⟩,
  ⟨none, .len 45 (.t 44)⟩,
  ⟨none, .bin 46 .leq (.t 45) (.k (.int .i64 7))⟩,
  ⟨none, .mov 2 (.t 46)⟩])
 (.ret)))⟩
/-- A loop of spec.PastAt. -/
def r52L0 : RC :=
 .seq (.seq (.reg [⟨none, .mov 12 (.t 6)⟩,
      ⟨none, .mov 13 (.t 0)⟩,
      ⟨none, .len 14 (.t 13)⟩,
      ⟨none, .bin 15 .lss (.t 12) (.t 14)⟩])
     (.cond (.t 15)
     (.skip)
     (.exit 0)))
    (.seq (.block 1 (.seq (.reg [⟨none, .mov 18 (.t 0)⟩,
       ⟨none, .mov 19 (.t 6)⟩,
       ⟨none, .idx 20 1 (.t 18) (.t 19)⟩,
       ⟨none, .load 21 20 8 true⟩,
       ⟨none, .loc 7 [.int .i64 0, .int .u64 0, .int .u64 0, .int .u64 0, .int .i64 0, .int .i64 0, .int .i64 0, .int .u64 0]⟩,
       ⟨none, .store 7 8 (.t 21)⟩])
      (.seq (.seq (.reg [⟨none, .fad 22 7 4⟩,
        ⟨none, .load 23 22 1 false⟩,
        ⟨none, .mov 24 (.t 1)⟩,
        ⟨none, .bin 25 .gtr (.t 23) (.t 24)⟩])
       (.cond (.t 25)
       (.exit 1)
       (.skip)))
      (.seq (.seq (.reg [⟨none, .fad 26 7 5⟩,
        ⟨none, .load 27 26 1 false⟩,
        ⟨none, .mov 28 (.t 1)⟩,
        ⟨none, .bin 29 .gtr (.t 27) (.t 28)⟩])
       (.cond (.t 29)
       (.reg [⟨none, .fad 30 7 0⟩,
        ⟨none, .load 31 30 4 true⟩,
        ⟨none, .fad 32 7 4⟩,
        ⟨none, .load 33 32 1 false⟩,
        ⟨none, .build 34 [.int .i64 0, .int .u64 0, .int .u64 0, .int .u64 0, .int .i64 0, .int .i64 0, .int .i64 0, .int .u64 0] [(0, 4, (.t 31)), (4, 1, (.t 33)), (5, 1, (.k (.int .i64 (-1))))]⟩,
        ⟨none, .store 7 8 (.t 34)⟩])
       (.skip)))
      (.reg [⟨none, .mov 35 (.t 5)⟩,
      ⟨none, .load 36 7 8 true⟩,
      ⟨none, .lit 37 1 1 [.int .i64 0, .int .u64 0, .int .u64 0, .int .u64 0, .int .i64 0, .int .i64 0, .int .i64 0, .int .u64 0] [(0, (.t 36))]⟩,
      ⟨none, .app 38 1 64 (.t 35) (.t 37)⟩,
      ⟨none, .mov 5 (.t 38)⟩])))))
    (.reg [⟨none, .mov 16 (.t 6)⟩,
    ⟨none, .bin 17 .add (.t 16) (.k (.int .i64 1))⟩,
    ⟨none, .mov 6 (.t 17)⟩]))
/-- spec.PastAt -/
def r52 : RF :=
 ⟨2, [.tmp 4],
 .seq (.reg [⟨none, .mov 4 (.k (.nil))⟩])
 (.seq (.reg [⟨none, .lit 8 1 0 [.int .i64 0, .int .u64 0, .int .u64 0, .int .u64 0, .int .i64 0, .int .i64 0, .int .i64 0, .int .u64 0] []⟩,
  ⟨none, .mov 5 (.t 8)⟩])
 (.seq (.seq (.reg [⟨none, .mov 9 (.t 0)⟩,
   ⟨none, .call (some 10) 42 [(.t 9)] false⟩,
   ⟨none, .not 11 (.t 10)⟩])
  (.cond (.t 11)
  (.seq (.reg [⟨none, .mov 4 (.k (.nil))⟩])
   (.ret))
  (.skip)))
 (.seq (.seq (.reg [⟨none, .mov 6 (.k (.int .i64 0))⟩])
  (.block 0 (.loop [0, 1, 5, 6]
   r52L0)))
 (.seq (.reg [⟨none, .mov 39 (.t 5)⟩,
  ⟨none, .mov 4 (.t 39)⟩])
 (.ret)))))⟩
/-- spec.DoLedger -/
def r294 : RF :=
 ⟨2, [.cell 4 1 true, .tmp 5, .tmp 6],
 .seq (.reg [⟨none, .locb 2 (.t 0)⟩,
  ⟨none, .locb 3 (.t 1)⟩,
  ⟨none, .loc 4 [.nil]⟩,
  ⟨none, .mov 5 (.k (.int .i64 0))⟩,
  ⟨none, .mov 6 (.k (.int .u64 0))⟩])
 (.seq (.reg [⟨none, .mov 7 (.k (.int .i64 1))⟩])
 (.seq (.reg [⟨none, .load 10 2 1 true⟩,
  ⟨none, .call (some 11) 259 [(.t 10)] false⟩,
  ⟨none, .loc 8 [.nil]⟩,
  ⟨none, .store 8 1 (.t 11)⟩])
 (.seq (.seq (.reg [⟨none, .load 12 2 1 true⟩,
   ⟨none, .call (some 13) 241 [(.t 12)] false⟩,
   ⟨none, .not 14 (.t 13)⟩])
  (.cond (.t 14)
  (.seq (.reg [⟨none, .load 15 8 1 true⟩,
    ⟨none, .mov 16 (.t 7)⟩,
    ⟨none, .store 4 1 (.t 15)⟩,
    ⟨none, .mov 5 (.t 16)⟩,
    ⟨none, .mov 6 (.k (.int .u64 0))⟩])
   (.ret))
  (.skip)))
 (.seq (.seq (.reg [⟨none, .fad 17 3 0⟩,
   ⟨none, .load 18 17 1 false⟩])
  (.block 0 (.seq (.reg [⟨none, .bin 20 .eql (.t 18) (.k (.int .i64 0))⟩,
    ⟨none, .mov 19 (.t 20)⟩])
   (.cond (.t 19)
   (.reg [⟨none, .load 22 2 1 true⟩,
    ⟨none, .fad 23 3 1⟩,
    ⟨none, .load 24 23 1 false⟩,
    ⟨none, .call (some 25) 323 [(.t 22), (.t 24)] false⟩,
    ⟨none, .mov 21 (.t 25)⟩,
    ⟨none, .ext 26 (.t 21) 0⟩,
    ⟨none, .ext 27 (.t 21) 1⟩,
    ⟨none, .store 8 1 (.t 26)⟩,
    ⟨none, .mov 7 (.t 27)⟩])
   (.seq (.reg [⟨none, .bin 29 .eql (.t 18) (.k (.int .i64 1))⟩,
     ⟨none, .mov 28 (.t 29)⟩])
    (.cond (.t 28)
    (.reg [⟨none, .load 31 2 1 true⟩,
     ⟨none, .fad 32 3 1⟩,
     ⟨none, .load 33 32 1 false⟩,
     ⟨none, .call (some 34) 324 [(.t 31), (.t 33)] false⟩,
     ⟨none, .mov 30 (.t 34)⟩,
     ⟨none, .ext 35 (.t 30) 0⟩,
     ⟨none, .ext 36 (.t 30) 1⟩,
     ⟨none, .store 8 1 (.t 35)⟩,
     ⟨none, .mov 7 (.t 36)⟩])
    (.seq (.reg [⟨none, .bin 38 .eql (.t 18) (.k (.int .i64 2))⟩,
      ⟨none, .mov 37 (.t 38)⟩])
     (.cond (.t 37)
     (.reg [⟨none, .load 40 2 1 true⟩,
      ⟨none, .fad 41 3 1⟩,
      ⟨none, .load 42 41 1 false⟩,
      ⟨none, .fad 43 3 3⟩,
      ⟨none, .load 44 43 1 false⟩,
      ⟨none, .call (some 45) 325 [(.t 40), (.t 42), (.t 44)] false⟩,
      ⟨none, .mov 39 (.t 45)⟩,
      ⟨none, .ext 46 (.t 39) 0⟩,
      ⟨none, .ext 47 (.t 39) 1⟩,
      ⟨none, .store 8 1 (.t 46)⟩,
      ⟨none, .mov 7 (.t 47)⟩])
     (.seq (.reg [⟨none, .bin 49 .eql (.t 18) (.k (.int .i64 3))⟩,
       ⟨none, .mov 48 (.t 49)⟩])
      (.cond (.t 48)
      (.reg [⟨none, .load 51 2 1 true⟩,
       ⟨none, .fad 52 3 1⟩,
       ⟨none, .load 53 52 1 false⟩,
       ⟨none, .fad 54 3 3⟩,
       ⟨none, .load 55 54 1 false⟩,
       ⟨none, .call (some 56) 326 [(.t 51), (.t 53), (.t 55)] false⟩,
       ⟨none, .mov 50 (.t 56)⟩,
       ⟨none, .ext 57 (.t 50) 0⟩,
       ⟨none, .ext 58 (.t 50) 1⟩,
       ⟨none, .store 8 1 (.t 57)⟩,
       ⟨none, .mov 7 (.t 58)⟩])
      (.seq (.reg [⟨none, .bin 60 .eql (.t 18) (.k (.int .i64 4))⟩,
        ⟨none, .mov 59 (.t 60)⟩])
       (.cond (.t 59)
       (.reg [⟨none, .load 62 2 1 true⟩,
        ⟨none, .fad 63 3 1⟩,
        ⟨none, .load 64 63 1 false⟩,
        ⟨none, .fad 65 3 2⟩,
        ⟨none, .load 66 65 1 false⟩,
        ⟨none, .fad 67 3 3⟩,
        ⟨none, .load 68 67 1 false⟩,
        ⟨none, .call (some 69) 327 [(.t 62), (.t 64), (.t 66), (.t 68)] false⟩,
        ⟨none, .mov 61 (.t 69)⟩,
        ⟨none, .ext 70 (.t 61) 0⟩,
        ⟨none, .ext 71 (.t 61) 1⟩,
        ⟨none, .store 8 1 (.t 70)⟩,
        ⟨none, .mov 7 (.t 71)⟩])
       (.seq (.reg [⟨none, .bin 73 .eql (.t 18) (.k (.int .i64 5))⟩,
         ⟨none, .mov 72 (.t 73)⟩])
        (.cond (.t 72)
        (.seq (.reg [⟨none, .mov 7 (.k (.int .i64 0))⟩])
         (.seq (.reg [⟨none, .load 74 2 1 true⟩,
          ⟨none, .fad 75 3 1⟩,
          ⟨none, .load 76 75 1 false⟩,
          ⟨none, .call (some 77) 328 [(.t 74), (.t 76)] false⟩,
          ⟨none, .bin 78 .lss (.t 77) (.k (.int .i64 0))⟩])
         (.cond (.t 78)
         (.reg [⟨none, .mov 7 (.k (.int .i64 2))⟩])
         (.skip))))
        (.skip)))))))))))))))
 (.seq (.reg [⟨none, .load 79 8 1 true⟩,
  ⟨none, .fad 80 3 1⟩,
  ⟨none, .load 81 80 1 false⟩,
  ⟨none, .call (some 82) 328 [(.t 79), (.t 81)] false⟩,
  ⟨none, .mov 9 (.t 82)⟩])
 (.seq (.seq (.reg [⟨none, .mov 83 (.t 7)⟩,
   ⟨none, .bin 84 .neq (.t 83) (.k (.int .i64 0))⟩,
   ⟨none, .mov 85 (.t 84)⟩,
   ⟨some (85, false), .mov 86 (.t 9)⟩,
   ⟨some (85, false), .bin 87 .lss (.t 86) (.k (.int .i64 0))⟩,
   ⟨none, .pick 88 (.t 85) (.k (.bool true)) (.t 87)⟩])
  (.cond (.t 88)
  (.seq (.reg [⟨none, .load 89 8 1 true⟩,
    ⟨none, .mov 90 (.t 7)⟩,
    ⟨none, .store 4 1 (.t 89)⟩,
    ⟨none, .mov 5 (.t 90)⟩,
    ⟨none, .mov 6 (.k (.int .u64 0))⟩])
   (.ret))
  (.skip)))
 (.seq (.reg [⟨none, .chk []⟩,
  ⟨none, .own [4]⟩,
  ⟨none, .mov 92 (.t 7)⟩,
  ⟨none, .mov 95 (.t 9)⟩,
  ⟨none, .load 91 8 1 true⟩,
  ⟨none, .fad 93 8 0⟩,
  ⟨none, .load 94 93 1 false⟩,
  ⟨none, .idx 96 11 (.t 94) (.t 95)⟩,
  ⟨none, .fad 97 96 1⟩,
  ⟨none, .load 98 97 1 false⟩,
  ⟨none, .lst 4 1 (.t 91)⟩,
  ⟨none, .mov 5 (.t 92)⟩,
  ⟨none, .mov 6 (.t 98)⟩])
 (.ret))))))))⟩
/-- A loop of spec.InOrder. -/
def r361L0 : RC :=
 .seq (.seq (.reg [⟨none, .mov 26 (.t 6)⟩,
      ⟨none, .mov 27 (.t 1)⟩,
      ⟨none, .len 28 (.t 27)⟩,
      ⟨none, .bin 29 .lss (.t 26) (.t 28)⟩])
     (.cond (.t 29)
     (.skip)
     (.exit 0)))
    (.seq (.block 1 (.seq (.seq (.reg [⟨none, .mov 32 (.t 1)⟩,
        ⟨none, .mov 33 (.t 6)⟩,
        ⟨none, .idx 34 15 (.t 32) (.t 33)⟩,
        ⟨none, .load 35 34 1 false⟩,
        ⟨none, .mov 36 (.t 0)⟩,
        ⟨none, .len 37 (.t 36)⟩,
        ⟨none, .bin 38 .sub (.t 37) (.k (.int .i64 1))⟩,
        ⟨none, .call (some 39) 5 [(.t 35), (.k (.int .i64 0)), (.t 38)] false⟩,
        ⟨none, .not 40 (.t 39)⟩])
       (.cond (.t 40)
       (.seq (.reg [⟨none, .mov 4 (.k (.bool false))⟩])
        (.ret))
       (.skip)))
      (.seq (.reg [⟨none, .chk [7]⟩,
       ⟨none, .loc 7 [.nil]⟩,
       ⟨none, .mov 42 (.t 0)⟩,
       ⟨none, .mov 43 (.t 1)⟩,
       ⟨none, .mov 44 (.t 6)⟩,
       ⟨none, .cut 45 15 (.t 43) none (some (.t 44))⟩,
       ⟨none, .mov 47 (.t 1)⟩,
       ⟨none, .mov 48 (.t 6)⟩,
       ⟨none, .idx 49 15 (.t 47) (.t 48)⟩,
       ⟨none, .load 46 5 1 true⟩,
       ⟨none, .load 50 49 1 false⟩,
       ⟨none, .call (some 51) 371 [(.t 42), (.t 45), (.t 46), (.t 50)] true⟩,
       ⟨none, .mov 41 (.t 51)⟩,
       ⟨none, .ext 52 (.t 41) 0⟩,
       ⟨none, .ext 53 (.t 41) 1⟩,
       ⟨none, .store 7 1 (.t 52)⟩,
       ⟨none, .mov 8 (.t 53)⟩])
      (.seq (.seq (.reg [⟨none, .mov 54 (.t 8)⟩,
        ⟨none, .not 55 (.t 54)⟩])
       (.cond (.t 55)
       (.seq (.reg [⟨none, .mov 4 (.k (.bool false))⟩])
        (.ret))
       (.skip)))
      (.reg [⟨none, .load 56 7 1 true⟩,
      ⟨none, .store 5 1 (.t 56)⟩])))))
    (.reg [⟨none, .mov 30 (.t 6)⟩,
    ⟨none, .bin 31 .add (.t 30) (.k (.int .i64 1))⟩,
    ⟨none, .mov 6 (.t 31)⟩]))
/-- spec.InOrder -/
def r361 : RF :=
 ⟨2, [.tmp 4],
 .seq (.reg [⟨none, .mov 4 (.k (.bool false))⟩])
 (.seq (.seq (.reg [⟨none, .mov 9 (.t 0)⟩,
   ⟨none, .call (some 10) 42 [(.t 9)] false⟩,
   ⟨none, .not 11 (.t 10)⟩,
   ⟨none, .mov 12 (.t 11)⟩,
   ⟨some (12, false), .mov 13 (.t 1)⟩,
   ⟨some (12, false), .len 14 (.t 13)⟩,
   ⟨some (12, false), .mov 15 (.t 0)⟩,
   ⟨some (12, false), .len 16 (.t 15)⟩,
   ⟨some (12, false), .bin 17 .gtr (.t 14) (.t 16)⟩,
   ⟨none, .pick 18 (.t 12) (.k (.bool true)) (.t 17)⟩,
   ⟨none, .mov 19 (.t 18)⟩,
   ⟨some (19, false), .mov 20 (.t 0)⟩,
   ⟨some (19, false), .mov 21 (.t 1)⟩,
   ⟨some (19, false), .call (some 22) 370 [(.t 20), (.t 21)] false⟩,
   ⟨some (19, false), .not 23 (.t 22)⟩,
   ⟨none, .pick 24 (.t 19) (.k (.bool true)) (.t 23)⟩])
  (.cond (.t 24)
  (.seq (.reg [⟨none, .mov 4 (.k (.bool false))⟩])
   (.ret))
  (.skip)))
 (.seq (.reg [⟨none, .build 25 [.nil] []⟩,
  ⟨none, .loc 5 [.nil]⟩,
  ⟨none, .store 5 1 (.t 25)⟩])
 (.seq (.seq (.reg [⟨none, .mov 6 (.k (.int .i64 0))⟩])
  (.block 0 (.loop [0, 1, 5, 6]
   r361L0)))
 (.seq (.reg [⟨none, .mov 4 (.k (.bool true))⟩])
 (.ret)))))⟩
/-- A loop of spec.l17All. -/
def r370L0 : RC :=
 .seq (.seq (.reg [⟨none, .mov 6 (.t 5)⟩,
      ⟨none, .mov 7 (.t 0)⟩,
      ⟨none, .len 8 (.t 7)⟩,
      ⟨none, .bin 9 .lss (.t 6) (.t 8)⟩])
     (.cond (.t 9)
     (.skip)
     (.exit 0)))
    (.seq (.block 1 (.seq (.reg [⟨none, .mov 12 (.t 0)⟩,
       ⟨none, .mov 13 (.t 5)⟩,
       ⟨none, .idx 14 1 (.t 12) (.t 13)⟩,
       ⟨none, .fad 15 14 5⟩,
       ⟨none, .load 16 15 1 false⟩,
       ⟨none, .bin 17 .neq (.t 16) (.k (.int .i64 (-1)))⟩,
       ⟨none, .mov 18 (.t 17)⟩,
       ⟨some (18, true), .mov 19 (.t 1)⟩,
       ⟨some (18, true), .mov 20 (.t 5)⟩,
       ⟨some (18, true), .call (some 21) 377 [(.t 19), (.t 20)] false⟩,
       ⟨some (18, true), .not 22 (.t 21)⟩,
       ⟨none, .pick 23 (.t 18) (.t 22) (.k (.bool false))⟩])
      (.cond (.t 23)
      (.seq (.reg [⟨none, .mov 4 (.k (.bool false))⟩])
       (.ret))
      (.skip))))
    (.reg [⟨none, .mov 10 (.t 5)⟩,
    ⟨none, .bin 11 .add (.t 10) (.k (.int .i64 1))⟩,
    ⟨none, .mov 5 (.t 11)⟩]))
/-- spec.l17All -/
def r370 : RF :=
 ⟨2, [.tmp 4],
 .seq (.reg [⟨none, .mov 4 (.k (.bool false))⟩])
 (.seq (.seq (.reg [⟨none, .mov 5 (.k (.int .i64 0))⟩])
  (.block 0 (.loop [0, 1, 5]
   r370L0)))
 (.seq (.reg [⟨none, .mov 4 (.k (.bool true))⟩])
 (.ret)))⟩
/-- A loop of spec.l17Fits. -/
def r371L0 : RC :=
 .seq (.seq (.reg [⟨none, .mov 14 (.t 10)⟩,
      ⟨none, .mov 15 (.t 1)⟩,
      ⟨none, .len 16 (.t 15)⟩,
      ⟨none, .bin 17 .lss (.t 14) (.t 16)⟩])
     (.cond (.t 17)
     (.skip)
     (.exit 0)))
    (.seq (.block 1 (.seq (.reg [⟨none, .chk []⟩,
       ⟨none, .mov 20 (.t 1)⟩,
       ⟨none, .mov 21 (.t 10)⟩,
       ⟨none, .idx 22 15 (.t 20) (.t 21)⟩,
       ⟨none, .mov 24 (.t 3)⟩,
       ⟨none, .load 23 22 1 false⟩,
       ⟨none, .bin 25 .eql (.t 23) (.t 24)⟩,
       ⟨none, .mov 26 (.t 25)⟩,
       ⟨some (26, false), .mov 27 (.t 0)⟩,
       ⟨some (26, false), .mov 28 (.t 3)⟩,
       ⟨some (26, false), .idx 29 1 (.t 27) (.t 28)⟩,
       ⟨some (26, false), .mov 31 (.t 0)⟩,
       ⟨some (26, false), .mov 32 (.t 1)⟩,
       ⟨some (26, false), .mov 33 (.t 10)⟩,
       ⟨some (26, false), .idx 34 15 (.t 32) (.t 33)⟩,
       ⟨some (26, false), .load 30 29 8 true⟩,
       ⟨some (26, false), .load 35 34 1 false⟩,
       ⟨some (26, false), .idx 36 1 (.t 31) (.t 35)⟩,
       ⟨some (26, false), .load 37 36 8 true⟩,
       ⟨some (26, false), .call (some 38) 10 [(.t 30), (.t 37)] true⟩,
       ⟨none, .pick 39 (.t 26) (.k (.bool true)) (.t 38)⟩])
      (.cond (.t 39)
      (.seq (.reg [⟨none, .load 40 6 1 true⟩,
        ⟨none, .store 8 1 (.t 40)⟩,
        ⟨none, .mov 9 (.k (.bool false))⟩])
       (.ret))
      (.skip))))
    (.reg [⟨none, .mov 18 (.t 10)⟩,
    ⟨none, .bin 19 .add (.t 18) (.k (.int .i64 1))⟩,
    ⟨none, .mov 10 (.t 19)⟩]))
/-- spec.l17Fits -/
def r371 : RF :=
 ⟨4, [.cell 8 1 true, .tmp 9],
 .seq (.reg [⟨none, .locb 6 (.t 2)⟩,
  ⟨none, .loc 8 [.nil]⟩,
  ⟨none, .mov 9 (.k (.bool false))⟩])
 (.seq (.seq (.reg [⟨none, .mov 10 (.k (.int .i64 0))⟩])
  (.block 0 (.loop [0, 1, 3, 6, 8, 10]
   r371L0)))
 (.seq (.reg [⟨none, .chk [11]⟩,
  ⟨none, .loc 11 [.nil]⟩,
  ⟨none, .mov 43 (.t 0)⟩,
  ⟨none, .mov 44 (.t 3)⟩,
  ⟨none, .idx 45 1 (.t 43) (.t 44)⟩,
  ⟨none, .load 42 6 1 true⟩,
  ⟨none, .fad 46 45 0⟩,
  ⟨none, .load 47 46 4 true⟩,
  ⟨none, .call (some 48) 294 [(.t 42), (.t 47)] true⟩,
  ⟨none, .mov 41 (.t 48)⟩,
  ⟨none, .ext 49 (.t 41) 0⟩,
  ⟨none, .ext 50 (.t 41) 1⟩,
  ⟨none, .ext 51 (.t 41) 2⟩,
  ⟨none, .store 11 1 (.t 49)⟩,
  ⟨none, .mov 12 (.t 50)⟩,
  ⟨none, .mov 13 (.t 51)⟩])
 (.seq (.seq (.reg [⟨none, .mov 52 (.t 0)⟩,
   ⟨none, .mov 53 (.t 3)⟩,
   ⟨none, .idx 54 1 (.t 52) (.t 53)⟩,
   ⟨none, .fad 55 54 5⟩,
   ⟨none, .load 56 55 1 false⟩,
   ⟨none, .bin 57 .neq (.t 56) (.k (.int .i64 (-1)))⟩,
   ⟨none, .mov 58 (.t 57)⟩,
   ⟨some (58, true), .mov 59 (.t 12)⟩,
   ⟨some (58, true), .mov 60 (.t 0)⟩,
   ⟨some (58, true), .mov 61 (.t 3)⟩,
   ⟨some (58, true), .idx 62 1 (.t 60) (.t 61)⟩,
   ⟨some (58, true), .fad 63 62 6⟩,
   ⟨some (58, true), .load 64 63 1 false⟩,
   ⟨some (58, true), .bin 65 .neq (.t 59) (.t 64)⟩,
   ⟨some (58, true), .mov 66 (.t 65)⟩,
   ⟨some (66, false), .mov 67 (.t 13)⟩,
   ⟨some (66, false), .mov 68 (.t 0)⟩,
   ⟨some (66, false), .mov 69 (.t 3)⟩,
   ⟨some (66, false), .idx 70 1 (.t 68) (.t 69)⟩,
   ⟨some (66, false), .fad 71 70 7⟩,
   ⟨some (66, false), .load 72 71 1 false⟩,
   ⟨some (66, false), .bin 73 .neq (.t 67) (.t 72)⟩,
   ⟨some (58, true), .pick 74 (.t 66) (.k (.bool true)) (.t 73)⟩,
   ⟨none, .pick 75 (.t 58) (.t 74) (.k (.bool false))⟩])
  (.cond (.t 75)
  (.seq (.reg [⟨none, .load 76 6 1 true⟩,
    ⟨none, .store 8 1 (.t 76)⟩,
    ⟨none, .mov 9 (.k (.bool false))⟩])
   (.ret))
  (.skip)))
 (.seq (.reg [⟨none, .load 77 11 1 true⟩,
  ⟨none, .store 8 1 (.t 77)⟩,
  ⟨none, .mov 9 (.k (.bool true))⟩])
 (.ret)))))⟩
/-- The functions of this text, with their numbers. -/
def tS17 : List (Nat × RF) := [(10, r10), (42, r42), (52, r52), (294, r294), (361, r361), (370, r370), (371, r371)]
end Go.Proofs.Ytcdlbjomdokmiaa.A
/- The compact code of some functions: laws.FnExactInOrder. -/
namespace Go.Proofs.Ytcdlbjomdokmiaa.A
open Go
/-- laws.FnExactInOrder -/
def r359 : RF :=
 ⟨2, [.tmp 4],
 .seq (.reg [⟨none, .mov 4 (.k (.bool false))⟩])
 (.seq (.seq (.reg [⟨none, .mov 10 (.t 1)⟩,
   ⟨none, .len 11 (.t 10)⟩,
   ⟨none, .bin 12 .gtr (.t 11) (.k (.int .i64 1048576))⟩])
  (.cond (.t 12)
  (.seq (.reg [⟨none, .mov 4 (.k (.bool true))⟩])
   (.ret))
  (.skip)))
 (.seq (.reg [⟨none, .mov 5 (.k (.int .i64 1048576))⟩])
 (.seq (.reg [⟨none, .mov 13 (.t 0)⟩,
  ⟨none, .mov 14 (.t 5)⟩,
  ⟨none, .call (some 15) 40 [(.t 13), (.t 14)] false⟩,
  ⟨none, .mov 5 (.t 15)⟩])
 (.seq (.seq (.reg [⟨none, .mov 16 (.t 5)⟩,
   ⟨none, .bin 17 .lss (.t 16) (.k (.int .i64 0))⟩])
  (.cond (.t 17)
  (.seq (.reg [⟨none, .mov 4 (.k (.bool true))⟩])
   (.ret))
  (.skip)))
 (.seq (.reg [⟨none, .mov 18 (.t 0)⟩,
  ⟨none, .call (some 19) 41 [(.t 18)] false⟩,
  ⟨none, .mov 20 (.t 1)⟩,
  ⟨none, .call (some 21) 360 [(.t 20)] false⟩,
  ⟨none, .call (some 22) 361 [(.t 19), (.t 21)] false⟩,
  ⟨none, .mov 6 (.t 22)⟩])
 (.seq (.reg [⟨none, .mov 23 (.t 0)⟩,
  ⟨none, .call (some 24) 41 [(.t 23)] false⟩,
  ⟨none, .mov 7 (.t 24)⟩])
 (.seq (.reg [⟨none, .mov 25 (.t 1)⟩,
  ⟨none, .call (some 26) 360 [(.t 25)] false⟩,
  ⟨none, .mov 8 (.t 26)⟩])
 (.seq (.reg [⟨none, .mov 27 (.t 7)⟩,
  ⟨none, .mov 28 (.t 8)⟩,
  ⟨none, .call (some 29) 362 [(.t 27), (.t 28)] false⟩,
  ⟨none, .mov 9 (.t 29)⟩])
 (.seq (.seq (.reg [⟨none, .mov 30 (.t 9)⟩,
   ⟨none, .mov 31 (.t 6)⟩,
   ⟨none, .beq 32 true (.t 30) (.t 31)⟩])
  (.cond (.t 32)
  (.seq (.reg [⟨none, .mov 4 (.k (.bool false))⟩])
   (.ret))
  (.skip)))
 (.seq (.seq (.reg [⟨none, .mov 33 (.t 7)⟩,
   ⟨none, .mov 34 (.t 0)⟩,
   ⟨none, .call (some 35) 41 [(.t 34)] false⟩,
   ⟨none, .call (some 36) 44 [(.t 33), (.t 35)] false⟩,
   ⟨none, .not 37 (.t 36)⟩])
  (.cond (.t 37)
  (.seq (.reg [⟨none, .mov 4 (.k (.bool false))⟩])
   (.ret))
  (.skip)))
 (.seq (.seq (.reg [⟨none, .mov 38 (.t 8)⟩,
   ⟨none, .mov 39 (.t 1)⟩,
   ⟨none, .call (some 40) 360 [(.t 39)] false⟩,
   ⟨none, .call (some 41) 285 [(.t 38), (.t 40)] false⟩,
   ⟨none, .not 42 (.t 41)⟩])
  (.cond (.t 42)
  (.seq (.reg [⟨none, .mov 4 (.k (.bool false))⟩])
   (.ret))
  (.skip)))
 (.seq (.reg [⟨none, .mov 4 (.k (.bool true))⟩])
 (.ret)))))))))))))⟩
/-- The functions of this text, with their numbers. -/
def tWInOrder : List (Nat × RF) := [(359, r359)]
end Go.Proofs.Ytcdlbjomdokmiaa.A
/- The compact code of some functions: impl.isGroupId, impl.findRange, impl.areRanges, impl.findRange$1, impl.splitRange, impl.mergeRange. -/
namespace Go.Proofs.Ytcdlbjomdokmiaa.A
open Go
/-- impl.isGroupId -/
def r7 : RF :=
 ⟨1, [.tmp 2],
 .seq (.reg [⟨none, .mov 2 (.k (.bool false))⟩])
 (.seq (.reg [⟨none, .mov 3 (.t 0)⟩,
  ⟨none, .bin 4 .geq (.t 3) (.k (.int .i64 0))⟩,
  ⟨none, .mov 5 (.t 4)⟩,
  ⟨some (5, true), .mov 6 (.t 0)⟩,
  ⟨some (5, true), .bin 7 .leq (.t 6) (.k (.int .i64 99))⟩,
  ⟨none, .pick 8 (.t 5) (.t 7) (.k (.bool false))⟩,
  ⟨none, .mov 2 (.t 8)⟩])
 (.ret))⟩
/-- impl.findRange -/
def r107 : RF :=
 ⟨2, [.tmp 4],
 .seq (.reg [⟨none, .newb 3 (.t 1)⟩,
  ⟨none, .mov 4 (.k (.int .i64 0))⟩])
 (.seq (.reg [⟨none, .mov 5 (.t 0)⟩,
  ⟨none, .mkf 6 125 [3]⟩,
  ⟨none, .call (some 7) 126 [(.t 5), (.t 6)] false⟩,
  ⟨none, .mov 4 (.t 7)⟩])
 (.ret))⟩
/-- A loop of impl.areRanges. -/
def r124L0 : RC :=
 .seq (.reg [⟨none, .bin 33 .lss (.t 32) (.t 31)⟩])
    (.seq (.cond (.t 33)
     (.skip)
     (.exit 0))
    (.seq (.block 1 (.seq (.reg [⟨none, .mov 34 (.t 32)⟩,
       ⟨none, .idx 35 7 (.t 30) (.t 32)⟩,
       ⟨none, .load 36 35 3 true⟩,
       ⟨none, .loc 4 [.int .u64 0, .int .u64 0, .int .i64 0]⟩,
       ⟨none, .mov 3 (.t 34)⟩,
       ⟨none, .store 4 3 (.t 36)⟩])
      (.seq (.reg [⟨none, .chk []⟩,
       ⟨none, .fad 37 4 0⟩,
       ⟨none, .load 38 37 1 false⟩,
       ⟨none, .fad 39 4 1⟩,
       ⟨none, .load 40 39 1 false⟩,
       ⟨none, .bin 41 .gtr (.t 38) (.t 40)⟩,
       ⟨none, .mov 42 (.t 41)⟩,
       ⟨some (42, false), .fad 43 4 2⟩,
       ⟨some (42, false), .load 44 43 1 false⟩,
       ⟨some (42, false), .call (some 45) 7 [(.t 44)] true⟩,
       ⟨some (42, false), .not 46 (.t 45)⟩,
       ⟨none, .pick 47 (.t 42) (.k (.bool true)) (.t 46)⟩,
       ⟨none, .mov 48 (.t 47)⟩,
       ⟨some (48, false), .mov 49 (.t 3)⟩,
       ⟨some (48, false), .bin 50 .gtr (.t 49) (.k (.int .i64 0))⟩,
       ⟨some (48, false), .mov 51 (.t 50)⟩,
       ⟨some (51, true), .fad 52 4 0⟩,
       ⟨some (51, true), .load 53 52 1 false⟩,
       ⟨some (51, true), .bin 54 .eql (.t 53) (.k (.int .u64 0))⟩,
       ⟨some (51, true), .mov 55 (.t 54)⟩,
       ⟨some (55, false), .mov 59 (.t 0)⟩,
       ⟨some (55, false), .mov 60 (.t 3)⟩,
       ⟨some (55, false), .bin 61 .sub (.t 60) (.k (.int .i64 1))⟩,
       ⟨some (55, false), .idx 62 7 (.t 59) (.t 61)⟩,
       ⟨some (55, false), .fad 56 4 0⟩,
       ⟨some (55, false), .load 57 56 1 false⟩,
       ⟨some (55, false), .bin 58 .sub (.t 57) (.k (.int .u64 1))⟩,
       ⟨some (55, false), .fad 63 62 1⟩,
       ⟨some (55, false), .load 64 63 1 false⟩,
       ⟨some (55, false), .bin 65 .neq (.t 58) (.t 64)⟩,
       ⟨some (51, true), .pick 66 (.t 55) (.k (.bool true)) (.t 65)⟩,
       ⟨some (48, false), .pick 67 (.t 51) (.t 66) (.k (.bool false))⟩,
       ⟨none, .pick 68 (.t 48) (.k (.bool true)) (.t 67)⟩])
      (.cond (.t 68)
      (.seq (.reg [⟨none, .mov 2 (.k (.bool false))⟩])
       (.ret))
      (.skip)))))
    (.reg [⟨none, .bin 69 .add (.t 32) (.k (.int .i64 1))⟩,
    ⟨none, .mov 32 (.t 69)⟩])))
/-- impl.areRanges -/
def r124 : RF :=
 ⟨1, [.tmp 2],
 .seq (.reg [⟨none, .mov 2 (.k (.bool false))⟩])
 (.seq (.seq (.reg [⟨none, .mov 5 (.t 0)⟩,
   ⟨none, .len 6 (.t 5)⟩,
   ⟨none, .bin 7 .lss (.t 6) (.k (.int .i64 1))⟩,
   ⟨none, .mov 8 (.t 7)⟩,
   ⟨some (8, false), .mov 9 (.t 0)⟩,
   ⟨some (8, false), .len 10 (.t 9)⟩,
   ⟨some (8, false), .bin 11 .gtr (.t 10) (.k (.int .i64 24))⟩,
   ⟨none, .pick 12 (.t 8) (.k (.bool true)) (.t 11)⟩,
   ⟨none, .mov 13 (.t 12)⟩,
   ⟨some (13, false), .mov 14 (.t 0)⟩,
   ⟨some (13, false), .idx 15 7 (.t 14) (.k (.int .i64 0))⟩,
   ⟨some (13, false), .fad 16 15 0⟩,
   ⟨some (13, false), .load 17 16 1 false⟩,
   ⟨some (13, false), .bin 18 .neq (.t 17) (.k (.int .u64 0))⟩,
   ⟨none, .pick 19 (.t 13) (.k (.bool true)) (.t 18)⟩,
   ⟨none, .mov 20 (.t 19)⟩,
   ⟨some (20, false), .mov 21 (.t 0)⟩,
   ⟨some (20, false), .mov 22 (.t 0)⟩,
   ⟨some (20, false), .len 23 (.t 22)⟩,
   ⟨some (20, false), .bin 24 .sub (.t 23) (.k (.int .i64 1))⟩,
   ⟨some (20, false), .idx 25 7 (.t 21) (.t 24)⟩,
   ⟨some (20, false), .fad 26 25 1⟩,
   ⟨some (20, false), .load 27 26 1 false⟩,
   ⟨some (20, false), .bin 28 .neq (.t 27) (.k (.int .u64 18446744073709551615))⟩,
   ⟨none, .pick 29 (.t 20) (.k (.bool true)) (.t 28)⟩])
  (.cond (.t 29)
  (.seq (.reg [⟨none, .mov 2 (.k (.bool false))⟩])
   (.ret))
  (.skip)))
 (.seq (.seq (.reg [⟨none, .mov 30 (.t 0)⟩,
   ⟨none, .len 31 (.t 30)⟩,
   ⟨none, .mov 32 (.k (.int .i64 0))⟩])
  (.block 0 (.loop [0, 30, 31, 32]
   r124L0)))
 (.seq (.reg [⟨none, .mov 2 (.k (.bool true))⟩])
 (.ret))))⟩
/-- impl.findRange$1 -/
def r125 : RF :=
 ⟨2, [.tmp 3],
 .seq (.reg [⟨none, .locb 2 (.t 0)⟩,
  ⟨none, .mov 3 (.k (.bool false))⟩])
 (.seq (.reg [⟨none, .load 4 1 1 false⟩,
  ⟨none, .fad 5 2 1⟩,
  ⟨none, .load 6 5 1 false⟩,
  ⟨none, .bin 7 .leq (.t 4) (.t 6)⟩,
  ⟨none, .mov 3 (.t 7)⟩])
 (.ret))⟩
/-- impl.splitRange -/
def r255 : RF :=
 ⟨3, [.tmp 6, .tmp 7],
 .seq (.reg [⟨none, .mov 6 (.k (.nil))⟩,
  ⟨none, .mov 7 (.k (.bool false))⟩])
 (.seq (.seq (.reg [⟨none, .mov 11 (.t 0)⟩,
   ⟨none, .call (some 12) 124 [(.t 11)] false⟩,
   ⟨none, .not 13 (.t 12)⟩,
   ⟨none, .mov 14 (.t 13)⟩,
   ⟨some (14, false), .mov 15 (.t 2)⟩,
   ⟨some (14, false), .call (some 16) 7 [(.t 15)] false⟩,
   ⟨some (14, false), .not 17 (.t 16)⟩,
   ⟨none, .pick 18 (.t 14) (.k (.bool true)) (.t 17)⟩,
   ⟨none, .mov 19 (.t 18)⟩,
   ⟨some (19, false), .mov 20 (.t 0)⟩,
   ⟨some (19, false), .len 21 (.t 20)⟩,
   ⟨some (19, false), .bin 22 .eql (.t 21) (.k (.int .i64 24))⟩,
   ⟨none, .pick 23 (.t 19) (.k (.bool true)) (.t 22)⟩])
  (.cond (.t 23)
  (.seq (.reg [⟨none, .mov 6 (.k (.nil))⟩,
    ⟨none, .mov 7 (.k (.bool false))⟩])
   (.ret))
  (.skip)))
 (.seq (.reg [⟨none, .mov 24 (.t 0)⟩,
  ⟨none, .mov 25 (.t 1)⟩,
  ⟨none, .call (some 26) 107 [(.t 24), (.t 25)] false⟩,
  ⟨none, .mov 8 (.t 26)⟩])
 (.seq (.reg [⟨none, .mov 27 (.t 0)⟩,
  ⟨none, .mov 28 (.t 8)⟩,
  ⟨none, .idx 29 7 (.t 27) (.t 28)⟩,
  ⟨none, .load 30 29 3 true⟩,
  ⟨none, .loc 9 [.int .u64 0, .int .u64 0, .int .i64 0]⟩,
  ⟨none, .store 9 3 (.t 30)⟩])
 (.seq (.seq (.reg [⟨none, .fad 31 9 0⟩,
   ⟨none, .load 32 31 1 false⟩,
   ⟨none, .mov 33 (.t 1)⟩,
   ⟨none, .bin 34 .eql (.t 32) (.t 33)⟩])
  (.cond (.t 34)
  (.seq (.reg [⟨none, .mov 6 (.k (.nil))⟩,
    ⟨none, .mov 7 (.k (.bool false))⟩])
   (.ret))
  (.skip)))
 (.seq (.reg [⟨none, .lit 35 7 0 [.int .u64 0, .int .u64 0, .int .i64 0] []⟩,
  ⟨none, .mov 36 (.t 0)⟩,
  ⟨none, .app 37 7 24 (.t 35) (.t 36)⟩,
  ⟨none, .mov 10 (.t 37)⟩])
 (.seq (.reg [⟨none, .mov 38 (.t 10)⟩,
  ⟨none, .mov 39 (.t 8)⟩,
  ⟨none, .mov 40 (.t 1)⟩,
  ⟨none, .bin 41 .sub (.t 40) (.k (.int .u64 1))⟩,
  ⟨none, .idx 42 7 (.t 38) (.t 39)⟩,
  ⟨none, .fad 43 42 1⟩,
  ⟨none, .store 43 1 (.t 41)⟩])
 (.seq (.reg [⟨none, .mov 44 (.t 10)⟩,
  ⟨none, .mov 45 (.t 8)⟩,
  ⟨none, .bin 46 .add (.t 45) (.k (.int .i64 1))⟩,
  ⟨none, .mov 47 (.t 1)⟩,
  ⟨none, .fad 48 9 1⟩,
  ⟨none, .load 49 48 1 false⟩,
  ⟨none, .mov 50 (.t 2)⟩,
  ⟨none, .build 51 [.int .u64 0, .int .u64 0, .int .i64 0] [(0, 1, (.t 47)), (1, 1, (.t 49)), (2, 1, (.t 50))]⟩,
  ⟨none, .lit 52 7 1 [.int .u64 0, .int .u64 0, .int .i64 0] [(0, (.t 51))]⟩,
  ⟨none, .call (some 53) 269 [(.t 44), (.t 46), (.t 52)] false⟩,
  ⟨none, .mov 6 (.t 53)⟩,
  ⟨none, .mov 7 (.k (.bool true))⟩])
 (.ret))))))))⟩
/-- impl.mergeRange -/
def r256 : RF :=
 ⟨2, [.tmp 4, .tmp 5],
 .seq (.reg [⟨none, .mov 4 (.k (.nil))⟩,
  ⟨none, .mov 5 (.k (.bool false))⟩])
 (.seq (.seq (.reg [⟨none, .chk []⟩,
   ⟨none, .mov 7 (.t 0)⟩,
   ⟨none, .call (some 8) 124 [(.t 7)] true⟩,
   ⟨none, .not 9 (.t 8)⟩,
   ⟨none, .mov 10 (.t 9)⟩,
   ⟨some (10, false), .mov 11 (.t 1)⟩,
   ⟨some (10, false), .bin 12 .lss (.t 11) (.k (.int .i64 0))⟩,
   ⟨none, .pick 13 (.t 10) (.k (.bool true)) (.t 12)⟩,
   ⟨none, .mov 14 (.t 13)⟩,
   ⟨some (14, false), .mov 15 (.t 1)⟩,
   ⟨some (14, false), .mov 16 (.t 0)⟩,
   ⟨some (14, false), .len 17 (.t 16)⟩,
   ⟨some (14, false), .bin 18 .sub (.t 17) (.k (.int .i64 1))⟩,
   ⟨some (14, false), .bin 19 .geq (.t 15) (.t 18)⟩,
   ⟨none, .pick 20 (.t 14) (.k (.bool true)) (.t 19)⟩,
   ⟨none, .mov 21 (.t 20)⟩,
   ⟨some (21, false), .mov 22 (.t 0)⟩,
   ⟨some (21, false), .mov 23 (.t 1)⟩,
   ⟨some (21, false), .idx 24 7 (.t 22) (.t 23)⟩,
   ⟨some (21, false), .mov 27 (.t 0)⟩,
   ⟨some (21, false), .mov 28 (.t 1)⟩,
   ⟨some (21, false), .bin 29 .add (.t 28) (.k (.int .i64 1))⟩,
   ⟨some (21, false), .idx 30 7 (.t 27) (.t 29)⟩,
   ⟨some (21, false), .fad 25 24 2⟩,
   ⟨some (21, false), .load 26 25 1 false⟩,
   ⟨some (21, false), .fad 31 30 2⟩,
   ⟨some (21, false), .load 32 31 1 false⟩,
   ⟨some (21, false), .bin 33 .neq (.t 26) (.t 32)⟩,
   ⟨none, .pick 34 (.t 21) (.k (.bool true)) (.t 33)⟩])
  (.cond (.t 34)
  (.seq (.reg [⟨none, .mov 4 (.k (.nil))⟩,
    ⟨none, .mov 5 (.k (.bool false))⟩])
   (.ret))
  (.skip)))
 (.seq (.reg [⟨none, .lit 35 7 0 [.int .u64 0, .int .u64 0, .int .i64 0] []⟩,
  ⟨none, .mov 36 (.t 0)⟩,
  ⟨none, .app 37 7 24 (.t 35) (.t 36)⟩,
  ⟨none, .mov 6 (.t 37)⟩])
 (.seq (.reg [⟨none, .mov 38 (.t 6)⟩,
  ⟨none, .mov 39 (.t 1)⟩,
  ⟨none, .mov 40 (.t 0)⟩,
  ⟨none, .mov 41 (.t 1)⟩,
  ⟨none, .bin 42 .add (.t 41) (.k (.int .i64 1))⟩,
  ⟨none, .idx 43 7 (.t 40) (.t 42)⟩,
  ⟨none, .fad 44 43 1⟩,
  ⟨none, .load 45 44 1 false⟩,
  ⟨none, .idx 46 7 (.t 38) (.t 39)⟩,
  ⟨none, .fad 47 46 1⟩,
  ⟨none, .store 47 1 (.t 45)⟩])
 (.seq (.reg [⟨none, .mov 48 (.t 6)⟩,
  ⟨none, .mov 49 (.t 1)⟩,
  ⟨none, .bin 50 .add (.t 49) (.k (.int .i64 1))⟩,
  ⟨none, .mov 51 (.t 1)⟩,
  ⟨none, .bin 52 .add (.t 51) (.k (.int .i64 2))⟩,
  ⟨none, .call (some 53) 270 [(.t 48), (.t 50), (.t 52)] false⟩,
  ⟨none, .mov 4 (.t 53)⟩,
  ⟨none, .mov 5 (.k (.bool true))⟩])
 (.ret)))))⟩
/-- The functions of this text, with their numbers. -/
def tI11 : List (Nat × RF) := [(7, r7), (107, r107), (124, r124), (125, r125), (255, r255), (256, r256)]
end Go.Proofs.Ytcdlbjomdokmiaa.A
/- Small functions of bounds that many use. -/
namespace Go.Proofs.Ytcdlbjomdokmiaa.A
open Go
set_option linter.unusedSimpArgs false
set_option linter.unusedVariables false
/-- A table's functions are those of F. -/
abbrev Has (F : Nat → Option RF) (t : List (Nat × RF)) : Prop := AllT (fun x => F x.1 = some x.2) t
def inR (x lo hi : Int) : Bool := decide (lo ≤ x) && decide (x ≤ hi)
section
variable {F : Nat → Option RF} {Z : CallF}
theorem isGroupId_run (hI11 : Has F tI11) (n : Int) (h : Heap) :
    call F Z 7 [.c (.int .i64 n)] h = some (.c (.bool (inR n 0 99)), h) := by
  rw [call_run F Z (hI11.lk (g := 7) rfl) _ _ rfl]
  simp only [run0, run1, run2, run3, run4, noSlot, ownS, ownK, memN, RO.dst, lk, drop, forget, number, Nat.reduceBEq, cut?, splice?, builds, List.length_cons, List.length_nil, List.drop_succ_cons, List.drop_zero, List.take_succ_cons, List.take_zero, List.cons_append, List.nil_append, List.append_nil, List.drop_nil, List.take_nil, Nat.reduceAdd, Nat.reduceLeDiff, Nat.zero_add, Nat.add_zero, ↓reduceIte, Bool.not_true, Bool.not_false, decide_true, decide_false, eq_self, bne_self_eq_false, List.getElem?_cons_zero, List.getElem?_cons_succ, decide_eq_true_eq, Bool.false_eq_true, Bool.true_eq_false, reduceCtorEq, Nat.le_refl]
  (repeat' ((first | (rw [gF_if]; split) | (rw [condC_if]; split) | (rw [pickR_if]; split)) <;> (rename_i hh; (try simp only [Bool.not_eq_true, decide_eq_true_eq] at hh); simp only [hh, run0, run1, run2, run3, run4, noSlot, ownS, ownK, memN, RO.dst, lk, drop, forget, number, Nat.reduceBEq, cut?, splice?, builds, List.length_cons, List.length_nil, List.drop_succ_cons, List.drop_zero, List.take_succ_cons, List.take_zero, List.cons_append, List.nil_append, List.append_nil, List.drop_nil, List.take_nil, Nat.reduceAdd, Nat.reduceLeDiff, Nat.zero_add, Nat.add_zero, ↓reduceIte, Bool.not_true, Bool.not_false, decide_true, decide_false, eq_self, bne_self_eq_false, List.getElem?_cons_zero, List.getElem?_cons_succ, decide_eq_true_eq, Bool.false_eq_true, Bool.true_eq_false, reduceCtorEq, Nat.le_refl]))) <;> simp [inR, *]
theorem l01In_run (hS : Has F tS01d) (n lo hi : Int) (h : Heap) :
    call F Z 5 [.c (.int .i64 n), .c (.int .i64 lo), .c (.int .i64 hi)] h = some (.c (.bool (inR n lo hi)), h) := by
  rw [call_run F Z (hS.lk (g := 5) rfl) _ _ rfl]
  simp only [run0, run1, run2, run3, run4, noSlot, ownS, ownK, memN, RO.dst, lk, drop, forget, number, Nat.reduceBEq, cut?, splice?, builds, List.length_cons, List.length_nil, List.drop_succ_cons, List.drop_zero, List.take_succ_cons, List.take_zero, List.cons_append, List.nil_append, List.append_nil, List.drop_nil, List.take_nil, Nat.reduceAdd, Nat.reduceLeDiff, Nat.zero_add, Nat.add_zero, ↓reduceIte, Bool.not_true, Bool.not_false, decide_true, decide_false, eq_self, bne_self_eq_false, List.getElem?_cons_zero, List.getElem?_cons_succ, decide_eq_true_eq, Bool.false_eq_true, Bool.true_eq_false, reduceCtorEq, Nat.le_refl]
  (repeat' ((first | (rw [gF_if]; split) | (rw [condC_if]; split) | (rw [pickR_if]; split)) <;> (rename_i hh; (try simp only [Bool.not_eq_true, decide_eq_true_eq] at hh); simp only [hh, run0, run1, run2, run3, run4, noSlot, ownS, ownK, memN, RO.dst, lk, drop, forget, number, Nat.reduceBEq, cut?, splice?, builds, List.length_cons, List.length_nil, List.drop_succ_cons, List.drop_zero, List.take_succ_cons, List.take_zero, List.cons_append, List.nil_append, List.append_nil, List.drop_nil, List.take_nil, Nat.reduceAdd, Nat.reduceLeDiff, Nat.zero_add, Nat.add_zero, ↓reduceIte, Bool.not_true, Bool.not_false, decide_true, decide_false, eq_self, bne_self_eq_false, List.getElem?_cons_zero, List.getElem?_cons_succ, decide_eq_true_eq, Bool.false_eq_true, Bool.true_eq_false, reduceCtorEq, Nat.le_refl]))) <;> simp [inR, *]
end
end Go.Proofs.Ytcdlbjomdokmiaa.A
/- Slices that show data: relations between cells of a heap and data, with their footprints; loops by their turns. -/
namespace Go.Proofs.Ytcdlbjomdokmiaa.A
open Go
set_option linter.unusedSimpArgs false
set_option linter.unusedVariables false

/-! ### numbers -/
theorem wrapI (z : Int) (h1 : -9223372036854775808 ≤ z) (h2 : z ≤ 9223372036854775807) : IntKind.i64.wrap z = z := by
  show (if (true && decide (z % 18446744073709551616 ≥ 9223372036854775808)) = true then z % 18446744073709551616 - 18446744073709551616 else z % 18446744073709551616) = z
  simp only [Bool.true_and, decide_eq_true_eq]
  split <;> omega
theorem wrapU (z : Int) (h1 : 0 ≤ z) (h2 : z ≤ 18446744073709551615) : IntKind.u64.wrap z = z := by
  show (if (false && decide (z % 18446744073709551616 ≥ 9223372036854775808)) = true then z % 18446744073709551616 - 18446744073709551616 else z % 18446744073709551616) = z
  rw [if_neg (by simp)]
  omega
theorem wrapS (i : Nat) (h : i < 9223372036854775807) : IntKind.i64.wrap ((i : Int) + 1) = ((i + 1 : Nat) : Int) := by rw [wrapI _ (by omega) (by omega)]; rfl

/-! ### cells that show data -/
/-- Cells of a heap show data; the rows that they lie in. -/
abbrev Rel (α : Type) := Heap → List Cell → α → List Nat → Prop
structure RelOk {α : Type} (R : Rel α) : Prop where
  lt : ∀ {h cs a fp}, R h cs a fp → ∀ id, id ∈ fp → id < h.next
  mv : ∀ {h h' cs a fp}, R h cs a fp → h.next ≤ h'.next → (∀ id, id ∈ fp → h'.get id = h.get id) → R h' cs a fp
def Fl {α : Type} (enc : α → List Cell) : Rel α := fun _ cs a fp => cs = enc a ∧ fp = []
theorem Fl.ok {α : Type} (enc : α → List Cell) : RelOk (Fl enc) where
  lt := by rintro h cs a fp ⟨rfl, rfl⟩ id hid; cases hid
  mv := fun e _ _ => e
def AllR {α : Type} (R : Rel α) (h : Heap) : List (List Cell) → List α → List (List Nat) → Prop
  | [], [], [] => True
  | r :: rs, a :: bs, f :: fs => R h r a f ∧ AllR R h rs bs fs
  | _, _, _ => False
def Cell.sid : Cell → Nat
  | .sl _ id _ _ => id
  | _ => 0
/-- A cell shows a list. -/
def SlR {α : Type} (tag : Nat) (R : Rel α) (h : Heap) (x : Cell) (xs : List α) (fp : List Nat) : Prop :=
  xs.length ≤ maxLen ∧ ((x = .nil ∧ xs = [] ∧ fp = []) ∨ ∃ id rows fps, x = .sl tag id 0 xs.length ∧ h.get id = some rows ∧ id < h.next ∧ fp = id :: fps.flatten ∧ AllR R h rows xs fps)

section
variable {α : Type} {R : Rel α} {h h' : Heap}
theorem AllR.len : ∀ {rows : List (List Cell)} {xs : List α} {fps : List (List Nat)}, AllR R h rows xs fps → rows.length = xs.length
  | [], [], [], _ => rfl
  | _ :: _, _ :: _, _ :: _, ⟨_, w⟩ => by simp only [List.length_cons, AllR.len w]
  | [], [], _ :: _, w => w.elim
  | [], _ :: _, _, w => w.elim
  | _ :: _, [], _, w => w.elim
  | _ :: _, _ :: _, [], w => w.elim
theorem AllR.at : ∀ {rows : List (List Cell)} {xs : List α} {fps : List (List Nat)}, AllR R h rows xs fps → ∀ (i : Nat) (hi : i < xs.length), ∃ r f, rows[i]? = some r ∧ fps[i]? = some f ∧ R h r xs[i] f
  | [], [], [], _ => fun i hi => absurd hi (Nat.not_lt_zero _)
  | r :: _, _ :: _, f :: _, ⟨w1, w⟩ => fun i hi => by
    cases i with
    | zero => exact ⟨r, f, rfl, rfl, w1⟩
    | succ i => exact AllR.at w i (by simpa using hi)
  | [], [], _ :: _, w => w.elim
  | [], _ :: _, _, w => w.elim
  | _ :: _, [], _, w => w.elim
  | _ :: _, _ :: _, [], w => w.elim
theorem AllR.mv (ok : RelOk R) : ∀ {rows : List (List Cell)} {xs : List α} {fps : List (List Nat)}, AllR R h rows xs fps → h.next ≤ h'.next → (∀ id, id ∈ fps.flatten → h'.get id = h.get id) → AllR R h' rows xs fps
  | [], [], [], _ => fun _ _ => trivial
  | _ :: _, _ :: _, _ :: _, ⟨w1, w⟩ => fun hn hg => ⟨ok.mv w1 hn fun id hid => hg id (by simp [hid]), w.mv ok hn fun id hid => hg id (by rw [List.flatten_cons]; exact List.mem_append_right _ hid)⟩
  | [], [], _ :: _, w => w.elim
  | [], _ :: _, _, w => w.elim
  | _ :: _, [], _, w => w.elim
  | _ :: _, _ :: _, [], w => w.elim
theorem AllR.lt (ok : RelOk R) : ∀ {rows : List (List Cell)} {xs : List α} {fps : List (List Nat)}, AllR R h rows xs fps → ∀ id, id ∈ fps.flatten → id < h.next
  | [], [], [], _ => fun id hid => by simp at hid
  | _ :: _, _ :: _, _ :: _, ⟨w1, w⟩ => fun id hid => by
    rw [List.flatten_cons] at hid
    rcases List.mem_append.1 hid with hid | hid
    · exact ok.lt w1 id hid
    · exact w.lt ok id hid
  | [], [], _ :: _, w => w.elim
  | [], _ :: _, _, w => w.elim
  | _ :: _, [], _, w => w.elim
  | _ :: _, _ :: _, [], w => w.elim
theorem AllR.flat {enc : α → List Cell} : ∀ {rows : List (List Cell)} {xs : List α} {fps : List (List Nat)}, AllR (Fl enc) h rows xs fps → rows = xs.map enc ∧ fps.flatten = []
  | [], [], [], _ => ⟨rfl, rfl⟩
  | _ :: _, _ :: _, _ :: _, ⟨⟨rfl, rfl⟩, w⟩ => ⟨by rw [w.flat.1]; rfl, by rw [List.flatten_cons, w.flat.2]; rfl⟩
  | [], [], _ :: _, w => w.elim
  | [], _ :: _, _, w => w.elim
  | _ :: _, [], _, w => w.elim
  | _ :: _, _ :: _, [], w => w.elim
theorem AllR.ofFlat {enc : α → List Cell} : ∀ (xs : List α), AllR (Fl enc) h (xs.map enc) xs (xs.map fun _ => [])
  | [] => trivial
  | _ :: r => ⟨⟨rfl, rfl⟩, AllR.ofFlat r⟩
variable {tag : Nat} {x : Cell} {xs : List α} {fp : List Nat}
theorem SlR.le (w : SlR tag R h x xs fp) : xs.length ≤ maxLen := w.1
theorem SlR.le2 (w : SlR tag R h x xs fp) : xs.length ≤ 9223372036854775807 := by have := w.1; unfold maxLen at this; omega
theorem SlR.lt (ok : RelOk R) (w : SlR tag R h x xs fp) : ∀ id, id ∈ fp → id < h.next := by
  rcases w with ⟨_, ⟨_, _, rfl⟩ | ⟨id, rows, fps, _, _, h1, rfl, h2⟩⟩
  · intro id hid; cases hid
  · intro i hi
    rcases List.mem_cons.1 hi with rfl | hi
    · exact h1
    · exact h2.lt ok i hi
theorem SlR.mv (ok : RelOk R) (w : SlR tag R h x xs fp) (hn : h.next ≤ h'.next) (hg : ∀ id, id ∈ fp → h'.get id = h.get id) : SlR tag R h' x xs fp := by
  rcases w with ⟨hl, ⟨h1, h2, rfl⟩ | ⟨id, rows, fps, h1, h2, h3, rfl, h4⟩⟩
  · exact ⟨hl, .inl ⟨h1, h2, rfl⟩⟩
  · exact ⟨hl, .inr ⟨id, rows, fps, h1, (hg id (by simp)).trans h2, Nat.lt_of_lt_of_le h3 hn, rfl, h4.mv ok hn fun i hi => hg i (by simp [hi])⟩⟩
theorem SlR.mono (ok : RelOk R) (w : SlR tag R h x xs fp) (hx : HExt h h') : SlR tag R h' x xs fp := w.mv ok hx.1 fun id hid => hx.2 id (w.lt ok id hid)
theorem RelOk.mono (ok : RelOk R) {cs : List Cell} {a : α} (w : R h cs a fp) (hx : HExt h h') : R h' cs a fp := ok.mv w hx.1 fun id hid => hx.2 id (ok.lt w id hid)
theorem SlR.len (w : SlR tag R h x xs fp) : lenR (some x) = some (.int .i64 (xs.length : Nat)) := by
  rcases w with ⟨_, ⟨rfl, rfl, _⟩ | ⟨id, rows, fps, rfl, _⟩⟩ <;> rfl
theorem SlR.idx (w : SlR tag R h x xs fp) {i : Nat} (hi : i < xs.length) : idxR tag (some x) (some (i : Int)) = some (.ptr x.sid i 0) := by
  rcases w with ⟨_, ⟨rfl, rfl, _⟩ | ⟨id, rows, fps, rfl, _⟩⟩
  · exact absurd hi (Nat.not_lt_zero _)
  · rw [idxR_s, if_pos (by omega)]; simp [Cell.sid]
theorem SlR.row (w : SlR tag R h x xs fp) {i : Nat} (hi : i < xs.length) : ∃ r f, rowOf h x.sid i = some r ∧ R h r xs[i] f ∧ ∀ id, id ∈ f → id ∈ fp := by
  rcases w with ⟨_, ⟨rfl, rfl, _⟩ | ⟨id, rows, fps, rfl, h1, _, rfl, h2⟩⟩
  · exact absurd hi (Nat.not_lt_zero _)
  · obtain ⟨r, f, q1, q2, q3⟩ := h2.at i hi
    refine ⟨r, f, by simp [rowOf, Cell.sid, h1, q1], q3, fun id hid => List.mem_cons_of_mem _ (List.mem_flatten.2 ⟨f, List.mem_of_getElem? q2, hid⟩)⟩
theorem SlR.flat {enc : α → List Cell} (w : SlR tag (Fl enc) h x xs fp) : (x = .nil ∧ xs = [] ∧ fp = []) ∨ x = .sl tag x.sid 0 xs.length ∧ h.get x.sid = some (xs.map enc) ∧ x.sid < h.next ∧ fp = [x.sid] := by
  rcases w with ⟨_, h0 | ⟨id, rows, fps, rfl, h1, h2, rfl, h3⟩⟩
  · exact .inl h0
  · obtain ⟨rfl, h4⟩ := h3.flat
    exact .inr ⟨rfl, h1, h2, by rw [h4]; rfl⟩
theorem SlR.ofFlat {enc : α → List Cell} (hl : xs.length ≤ maxLen) {id : Nat} (h1 : h.get id = some (xs.map enc)) (h2 : id < h.next) : SlR tag (Fl enc) h (.sl tag id 0 xs.length) xs [id] :=
  ⟨hl, .inr ⟨id, _, _, rfl, h1, h2, by simp, AllR.ofFlat xs⟩⟩
theorem SlR.nil (tag : Nat) (R : Rel α) (h : Heap) : SlR tag R h .nil [] [] := ⟨Nat.zero_le _, .inl ⟨rfl, rfl, rfl⟩⟩
theorem SlR.load {enc : α → List Cell} (w : SlR tag (Fl enc) h x xs fp) {i : Nat} (hi : i < xs.length) (j n : Nat) : loadP h x.sid i j n = cut? (enc xs[i]) j n := by
  obtain ⟨r, f, h1, ⟨rfl, _⟩, _⟩ := w.row hi
  simp [loadP, h1]
theorem SlR.loadD {enc : α → List Cell} (w : SlR tag (Fl enc) h x xs fp) (d : α) {i : Nat} (hi : i < xs.length) (j n : Nat) : loadP h x.sid i j n = cut? (enc (xs[i]?.getD d)) j n := by
  rw [w.load hi, List.getElem?_eq_getElem hi]; rfl
theorem SlR.rows {enc : α → List Cell} (w : SlR tag (Fl enc) h x xs fp) : rowsOf h x = some (xs.map enc) := by
  rcases w.flat with ⟨rfl, rfl, _⟩ | ⟨h1, h2, _⟩
  · rfl
  · rw [h1]; simp only [rowsOf]; rw [h2]; simp [List.take_of_length_le]
theorem SlR.isTag (w : SlR tag R h x xs fp) : A.isTag tag x = true := by
  rcases w with ⟨_, ⟨rfl, rfl, _⟩ | ⟨id, rows, fps, rfl, _⟩⟩ <;> simp [A.isTag]
theorem AllR.ofWf {A : α → Prop} {W : List Cell → Prop} (hr : ∀ r, W r → ∃ a f, R h r a f ∧ A a) : ∀ (rows : List (List Cell)), (∀ r, r ∈ rows → W r) → ∃ xs fps, AllR R h rows xs fps ∧ ∀ a, a ∈ xs → A a
  | [], _ => ⟨[], [], trivial, fun _ h => nomatch h⟩
  | r :: rs, w => by
    obtain ⟨a, f, h1, h2⟩ := hr r (w r (by simp))
    obtain ⟨bs, fs, h3, h4⟩ := AllR.ofWf hr rs fun r hr => w r (by simp [hr])
    exact ⟨a :: bs, f :: fs, ⟨h1, h3⟩, fun b hb => by (rcases List.mem_cons.1 hb with rfl | hb); exact h2; exact h4 b hb⟩
theorem SlR.ofWf {A : α → Prop} {n sz : Nat} {e : Sh} (hr : ∀ r, r.length = sz ∧ Wf h n e r → ∃ a f, R h r a f ∧ A a) (w : Wf h (n + 1) (.slice tag sz e) [x]) : ∃ xs fp, SlR tag R h x xs fp ∧ ∀ a, a ∈ xs → A a := by
  rcases w with w | ⟨id, rows, h1, h2, h3, h4, h5⟩
  · cases w; exact ⟨[], [], SlR.nil _ _ _, fun _ h => nomatch h⟩
  · cases h1
    obtain ⟨xs, fps, q1, q2⟩ := AllR.ofWf hr rows h5
    exact ⟨xs, _, ⟨q1.len ▸ h4, .inr ⟨id, rows, fps, by rw [q1.len], h3, h2, rfl, q1⟩⟩, q2⟩
end

/-! ### the heap -/
theorem push_put (h : Heap) (a b : List (List Cell)) : (h.push a).put h.next b = h.push b := by
  simp only [Heap.push, Heap.put]
  congr 1; funext i; split <;> rfl
theorem push_get (h : Heap) (a : List (List Cell)) : (h.push a).get h.next = some a := by simp [Heap.push]
theorem push_next (h : Heap) (a : List (List Cell)) : (h.push a).next = h.next + 1 := rfl
theorem push_floor (h : Heap) (a : List (List Cell)) : (h.push a).floor = h.floor := rfl
theorem put_put (h : Heap) (id : Nat) (a b : List (List Cell)) : (h.put id a).put id b = h.put id b := by
  simp only [Heap.put]
  congr 1; funext i; split <;> rfl
theorem push_kill (h : Heap) (a : List (List Cell)) : (h.push a).kill h.next = { h with next := h.next + 1, get := fun i => if i = h.next then none else h.get i } := by
  simp only [Heap.push, Heap.kill]
  congr 1; funext i; split <;> rfl

theorem storeP_push {h : Heap} {rows : List (List Cell)} (hf : h.floor ≤ h.next) {i : Nat} {old new : List Cell} (h1 : rows[i]? = some old) (h2 : new.length = old.length) : storeP (h.push rows) h.next i 0 new = some (h.push (rows.set i new)) := by
  simp only [storeP, push_floor, push_get]
  rw [if_pos hf]
  simp only [Option.bind_some, h1, splice?, List.take_zero, List.nil_append, Nat.zero_add]
  rw [if_pos (by omega), h2, List.drop_length]
  simp only [List.append_nil, Option.bind_some, push_put]
/-- A store into a row that may be written. -/
theorem storeP_at {h : Heap} {id : Nat} {rows : List (List Cell)} (hf : h.floor ≤ id) (hr : h.get id = some rows) {i j : Nat} {old new r : List Cell} (h1 : rows[i]? = some old) (h2 : splice? old j new = some r) : storeP h id i j new = some (h.put id (rows.set i r)) := by
  simp only [storeP]
  rw [if_pos hf, hr]
  simp only [Option.bind_some, h1, h2]
theorem HExt.fl {h h' : Heap} (hx : HExt h h') (hf : h'.floor = h.floor) (h0 : h.floor ≤ h.next) : h'.floor ≤ h'.next := by rw [hf]; exact Nat.le_trans h0 hx.1

/-- The heap goes on: what was there is there. -/
structure On (h h' : Heap) : Prop where
  ext : HExt h h'
  fl : h'.floor = h.floor
theorem On.refl (h : Heap) : On h h := ⟨HExt.refl h, rfl⟩
theorem On.trans {a b c : Heap} (p : On a b) (q : On b c) : On a c := ⟨p.ext.trans q.ext, q.fl.trans p.fl⟩
theorem On.push (h : Heap) (rows : List (List Cell)) : On h (h.push rows) := ⟨HExt.push h rows, rfl⟩
theorem On.le {h h' : Heap} (o : On h h') (hf : h.floor ≤ h.next) : h'.floor ≤ h'.next := o.ext.fl o.fl hf
/-- Rows that were made behind h, each named once. -/
structure Fre (h : Heap) (fp : List Nat) : Prop where
  lo : ∀ id, id ∈ fp → h.next ≤ id
  nd : fp.Nodup
theorem Fre.one (h : Heap) : Fre h [h.next] := ⟨fun id hid => by simp at hid; omega, by simp⟩
theorem Fre.nil (h : Heap) : Fre h [] := ⟨fun id hid => (nomatch hid), List.nodup_nil⟩
theorem RelOk.on {α : Type} {R : Rel α} (ok : RelOk R) {h h' : Heap} {cs : List Cell} {a : α} {fp : List Nat} (w : R h cs a fp) (o : On h h') : R h' cs a fp := ok.mono w o.ext
theorem SlR.on {α : Type} {R : Rel α} {tag : Nat} {h h' : Heap} {x : Cell} {xs : List α} {fp : List Nat} (w : SlR tag R h x xs fp) (ok : RelOk R) (o : On h h') : SlR tag R h' x xs fp := w.mono ok o.ext

/-! ### rows that are filled one by one -/
def fillR {α : Type} (f : α → List Cell) (z : List Cell) (xs : List α) (i : Nat) : List (List Cell) := (xs.take i).map f ++ List.replicate (xs.length - i) z
theorem fillR_0 {α : Type} (f : α → List Cell) (z : List Cell) (xs : List α) : fillR f z xs 0 = List.replicate xs.length z := by simp [fillR]
theorem fillR_n {α : Type} (f : α → List Cell) (z : List Cell) (xs : List α) : fillR f z xs xs.length = xs.map f := by simp [fillR]
theorem fillR_get {α : Type} (f : α → List Cell) (z : List Cell) (xs : List α) {i : Nat} (hi : i < xs.length) : (fillR f z xs i)[i]? = some z := by
  simp only [fillR]
  rw [List.getElem?_append_right (by simp; omega)]
  rw [List.getElem?_replicate, if_pos]
  simp only [List.length_map, List.length_take]; omega
theorem fillR_set {α : Type} (f : α → List Cell) (z : List Cell) (xs : List α) {i : Nat} (hi : i < xs.length) : (fillR f z xs i).set i (f xs[i]) = fillR f z xs (i + 1) := by
  simp only [fillR]
  rw [List.set_append_right _ _ (by simp; omega), show i - ((xs.take i).map f).length = 0 from by simp; omega, show xs.length - i = (xs.length - (i + 1)) + 1 from by omega, List.replicate_succ, List.set_cons_zero,
    show xs.take (i + 1) = xs.take i ++ [xs[i]] from by rw [List.take_add_one, List.getElem?_eq_getElem hi]; rfl, List.map_append, List.append_assoc]
  rfl

/-! ### rows that are turned one by one, in place -/
def putM (h : Heap) (id : Nat) (rows : List (List Cell)) (i : Nat) : Option (List Cell) → Option Heap
  | some r => some (h.put id (rows.set i r))
  | none => none
theorem putM_s (h : Heap) (id : Nat) (rows : List (List Cell)) (i : Nat) (r : List Cell) : putM h id rows i (some r) = some (h.put id (rows.set i r)) := rfl
theorem storeP_put {h : Heap} {id : Nat} (hf : h.floor ≤ id) {rows : List (List Cell)} {i : Nat} (hi : i < rows.length) (old new : List Cell) (j : Nat) : storeP (h.put id (rows.set i old)) id i j new = putM h id rows i (splice? old j new) := by
  have hf' : (h.put id (rows.set i old)).floor ≤ id := hf
  have hg : (h.put id (rows.set i old)).get id = some (rows.set i old) := by simp [Heap.put]
  simp only [storeP]
  rw [if_pos hf', hg]
  simp only [Option.bind_some, List.getElem?_set_self hi]
  cases splice? old j new with
  | none => rfl
  | some r => simp only [Option.bind_some, List.set_set, put_put, putM]
theorem put_same {h : Heap} {id : Nat} {rows : List (List Cell)} (hr : h.get id = some rows) : h.put id rows = h := by
  obtain ⟨a, b, g⟩ := h
  simp only [Heap.put]
  congr 1; funext i; split
  · rename_i he; subst he; exact hr.symm
  · rfl
def mixR {α : Type} (f : α → List Cell) (ms xs : List α) (i : Nat) : List (List Cell) := (ms.take i).map f ++ (xs.drop i).map f
theorem mixR_0 {α : Type} (f : α → List Cell) (ms xs : List α) : mixR f ms xs 0 = xs.map f := by simp [mixR]
theorem mixR_n {α : Type} (f : α → List Cell) {ms xs : List α} (hl : ms.length = xs.length) : mixR f ms xs xs.length = ms.map f := by simp [mixR, ← hl]
theorem mixR_len {α : Type} (f : α → List Cell) {ms xs : List α} (hl : ms.length = xs.length) (i : Nat) : (mixR f ms xs i).length = xs.length := by simp [mixR]; omega
theorem mixR_split {α : Type} (f : α → List Cell) {ms xs : List α} (hl : ms.length = xs.length) {i : Nat} (hi : i < xs.length) (c : List Cell) : (mixR f ms xs i).set i c = (ms.take i).map f ++ c :: (xs.drop (i + 1)).map f := by
  simp only [mixR]
  rw [List.set_append_right _ _ (by simp; omega), show i - ((ms.take i).map f).length = 0 from by simp; omega, List.drop_eq_getElem_cons hi, List.map_cons, List.set_cons_zero]
theorem mixR_cur {α : Type} (f : α → List Cell) {ms xs : List α} (hl : ms.length = xs.length) {i : Nat} (hi : i < xs.length) : (mixR f ms xs i).set i (f xs[i]) = mixR f ms xs i := by
  rw [mixR_split f hl hi, mixR, List.drop_eq_getElem_cons hi]; rfl
theorem mixR_set {α : Type} (f : α → List Cell) {ms xs : List α} (hl : ms.length = xs.length) {i : Nat} (hi : i < xs.length) : (mixR f ms xs i).set i (f (ms[i]'(by omega))) = mixR f ms xs (i + 1) := by
  have hi' : i < ms.length := by omega
  rw [mixR_split f hl hi, mixR, show ms.take (i + 1) = ms.take i ++ [ms[i]] from by rw [List.take_add_one, List.getElem?_eq_getElem hi']; rfl, List.map_append, List.append_assoc]
  rfl
/-- Only these rows have turned. -/
structure Mk (h h' : Heap) (fp : List Nat) : Prop where
  next : h'.next = h.next
  fl : h'.floor = h.floor
  get : ∀ id, id ∉ fp → h'.get id = h.get id
theorem Mk.refl (h : Heap) (fp : List Nat) : Mk h h fp := ⟨rfl, rfl, fun _ _ => rfl⟩
theorem Mk.put (h : Heap) (id : Nat) (rows : List (List Cell)) : Mk h (h.put id rows) [id] := ⟨rfl, rfl, fun k hk => by simp only [Heap.put]; rw [if_neg (by simpa using hk)]⟩
theorem RelOk.mk' {α : Type} {R : Rel α} (ok : RelOk R) {h h' : Heap} {cs : List Cell} {a : α} {fp fq : List Nat} (w : R h cs a fp) (m : Mk h h' fq) (hd : ∀ id, id ∈ fp → id ∉ fq) : R h' cs a fp := ok.mv w (by rw [m.next]; exact Nat.le_refl _) fun id hid => m.get id (hd id hid)
theorem Mk.trans {a b c : Heap} {p q : List Nat} (m : Mk a b p) (n : Mk b c q) : Mk a c (p ++ q) := ⟨n.next.trans m.next, n.fl.trans m.fl, fun id hid => by
  rw [List.mem_append, not_or] at hid
  rw [n.get id hid.2, m.get id hid.1]⟩
theorem SlR.mk {α : Type} {R : Rel α} {tag : Nat} {h h' : Heap} {x : Cell} {xs : List α} {fp fq : List Nat} (w : SlR tag R h x xs fp) (ok : RelOk R) (m : Mk h h' fq) (hd : ∀ id, id ∈ fp → id ∉ fq) : SlR tag R h' x xs fp := w.mv ok (by rw [m.next]; exact Nat.le_refl _) fun id hid => m.get id (hd id hid)

/-! ### what integers may be -/
theorem wfU {x : Int} (h : (Lit.int .u64 x).wf = true) : 0 ≤ x ∧ x ≤ 18446744073709551615 := by
  simp only [Lit.wf, Bool.and_eq_true, decide_eq_true_eq] at h; exact h
theorem wfI {x : Int} (h : (Lit.int .i64 x).wf = true) : -9223372036854775808 ≤ x ∧ x ≤ 9223372036854775807 := by
  simp only [Lit.wf, Bool.and_eq_true, decide_eq_true_eq] at h; exact h
theorem wrapI1 (z : Int) (h1 : 0 ≤ z) (h2 : z ≤ 9200000000000000000) : IntKind.i64.wrap (z + 1) = z + 1 := wrapI _ (by omega) (by omega)
theorem wrapU1 (z : Int) (h1 : 0 ≤ z) (h2 : z ≤ 9200000000000000000) : IntKind.u64.wrap z = z := wrapU _ (by omega) (by omega)
theorem wrapII (z : Int) (h1 : 0 ≤ z) (h2 : z ≤ 9200000000000000000) : IntKind.i64.wrap z = z := wrapI _ (by omega) (by omega)
theorem b_rem (k : IntKind) (a b : Int) (h : b ≠ 0) : binF .rem (.int k a) (.int k b) = some (.int k (a.tmod b)) := by simp [binF, h]
theorem b_quo (k : IntKind) (a b : Int) (h : b ≠ 0) : binF .quo (.int k a) (.int k b) = some (.int k (k.wrap (a.tdiv b))) := by simp [binF, h]

/-! ### loops -/
/-- One turn goes on, or returns. -/
def Turn (r next : Option (Ex × St)) (p : Bool) (Q : St → Prop) : Prop := (p = true ∧ r = next) ∨ (p = false ∧ ∃ s, r = some (.ret, s) ∧ Q s)
section
variable {F : Nat → Option RF} {Z : CallF} {live : List Nat} {b : RC}
theorem loop_allN (n : Nat) (st : Nat → St) (P : Nat → Bool) (Q : St → Prop) (hs : ∀ i, i < n → Turn (loop F Z live b (st i)) (loop F Z live b (st (i + 1))) (P i) Q) :
    Turn (loop F Z live b (st 0)) (loop F Z live b (st n)) ((List.range n).all P) Q := by
  induction n with
  | zero => exact .inl ⟨rfl, rfl⟩
  | succ n ih =>
    have hl : (List.range (n + 1)).all P = ((List.range n).all P && P n) := by rw [List.range_succ, List.all_append]; simp
    rcases ih fun i hi => hs i (by omega) with ⟨h1, h2⟩ | ⟨h1, h2⟩
    · rcases hs n (by omega) with ⟨h3, h4⟩ | ⟨h3, s, h4, h5⟩
      · exact .inl ⟨by rw [hl, h1, h3]; rfl, h2.trans h4⟩
      · exact .inr ⟨by rw [hl, h1, h3]; rfl, s, h2.trans h4, h5⟩
    · exact .inr ⟨by rw [hl, h1]; rfl, h2⟩
theorem loop_all {α : Type} (xs : List α) (st : Nat → St) (P : α → Bool) (Q : St → Prop) (hs : ∀ i (hi : i < xs.length), Turn (loop F Z live b (st i)) (loop F Z live b (st (i + 1))) (P xs[i]) Q) :
    Turn (loop F Z live b (st 0)) (loop F Z live b (st xs.length)) (xs.all P) Q := by
  have he : xs.all P = (List.range xs.length).all (fun i => (xs[i]?).all P) := by
    rw [Bool.eq_iff_iff, List.all_eq_true, List.all_eq_true]
    constructor
    · intro h i hi
      have hi' : i < xs.length := by simpa using hi
      rw [List.getElem?_eq_getElem hi']
      exact h _ (List.getElem_mem hi')
    · intro h a ha
      obtain ⟨i, hi, rfl⟩ := List.mem_iff_getElem.1 ha
      have := h i (by simpa using hi)
      rwa [List.getElem?_eq_getElem hi] at this
  rw [he]
  exact loop_allN _ _ _ _ fun i hi => by rw [List.getElem?_eq_getElem hi]; exact hs i hi
theorem all_same {α : Type} [DecidableEq α] {xs ys : List α} (he : xs.length = ys.length) : (List.range xs.length).all (fun i => decide (xs[i]? = ys[i]?)) = decide (xs = ys) := by
  rw [Bool.eq_iff_iff, List.all_eq_true, decide_eq_true_eq]
  constructor
  · intro hall
    apply List.ext_getElem? 
    intro i
    by_cases hi : i < xs.length
    · simpa using hall i (by simpa using hi)
    · rw [List.getElem?_eq_none (by omega), List.getElem?_eq_none (by omega)]
  · rintro rfl i _; simp
/-- A loop of so many turns, none of which leaves. -/
theorem loop_goes (n : Nat) (I : Nat → St → Prop) (hs : ∀ i s, i < n → I i s → ∃ s', I (i + 1) s' ∧ loop F Z live b s = loop F Z live b s') {s : St} (h0 : I 0 s) : ∃ s', I n s' ∧ loop F Z live b s = loop F Z live b s' := by
  induction n with
  | zero => exact ⟨s, h0, rfl⟩
  | succ n ih =>
    obtain ⟨s1, h1, h2⟩ := ih fun i s hi => hs i s (by omega)
    obtain ⟨s2, h3, h4⟩ := hs n s1 (by omega) h1
    exact ⟨s2, h3, h2.trans h4⟩
theorem loop_goesF (n : Nat) (st : Nat → St) (hs : ∀ i, i < n → loop F Z live b (st i) = loop F Z live b (st (i + 1))) : loop F Z live b (st 0) = loop F Z live b (st n) := by
  induction n with
  | zero => rfl
  | succ n ih => exact (ih fun i hi => hs i (by omega)).trans (hs n (by omega))
end
end Go.Proofs.Ytcdlbjomdokmiaa.A
/- Calls with the floor raised. -/
namespace Go.Proofs.Ytcdlbjomdokmiaa.A
open Go
set_option linter.unusedSimpArgs false
set_option linter.unusedVariables false
theorem On.quiet {h h' : Heap} (o : On { h with floor := h.next } h') : On h { h' with floor := h.floor } := ⟨⟨o.ext.1, o.ext.2⟩, rfl⟩
theorem On.up (h : Heap) : On h { h with floor := h.floor } := ⟨⟨Nat.le_refl _, fun _ _ => rfl⟩, rfl⟩
theorem SlR.up {α : Type} {R : Rel α} {tag : Nat} {h : Heap} {x : Cell} {xs : List α} {fp : List Nat} (w : SlR tag R h x xs fp) (ok : RelOk R) (n : Nat) : SlR tag R { h with floor := n } x xs fp := w.mv ok (Nat.le_refl _) fun _ _ => rfl
/-- A call with the floor raised, and the heap behind it as one thing. -/
theorem quietly {F : Nat → Option RF} {Z : CallF} {h h' : Heap} {f : Nat} {vs : List V} {r : V} (e : call F Z f vs ⟨h.next, h.next, h.get⟩ = some (r, h')) (o : On ⟨h.next, h.next, h.get⟩ h') :
    ∃ h' g, call F Z f vs ⟨h.next, h.next, h.get⟩ = some (r, h') ∧ Heap.mk h'.next h.floor h'.get = g ∧ On h g := ⟨h', _, e, rfl, ⟨⟨o.ext.1, o.ext.2⟩, rfl⟩⟩
theorem RelOk.up {α : Type} {R : Rel α} (ok : RelOk R) {h : Heap} {cs : List Cell} {a : α} {fp : List Nat} (w : R h cs a fp) (n : Nat) : R ⟨h.next, n, h.get⟩ cs a fp := ok.mv w (Nat.le_refl _) fun _ _ => rfl
end Go.Proofs.Ytcdlbjomdokmiaa.A
/- Views: slices that show a part of a row. -/
namespace Go.Proofs.Ytcdlbjomdokmiaa.A
open Go
set_option linter.unusedSimpArgs false
set_option linter.unusedVariables false
def Cell.off : Cell → Nat
  | .sl _ _ off _ => off
  | _ => 0
/-- A cell shows a list, out of a row that may be longer. -/
def Vw {α : Type} (tag : Nat) (enc : α → List Cell) (h : Heap) (x : Cell) (xs : List α) : Prop :=
  xs.length ≤ maxLen ∧ ((x = .nil ∧ xs = []) ∨ ∃ id off rows, x = .sl tag id off xs.length ∧ h.get id = some rows ∧ id < h.next ∧ ∀ i (hi : i < xs.length), rows[off + i]? = some (enc xs[i]))
section
variable {α : Type} {enc : α → List Cell} {h h' : Heap} {tag : Nat} {x : Cell} {xs : List α} {fp : List Nat}
theorem Vw.le (w : Vw tag enc h x xs) : xs.length ≤ maxLen := w.1
theorem Vw.le2 (w : Vw tag enc h x xs) : xs.length ≤ 9223372036854775807 := by have := w.1; unfold maxLen at this; omega
theorem Vw.len (w : Vw tag enc h x xs) : lenR (some x) = some (.int .i64 (xs.length : Nat)) := by
  rcases w with ⟨_, ⟨rfl, rfl⟩ | ⟨id, off, rows, rfl, _⟩⟩ <;> rfl
theorem Vw.on (w : Vw tag enc h x xs) (o : On h h') : Vw tag enc h' x xs := by
  rcases w with ⟨hl, h0 | ⟨id, off, rows, h1, h2, h3, h4⟩⟩
  · exact ⟨hl, .inl h0⟩
  · exact ⟨hl, .inr ⟨id, off, rows, h1, (o.ext.2 id h3).trans h2, Nat.lt_of_lt_of_le h3 o.ext.1, h4⟩⟩
theorem Vw.up (w : Vw tag enc h x xs) (n : Nat) : Vw tag enc ⟨h.next, n, h.get⟩ x xs := by
  rcases w with ⟨hl, h0 | ⟨id, off, rows, h1, h2, h3, h4⟩⟩
  · exact ⟨hl, .inl h0⟩
  · exact ⟨hl, .inr ⟨id, off, rows, h1, h2, h3, h4⟩⟩
theorem Vw.idx (w : Vw tag enc h x xs) {i : Nat} (hi : i < xs.length) : idxR tag (some x) (some (i : Int)) = some (.ptr x.sid (x.off + i) 0) := by
  rcases w with ⟨_, ⟨rfl, rfl⟩ | ⟨id, off, rows, rfl, _⟩⟩
  · exact absurd hi (Nat.not_lt_zero _)
  · rw [idxR_s, if_pos (by omega)]; simp [Cell.sid, Cell.off]
theorem Vw.load (w : Vw tag enc h x xs) {i : Nat} (hi : i < xs.length) (j n : Nat) : loadP h x.sid (x.off + i) j n = cut? (enc xs[i]) j n := by
  rcases w with ⟨_, ⟨rfl, rfl⟩ | ⟨id, off, rows, rfl, h2, h3, h4⟩⟩
  · exact absurd hi (Nat.not_lt_zero _)
  · simp [loadP, rowOf, Cell.sid, Cell.off, h2, h4 i hi]
theorem SlR.vw (w : SlR tag (Fl enc) h x xs fp) : Vw tag enc h x xs := by
  refine ⟨w.le, ?_⟩
  rcases w.flat with ⟨h1, h2, _⟩ | ⟨h1, h2, h3, _⟩
  · exact .inl ⟨h1, h2⟩
  · refine .inr ⟨x.sid, 0, _, h1, h2, h3, fun i hi => ?_⟩
    rw [Nat.zero_add, List.getElem?_map, List.getElem?_eq_getElem hi]; rfl
theorem Vw.cut (w : Vw tag enc h x xs) {a b : Nat} (hab : a ≤ b) (hb : b ≤ xs.length) {lo hi : Option Int} (hlo : lo.getD 0 = a) (hhi : hi.getD xs.length = b) :
    ∃ y, cutR tag (some x) (some lo) (some hi) = some y ∧ Vw tag enc h y ((xs.take b).drop a) := by
  have hle := w.le
  rcases w with ⟨_, ⟨rfl, rfl⟩ | ⟨id, off, rows, rfl, h2, h3, h4⟩⟩
  · simp only [List.length_nil, Nat.le_zero] at hb
    subst hb
    obtain rfl : a = 0 := by omega
    refine ⟨.nil, ?_, ⟨by simp, .inl ⟨rfl, by simp⟩⟩⟩
    rw [cutR_n, if_pos ⟨by simpa using hlo, by simpa using hhi⟩]
  · have hl : ((xs.take b).drop a).length = b - a := by simp; omega
    refine ⟨.sl tag id (off + a) (b - a), ?_, ⟨by rw [hl]; omega, .inr ⟨id, off + a, rows, by rw [hl], h2, h3, fun i hi => ?_⟩⟩⟩
    · rw [cutR_s, hlo, hhi, if_pos (by omega)]; simp
    · rw [hl] at hi
      have := h4 (a + i) (by omega)
      rw [Nat.add_assoc, this]
      simp
theorem Vw.pre (w : Vw tag enc h x xs) {b : Nat} (hb : b ≤ xs.length) : ∃ y, cutR tag (some x) (some none) (some (some (b : Int))) = some y ∧ Vw tag enc h y (xs.take b) := by
  obtain ⟨y, h1, h2⟩ := w.cut (a := 0) (b := b) (Nat.zero_le _) hb (lo := none) (hi := some (b : Int)) rfl rfl
  exact ⟨y, h1, by simpa using h2⟩
end
end Go.Proofs.Ytcdlbjomdokmiaa.A
/- The data of a Account, and its cells. -/
namespace Go.Proofs.Ytcdlbjomdokmiaa.A
open Go
set_option linter.unusedSimpArgs false
set_option linter.unusedVariables false
structure Account where
  id : Int
  bal : Int
  hold : Int
  due : Int
  tx : Int
  deriving DecidableEq
namespace Account
def enc (t : Account) : List Cell := [.int .u64 t.id, .int .u64 t.bal, .int .u64 t.hold, .int .u64 t.due, .int .i64 t.tx]
theorem len (t : Account) : t.enc.length = 5 := rfl
theorem tak (t : Account) : t.enc.take 5 = t.enc := rfl
def none_ : Account := ⟨0, 0, 0, 0, 0⟩
/-- The numbers are those of the machine. -/
structure Ok (t : Account) : Prop where
  id : 0 ≤ t.id ∧ t.id ≤ 18446744073709551615
  bal : 0 ≤ t.bal ∧ t.bal ≤ 18446744073709551615
  hold : 0 ≤ t.hold ∧ t.hold ≤ 18446744073709551615
  due : 0 ≤ t.due ∧ t.due ≤ 18446744073709551615
  tx : -9223372036854775808 ≤ t.tx ∧ t.tx ≤ 9223372036854775807
end Account
theorem Wf.isAccount {h : Heap} {n : Nat} {cs : List Cell} (w : Wf h (n + 2) shAccount cs) : ∃ t : Account, cs = t.enc ∧ t.Ok := by
  obtain ⟨_, _, rfl, _, ⟨id0, rfl, h0⟩, _, _, rfl, _, ⟨bal0, rfl, h1⟩, _, _, rfl, _, ⟨hold0, rfl, h2⟩, _, _, rfl, _, ⟨due0, rfl, h3⟩, _, _, rfl, _, ⟨tx0, rfl, h4⟩, rfl⟩ := w
  exact ⟨⟨id0, bal0, hold0, due0, tx0⟩, rfl, ⟨wfU h0, wfU h1, wfU h2, wfU h3, wfI h4⟩⟩
theorem Wf.isAccountS {h : Heap} {n : Nat} {x : Cell} (w : Wf h (n + 3) shAccountS [x]) : ∃ xs fp, SlR 12 (Fl Account.enc) h x xs fp ∧ ∀ t, t ∈ xs → t.Ok :=
  SlR.ofWf (fun r hr => by obtain ⟨t, rfl, ht⟩ := Wf.isAccount hr.2; exact ⟨t, [], ⟨rfl, rfl⟩, ht⟩) w
theorem Wf.isAccountS' {h : Heap} {n : Nat} {a : List Cell} (w : Wf h (n + 3) shAccountS a) : ∃ x xs fp, a = [x] ∧ SlR 12 (Fl Account.enc) h x xs fp ∧ ∀ t, t ∈ xs → t.Ok := by
  have hx : ∃ x, a = [x] := by rcases w with w | ⟨_, _, w, _⟩ <;> exact ⟨_, w⟩
  obtain ⟨x, rfl⟩ := hx
  obtain ⟨xs, fp, v, ok⟩ := Wf.isAccountS w
  exact ⟨x, xs, fp, rfl, v, ok⟩
end Go.Proofs.Ytcdlbjomdokmiaa.A
/- The compact code of some functions: laws.szAccountS, laws.toAccountS, laws.eqAccountS, laws.toAccount, laws.eqAccount, laws.markAccountS, laws.heldAccountS. -/
namespace Go.Proofs.Ytcdlbjomdokmiaa.A
open Go
/-- laws.szAccountS -/
def r136 : RF :=
 ⟨2, [.tmp 4],
 .seq (.reg [⟨none, .mov 4 (.k (.int .i64 0))⟩])
 (.seq (.reg [⟨none, .mov 5 (.t 1)⟩,
  ⟨none, .mov 6 (.t 0)⟩,
  ⟨none, .len 7 (.t 6)⟩,
  ⟨none, .bin 8 .sub (.t 5) (.t 7)⟩,
  ⟨none, .mov 1 (.t 8)⟩])
 (.seq (.seq (.reg [⟨none, .mov 9 (.t 1)⟩,
   ⟨none, .bin 10 .lss (.t 9) (.k (.int .i64 0))⟩])
  (.cond (.t 10)
  (.seq (.reg [⟨none, .mov 4 (.k (.int .i64 (-1)))⟩])
   (.ret))
  (.skip)))
 (.seq (.reg [⟨none, .mov 11 (.t 1)⟩,
  ⟨none, .mov 4 (.t 11)⟩])
 (.ret))))⟩
/-- A loop of laws.toAccountS. -/
def r137L0 : RC :=
 .seq (.seq (.reg [⟨none, .mov 8 (.t 4)⟩,
      ⟨none, .mov 9 (.t 0)⟩,
      ⟨none, .len 10 (.t 9)⟩,
      ⟨none, .bin 11 .lss (.t 8) (.t 10)⟩])
     (.cond (.t 11)
     (.skip)
     (.exit 0)))
    (.seq (.block 1 (.reg [⟨none, .mov 14 (.t 3)⟩,
      ⟨none, .mov 15 (.t 4)⟩,
      ⟨none, .mov 16 (.t 0)⟩,
      ⟨none, .mov 17 (.t 4)⟩,
      ⟨none, .idx 18 12 (.t 16) (.t 17)⟩,
      ⟨none, .load 19 18 5 true⟩,
      ⟨none, .call (some 20) 141 [(.t 19)] false⟩,
      ⟨none, .idx 21 11 (.t 14) (.t 15)⟩,
      ⟨none, .store 21 5 (.t 20)⟩]))
    (.reg [⟨none, .mov 12 (.t 4)⟩,
    ⟨none, .bin 13 .add (.t 12) (.k (.int .i64 1))⟩,
    ⟨none, .mov 4 (.t 13)⟩]))
/-- laws.toAccountS -/
def r137 : RF :=
 ⟨1, [.tmp 2],
 .seq (.reg [⟨none, .mov 2 (.k (.nil))⟩])
 (.seq (.reg [⟨none, .mov 5 (.t 0)⟩,
  ⟨none, .len 6 (.t 5)⟩,
  ⟨none, .mks 7 11 40 [.int .u64 0, .int .u64 0, .int .u64 0, .int .u64 0, .int .i64 0] (.t 6) (.t 6)⟩,
  ⟨none, .mov 3 (.t 7)⟩])
 (.seq (.seq (.reg [⟨none, .mov 4 (.k (.int .i64 0))⟩])
  (.block 0 (.loop [0, 3, 4]
   r137L0)))
 (.seq (.reg [⟨none, .mov 22 (.t 3)⟩,
  ⟨none, .mov 2 (.t 22)⟩])
 (.ret))))⟩
/-- A loop of laws.eqAccountS. -/
def r139L0 : RC :=
 .seq (.seq (.reg [⟨none, .mov 11 (.t 5)⟩,
      ⟨none, .mov 12 (.t 0)⟩,
      ⟨none, .len 13 (.t 12)⟩,
      ⟨none, .bin 14 .lss (.t 11) (.t 13)⟩])
     (.cond (.t 14)
     (.skip)
     (.exit 0)))
    (.seq (.block 1 (.seq (.reg [⟨none, .chk []⟩,
       ⟨none, .mov 17 (.t 0)⟩,
       ⟨none, .mov 18 (.t 5)⟩,
       ⟨none, .idx 19 11 (.t 17) (.t 18)⟩,
       ⟨none, .mov 21 (.t 1)⟩,
       ⟨none, .mov 22 (.t 5)⟩,
       ⟨none, .idx 23 11 (.t 21) (.t 22)⟩,
       ⟨none, .load 20 19 5 true⟩,
       ⟨none, .load 24 23 5 true⟩,
       ⟨none, .call (some 25) 142 [(.t 20), (.t 24)] true⟩,
       ⟨none, .not 26 (.t 25)⟩])
      (.cond (.t 26)
      (.seq (.reg [⟨none, .mov 4 (.k (.bool false))⟩])
       (.ret))
      (.skip))))
    (.reg [⟨none, .mov 15 (.t 5)⟩,
    ⟨none, .bin 16 .add (.t 15) (.k (.int .i64 1))⟩,
    ⟨none, .mov 5 (.t 16)⟩]))
/-- laws.eqAccountS -/
def r139 : RF :=
 ⟨2, [.tmp 4],
 .seq (.reg [⟨none, .mov 4 (.k (.bool false))⟩])
 (.seq (.seq (.reg [⟨none, .mov 6 (.t 0)⟩,
   ⟨none, .len 7 (.t 6)⟩,
   ⟨none, .mov 8 (.t 1)⟩,
   ⟨none, .len 9 (.t 8)⟩,
   ⟨none, .bin 10 .neq (.t 7) (.t 9)⟩])
  (.cond (.t 10)
  (.seq (.reg [⟨none, .mov 4 (.k (.bool false))⟩])
   (.ret))
  (.skip)))
 (.seq (.seq (.reg [⟨none, .mov 5 (.k (.int .i64 0))⟩])
  (.block 0 (.loop [0, 1, 5]
   r139L0)))
 (.seq (.reg [⟨none, .mov 4 (.k (.bool true))⟩])
 (.ret))))⟩
/-- laws.toAccount -/
def r141 : RF :=
 ⟨1, [.cell 2 5 true],
 .seq (.reg [⟨none, .locb 1 (.t 0)⟩,
  ⟨none, .loc 2 [.int .u64 0, .int .u64 0, .int .u64 0, .int .u64 0, .int .i64 0]⟩])
 (.seq (.reg [⟨none, .loc 3 [.int .u64 0, .int .u64 0, .int .u64 0, .int .u64 0, .int .i64 0]⟩])
 (.seq (.reg [⟨none, .fad 4 1 0⟩,
  ⟨none, .load 5 4 1 false⟩,
  ⟨none, .fad 6 3 0⟩,
  ⟨none, .store 6 1 (.t 5)⟩])
 (.seq (.reg [⟨none, .fad 7 1 1⟩,
  ⟨none, .load 8 7 1 false⟩,
  ⟨none, .fad 9 3 1⟩,
  ⟨none, .store 9 1 (.t 8)⟩])
 (.seq (.reg [⟨none, .fad 10 1 2⟩,
  ⟨none, .load 11 10 1 false⟩,
  ⟨none, .fad 12 3 2⟩,
  ⟨none, .store 12 1 (.t 11)⟩])
 (.seq (.reg [⟨none, .fad 13 1 3⟩,
  ⟨none, .load 14 13 1 false⟩,
  ⟨none, .fad 15 3 3⟩,
  ⟨none, .store 15 1 (.t 14)⟩])
 (.seq (.reg [⟨none, .fad 16 1 4⟩,
  ⟨none, .load 17 16 1 false⟩,
  ⟨none, .fad 18 3 4⟩,
  ⟨none, .store 18 1 (.t 17)⟩])
 (.seq (.reg [⟨none, .load 19 3 5 true⟩,
  ⟨none, .store 2 5 (.t 19)⟩])
 (.ret))))))))⟩
/-- laws.eqAccount -/
def r142 : RF :=
 ⟨2, [.tmp 4],
 .seq (.reg [⟨none, .locb 2 (.t 0)⟩,
  ⟨none, .locb 3 (.t 1)⟩,
  ⟨none, .mov 4 (.k (.bool false))⟩])
 (.seq (.seq (.reg [⟨none, .fad 5 2 0⟩,
   ⟨none, .load 6 5 1 false⟩,
   ⟨none, .fad 7 3 0⟩,
   ⟨none, .load 8 7 1 false⟩,
   ⟨none, .bin 9 .neq (.t 6) (.t 8)⟩])
  (.cond (.t 9)
  (.seq (.reg [⟨none, .mov 4 (.k (.bool false))⟩])
   (.ret))
  (.skip)))
 (.seq (.seq (.reg [⟨none, .fad 10 2 1⟩,
   ⟨none, .load 11 10 1 false⟩,
   ⟨none, .fad 12 3 1⟩,
   ⟨none, .load 13 12 1 false⟩,
   ⟨none, .bin 14 .neq (.t 11) (.t 13)⟩])
  (.cond (.t 14)
  (.seq (.reg [⟨none, .mov 4 (.k (.bool false))⟩])
   (.ret))
  (.skip)))
 (.seq (.seq (.reg [⟨none, .fad 15 2 2⟩,
   ⟨none, .load 16 15 1 false⟩,
   ⟨none, .fad 17 3 2⟩,
   ⟨none, .load 18 17 1 false⟩,
   ⟨none, .bin 19 .neq (.t 16) (.t 18)⟩])
  (.cond (.t 19)
  (.seq (.reg [⟨none, .mov 4 (.k (.bool false))⟩])
   (.ret))
  (.skip)))
 (.seq (.seq (.reg [⟨none, .fad 20 2 3⟩,
   ⟨none, .load 21 20 1 false⟩,
   ⟨none, .fad 22 3 3⟩,
   ⟨none, .load 23 22 1 false⟩,
   ⟨none, .bin 24 .neq (.t 21) (.t 23)⟩])
  (.cond (.t 24)
  (.seq (.reg [⟨none, .mov 4 (.k (.bool false))⟩])
   (.ret))
  (.skip)))
 (.seq (.seq (.reg [⟨none, .fad 25 2 4⟩,
   ⟨none, .load 26 25 1 false⟩,
   ⟨none, .fad 27 3 4⟩,
   ⟨none, .load 28 27 1 false⟩,
   ⟨none, .bin 29 .neq (.t 26) (.t 28)⟩])
  (.cond (.t 29)
  (.seq (.reg [⟨none, .mov 4 (.k (.bool false))⟩])
   (.ret))
  (.skip)))
 (.seq (.reg [⟨none, .mov 4 (.k (.bool true))⟩])
 (.ret)))))))⟩
/-- A loop of laws.markAccountS. -/
def r261L0 : RC :=
 .seq (.seq (.reg [⟨none, .mov 6 (.t 5)⟩,
      ⟨none, .mov 7 (.t 0)⟩,
      ⟨none, .len 8 (.t 7)⟩,
      ⟨none, .bin 9 .lss (.t 6) (.t 8)⟩])
     (.cond (.t 9)
     (.skip)
     (.exit 0)))
    (.seq (.block 1 (.seq (.reg [⟨none, .mov 12 (.t 0)⟩,
       ⟨none, .mov 13 (.t 5)⟩,
       ⟨none, .mov 14 (.t 1)⟩,
       ⟨none, .conv 15 .u64 (.t 14)⟩,
       ⟨none, .idx 16 11 (.t 12) (.t 13)⟩,
       ⟨none, .fad 17 16 0⟩,
       ⟨none, .store 17 1 (.t 15)⟩])
      (.seq (.reg [⟨none, .mov 18 (.t 1)⟩,
       ⟨none, .bin 19 .add (.t 18) (.k (.int .i64 1))⟩,
       ⟨none, .mov 1 (.t 19)⟩])
      (.seq (.reg [⟨none, .mov 20 (.t 0)⟩,
       ⟨none, .mov 21 (.t 5)⟩,
       ⟨none, .mov 22 (.t 1)⟩,
       ⟨none, .conv 23 .u64 (.t 22)⟩,
       ⟨none, .idx 24 11 (.t 20) (.t 21)⟩,
       ⟨none, .fad 25 24 1⟩,
       ⟨none, .store 25 1 (.t 23)⟩])
      (.seq (.reg [⟨none, .mov 26 (.t 1)⟩,
       ⟨none, .bin 27 .add (.t 26) (.k (.int .i64 1))⟩,
       ⟨none, .mov 1 (.t 27)⟩])
      (.seq (.reg [⟨none, .mov 28 (.t 0)⟩,
       ⟨none, .mov 29 (.t 5)⟩,
       ⟨none, .mov 30 (.t 1)⟩,
       ⟨none, .conv 31 .u64 (.t 30)⟩,
       ⟨none, .idx 32 11 (.t 28) (.t 29)⟩,
       ⟨none, .fad 33 32 2⟩,
       ⟨none, .store 33 1 (.t 31)⟩])
      (.seq (.reg [⟨none, .mov 34 (.t 1)⟩,
       ⟨none, .bin 35 .add (.t 34) (.k (.int .i64 1))⟩,
       ⟨none, .mov 1 (.t 35)⟩])
      (.seq (.reg [⟨none, .mov 36 (.t 0)⟩,
       ⟨none, .mov 37 (.t 5)⟩,
       ⟨none, .mov 38 (.t 1)⟩,
       ⟨none, .conv 39 .u64 (.t 38)⟩,
       ⟨none, .idx 40 11 (.t 36) (.t 37)⟩,
       ⟨none, .fad 41 40 3⟩,
       ⟨none, .store 41 1 (.t 39)⟩])
      (.seq (.reg [⟨none, .mov 42 (.t 1)⟩,
       ⟨none, .bin 43 .add (.t 42) (.k (.int .i64 1))⟩,
       ⟨none, .mov 1 (.t 43)⟩])
      (.seq (.reg [⟨none, .mov 44 (.t 0)⟩,
       ⟨none, .mov 45 (.t 5)⟩,
       ⟨none, .mov 46 (.t 1)⟩,
       ⟨none, .idx 47 11 (.t 44) (.t 45)⟩,
       ⟨none, .fad 48 47 4⟩,
       ⟨none, .store 48 1 (.t 46)⟩])
      (.reg [⟨none, .mov 49 (.t 1)⟩,
      ⟨none, .bin 50 .add (.t 49) (.k (.int .i64 1))⟩,
      ⟨none, .mov 1 (.t 50)⟩])))))))))))
    (.reg [⟨none, .mov 10 (.t 5)⟩,
    ⟨none, .bin 11 .add (.t 10) (.k (.int .i64 1))⟩,
    ⟨none, .mov 5 (.t 11)⟩]))
/-- laws.markAccountS -/
def r261 : RF :=
 ⟨2, [.tmp 4],
 .seq (.reg [⟨none, .mov 4 (.k (.int .i64 0))⟩])
 (.seq (.seq (.reg [⟨none, .mov 5 (.k (.int .i64 0))⟩])
  (.block 0 (.loop [0, 1, 5]
   r261L0)))
 (.seq (.reg [⟨none, .mov 51 (.t 1)⟩,
  ⟨none, .mov 4 (.t 51)⟩])
 (.ret)))⟩
/-- A loop of laws.heldAccountS. -/
def r262L0 : RC :=
 .seq (.seq (.reg [⟨none, .mov 6 (.t 5)⟩,
      ⟨none, .mov 7 (.t 0)⟩,
      ⟨none, .len 8 (.t 7)⟩,
      ⟨none, .bin 9 .lss (.t 6) (.t 8)⟩])
     (.cond (.t 9)
     (.skip)
     (.exit 0)))
    (.seq (.block 1 (.seq (.seq (.reg [⟨none, .mov 12 (.t 0)⟩,
        ⟨none, .mov 13 (.t 5)⟩,
        ⟨none, .idx 14 11 (.t 12) (.t 13)⟩,
        ⟨none, .fad 15 14 0⟩,
        ⟨none, .load 16 15 1 false⟩,
        ⟨none, .mov 17 (.t 1)⟩,
        ⟨none, .conv 18 .u64 (.t 17)⟩,
        ⟨none, .bin 19 .neq (.t 16) (.t 18)⟩])
       (.cond (.t 19)
       (.seq (.reg [⟨none, .mov 4 (.k (.int .i64 (-1)))⟩])
        (.ret))
       (.skip)))
      (.seq (.reg [⟨none, .mov 20 (.t 1)⟩,
       ⟨none, .bin 21 .add (.t 20) (.k (.int .i64 1))⟩,
       ⟨none, .mov 1 (.t 21)⟩])
      (.seq (.seq (.reg [⟨none, .mov 22 (.t 0)⟩,
        ⟨none, .mov 23 (.t 5)⟩,
        ⟨none, .idx 24 11 (.t 22) (.t 23)⟩,
        ⟨none, .fad 25 24 1⟩,
        ⟨none, .load 26 25 1 false⟩,
        ⟨none, .mov 27 (.t 1)⟩,
        ⟨none, .conv 28 .u64 (.t 27)⟩,
        ⟨none, .bin 29 .neq (.t 26) (.t 28)⟩])
       (.cond (.t 29)
       (.seq (.reg [⟨none, .mov 4 (.k (.int .i64 (-1)))⟩])
        (.ret))
       (.skip)))
      (.seq (.reg [⟨none, .mov 30 (.t 1)⟩,
       ⟨none, .bin 31 .add (.t 30) (.k (.int .i64 1))⟩,
       ⟨none, .mov 1 (.t 31)⟩])
      (.seq (.seq (.reg [⟨none, .mov 32 (.t 0)⟩,
        ⟨none, .mov 33 (.t 5)⟩,
        ⟨none, .idx 34 11 (.t 32) (.t 33)⟩,
        ⟨none, .fad 35 34 2⟩,
        ⟨none, .load 36 35 1 false⟩,
        ⟨none, .mov 37 (.t 1)⟩,
        ⟨none, .conv 38 .u64 (.t 37)⟩,
        ⟨none, .bin 39 .neq (.t 36) (.t 38)⟩])
       (.cond (.t 39)
       (.seq (.reg [⟨none, .mov 4 (.k (.int .i64 (-1)))⟩])
        (.ret))
       (.skip)))
      (.seq (.reg [⟨none, .mov 40 (.t 1)⟩,
       ⟨none, .bin 41 .add (.t 40) (.k (.int .i64 1))⟩,
       ⟨none, .mov 1 (.t 41)⟩])
      (.seq (.seq (.reg [⟨none, .mov 42 (.t 0)⟩,
        ⟨none, .mov 43 (.t 5)⟩,
        ⟨none, .idx 44 11 (.t 42) (.t 43)⟩,
        ⟨none, .fad 45 44 3⟩,
        ⟨none, .load 46 45 1 false⟩,
        ⟨none, .mov 47 (.t 1)⟩,
        ⟨none, .conv 48 .u64 (.t 47)⟩,
        ⟨none, .bin 49 .neq (.t 46) (.t 48)⟩])
       (.cond (.t 49)
       (.seq (.reg [⟨none, .mov 4 (.k (.int .i64 (-1)))⟩])
        (.ret))
       (.skip)))
      (.seq (.reg [⟨none, .mov 50 (.t 1)⟩,
       ⟨none, .bin 51 .add (.t 50) (.k (.int .i64 1))⟩,
       ⟨none, .mov 1 (.t 51)⟩])
      (.seq (.seq (.reg [⟨none, .mov 52 (.t 0)⟩,
        ⟨none, .mov 53 (.t 5)⟩,
        ⟨none, .idx 54 11 (.t 52) (.t 53)⟩,
        ⟨none, .fad 55 54 4⟩,
        ⟨none, .load 56 55 1 false⟩,
        ⟨none, .mov 57 (.t 1)⟩,
        ⟨none, .bin 58 .neq (.t 56) (.t 57)⟩])
       (.cond (.t 58)
       (.seq (.reg [⟨none, .mov 4 (.k (.int .i64 (-1)))⟩])
        (.ret))
       (.skip)))
      (.reg [⟨none, .mov 59 (.t 1)⟩,
      ⟨none, .bin 60 .add (.t 59) (.k (.int .i64 1))⟩,
      ⟨none, .mov 1 (.t 60)⟩])))))))))))
    (.reg [⟨none, .mov 10 (.t 5)⟩,
    ⟨none, .bin 11 .add (.t 10) (.k (.int .i64 1))⟩,
    ⟨none, .mov 5 (.t 11)⟩]))
/-- laws.heldAccountS -/
def r262 : RF :=
 ⟨2, [.tmp 4],
 .seq (.reg [⟨none, .mov 4 (.k (.int .i64 0))⟩])
 (.seq (.seq (.reg [⟨none, .mov 5 (.k (.int .i64 0))⟩])
  (.block 0 (.loop [0, 1, 5]
   r262L0)))
 (.seq (.reg [⟨none, .mov 61 (.t 1)⟩,
  ⟨none, .mov 4 (.t 61)⟩])
 (.ret)))⟩
/-- The functions of this text, with their numbers. -/
def tLAccount : List (Nat × RF) := [(136, r136), (137, r137), (139, r139), (141, r141), (142, r142), (261, r261), (262, r262)]
end Go.Proofs.Ytcdlbjomdokmiaa.A
/- What the converters of Account compute. -/
namespace Go.Proofs.Ytcdlbjomdokmiaa.A
open Go
set_option linter.unusedSimpArgs false
set_option linter.unusedVariables false
section
variable {F : Nat → Option RF} {Z : CallF} {h : Heap} {x y : Cell} {xs ys : List Account} {fp fq : List Nat}
def Account.zero : List Cell := [.int .u64 0, .int .u64 0, .int .u64 0, .int .u64 0, .int .i64 0]
theorem toAccount_run (hL : Has F tLAccount) (p : Account) (h : Heap) : call F Z 141 [.agg p.enc] h = some (.agg p.enc, h) := by
  rw [call_run F Z (hL.lk (g := 141) rfl) _ _ rfl]
  simp only [Account.enc, run0, run1, run2, run3, run4, noSlot, ownS, ownK, memN, RO.dst, lk, drop, forget, number, Nat.reduceBEq, cut?, splice?, builds, List.length_cons, List.length_nil, List.drop_succ_cons, List.drop_zero, List.take_succ_cons, List.take_zero, List.cons_append, List.nil_append, List.append_nil, List.drop_nil, List.take_nil, Nat.reduceAdd, Nat.reduceLeDiff, Nat.zero_add, Nat.add_zero, ↓reduceIte, Bool.not_true, Bool.not_false, decide_true, decide_false, eq_self, bne_self_eq_false, List.getElem?_cons_zero, List.getElem?_cons_succ, decide_eq_true_eq, Bool.false_eq_true, Bool.true_eq_false, reduceCtorEq, Nat.le_refl]
set_option maxHeartbeats 1000000 in
theorem eqAccount_run (hL : Has F tLAccount) (p q : Account) (h : Heap) : call F Z 142 [.agg p.enc, .agg q.enc] h = some (.c (.bool (decide (p = q))), h) := by
  rw [call_run F Z (hL.lk (g := 142) rfl) _ _ rfl]
  obtain ⟨id1, bal1, hold1, due1, tx1⟩ := p
  obtain ⟨id2, bal2, hold2, due2, tx2⟩ := q
  simp only [Account.enc, run0, run1, run2, run3, run4, noSlot, ownS, ownK, memN, RO.dst, lk, drop, forget, number, Nat.reduceBEq, cut?, splice?, builds, List.length_cons, List.length_nil, List.drop_succ_cons, List.drop_zero, List.take_succ_cons, List.take_zero, List.cons_append, List.nil_append, List.append_nil, List.drop_nil, List.take_nil, Nat.reduceAdd, Nat.reduceLeDiff, Nat.zero_add, Nat.add_zero, ↓reduceIte, Bool.not_true, Bool.not_false, decide_true, decide_false, eq_self, bne_self_eq_false, List.getElem?_cons_zero, List.getElem?_cons_succ, decide_eq_true_eq, Bool.false_eq_true, Bool.true_eq_false, reduceCtorEq, Nat.le_refl]
  (repeat' ((first | (rw [gF_if]; split) | (rw [condC_if]; split) | (rw [pickR_if]; split)) <;> (rename_i hh; (try simp only [Bool.not_eq_true, decide_eq_true_eq] at hh); simp only [hh, run0, run1, run2, run3, run4, noSlot, ownS, ownK, memN, RO.dst, lk, drop, forget, number, Nat.reduceBEq, cut?, splice?, builds, List.length_cons, List.length_nil, List.drop_succ_cons, List.drop_zero, List.take_succ_cons, List.take_zero, List.cons_append, List.nil_append, List.append_nil, List.drop_nil, List.take_nil, Nat.reduceAdd, Nat.reduceLeDiff, Nat.zero_add, Nat.add_zero, ↓reduceIte, Bool.not_true, Bool.not_false, decide_true, decide_false, eq_self, bne_self_eq_false, List.getElem?_cons_zero, List.getElem?_cons_succ, decide_eq_true_eq, Bool.false_eq_true, Bool.true_eq_false, reduceCtorEq, Nat.le_refl]))) <;> refine fin_bool ?_ <;> simp_all <;> (try (intros; omega))
theorem szAccountS_run (hL : Has F tLAccount) (w : SlR 12 (Fl Account.enc) h x xs fp) (left : Int) (h1 : 0 ≤ left) (h2 : left ≤ 1048576) : call F Z 136 [.c x, .c (.int .i64 left)] h = some (.c (.int .i64 (if left - xs.length < 0 then -1 else left - xs.length)), h) := by
  have := w.le2
  rw [call_run F Z (hL.lk (g := 136) rfl) _ _ rfl]
  simp only [run0, run1, run2, run3, run4, noSlot, ownS, ownK, memN, RO.dst, lk, drop, forget, number, Nat.reduceBEq, cut?, splice?, builds, List.length_cons, List.length_nil, List.drop_succ_cons, List.drop_zero, List.take_succ_cons, List.take_zero, List.cons_append, List.nil_append, List.append_nil, List.drop_nil, List.take_nil, Nat.reduceAdd, Nat.reduceLeDiff, Nat.zero_add, Nat.add_zero, ↓reduceIte, Bool.not_true, Bool.not_false, decide_true, decide_false, eq_self, bne_self_eq_false, List.getElem?_cons_zero, List.getElem?_cons_succ, decide_eq_true_eq, Bool.false_eq_true, Bool.true_eq_false, reduceCtorEq, Nat.le_refl, w.len, wrapI (left - xs.length) (by omega) (by omega)]
  (repeat' ((first | (rw [gF_if]; split) | (rw [condC_if]; split) | (rw [pickR_if]; split)) <;> (rename_i hh; (try simp only [Bool.not_eq_true, decide_eq_true_eq] at hh); simp only [hh, run0, run1, run2, run3, run4, noSlot, ownS, ownK, memN, RO.dst, lk, drop, forget, number, Nat.reduceBEq, cut?, splice?, builds, List.length_cons, List.length_nil, List.drop_succ_cons, List.drop_zero, List.take_succ_cons, List.take_zero, List.cons_append, List.nil_append, List.append_nil, List.drop_nil, List.take_nil, Nat.reduceAdd, Nat.reduceLeDiff, Nat.zero_add, Nat.add_zero, ↓reduceIte, Bool.not_true, Bool.not_false, decide_true, decide_false, eq_self, bne_self_eq_false, List.getElem?_cons_zero, List.getElem?_cons_succ, decide_eq_true_eq, Bool.false_eq_true, Bool.true_eq_false, reduceCtorEq, Nat.le_refl]))) <;> simp_all
theorem szAccountS_c (hL : Has F tLAccount) (w : SlR 12 (Fl Account.enc) h x xs fp) (left : Int) (h1 : 0 ≤ left) (h2 : left ≤ 1048576) : ∃ r, call F Z 136 [.c x, .c (.int .i64 left)] h = some (.c (.int .i64 r), h) ∧ r ≤ left ∧ (0 ≤ r → xs.length ≤ 1048576) :=
  ⟨_, szAccountS_run hL w left h1 h2, by split <;> omega, by split <;> omega⟩
theorem toAccount_lit (hL : Has F tLAccount) (id1 bal1 hold1 due1 tx1 : Int) (h : Heap) : call F Z 141 [.agg [.int .u64 id1, .int .u64 bal1, .int .u64 hold1, .int .u64 due1, .int .i64 tx1]] h = some (.agg [.int .u64 id1, .int .u64 bal1, .int .u64 hold1, .int .u64 due1, .int .i64 tx1], h) := toAccount_run hL ⟨id1, bal1, hold1, due1, tx1⟩ h
theorem eqAccount_lit (hL : Has F tLAccount) (id1 bal1 hold1 due1 tx1 id2 bal2 hold2 due2 tx2 : Int) (h : Heap) : call F Z 142 [.agg [.int .u64 id1, .int .u64 bal1, .int .u64 hold1, .int .u64 due1, .int .i64 tx1], .agg [.int .u64 id2, .int .u64 bal2, .int .u64 hold2, .int .u64 due2, .int .i64 tx2]] h = some (.c (.bool (decide ((⟨id1, bal1, hold1, due1, tx1⟩ : Account) = ⟨id2, bal2, hold2, due2, tx2⟩))), h) := eqAccount_run hL ⟨id1, bal1, hold1, due1, tx1⟩ ⟨id2, bal2, hold2, due2, tx2⟩ h
theorem toAccountS_run (hL : Has F tLAccount) (hf : h.floor ≤ h.next) (w : SlR 12 (Fl Account.enc) h x xs fp) (hn : xs.length ≤ 1048576) : call F Z 137 [.c x] h = some (.c (.sl 11 h.next 0 xs.length), h.push (xs.map Account.enc)) := by
  rw [call_run F Z (hL.lk (g := 137) rfl) _ _ rfl]
  simp only [run0, run1, run2, run3, run4, noSlot, ownS, ownK, memN, RO.dst, lk, drop, forget, number, Nat.reduceBEq, cut?, splice?, builds, List.length_cons, List.length_nil, List.drop_succ_cons, List.drop_zero, List.take_succ_cons, List.take_zero, List.cons_append, List.nil_append, List.append_nil, List.drop_nil, List.take_nil, Nat.reduceAdd, Nat.reduceLeDiff, Nat.zero_add, Nat.add_zero, ↓reduceIte, Bool.not_true, Bool.not_false, decide_true, decide_false, eq_self, bne_self_eq_false, List.getElem?_cons_zero, List.getElem?_cons_succ, decide_eq_true_eq, Bool.false_eq_true, Bool.true_eq_false, reduceCtorEq, Nat.le_refl, w.len]
  rw [if_pos (by omega)]
  simp only [run0, run1, run2, run3, run4, noSlot, ownS, ownK, memN, RO.dst, lk, drop, forget, number, Nat.reduceBEq, cut?, splice?, builds, List.length_cons, List.length_nil, List.drop_succ_cons, List.drop_zero, List.take_succ_cons, List.take_zero, List.cons_append, List.nil_append, List.append_nil, List.drop_nil, List.take_nil, Nat.reduceAdd, Nat.reduceLeDiff, Nat.zero_add, Nat.add_zero, ↓reduceIte, Bool.not_true, Bool.not_false, decide_true, decide_false, eq_self, bne_self_eq_false, List.getElem?_cons_zero, List.getElem?_cons_succ, decide_eq_true_eq, Bool.false_eq_true, Bool.true_eq_false, reduceCtorEq, Nat.le_refl, Int.toNat_natCast]
  have key : loop F Z [0, 3, 4] r137L0 ⟨[(0, .c x), (3, .c (.sl 11 h.next 0 xs.length)), (4, .c (.int .i64 (0 : Nat)))], [], [], h.push (fillR Account.enc Account.zero xs 0)⟩ = loop F Z [0, 3, 4] r137L0 ⟨[(0, .c x), (3, .c (.sl 11 h.next 0 xs.length)), (4, .c (.int .i64 (xs.length : Nat)))], [], [], h.push (fillR Account.enc Account.zero xs xs.length)⟩ :=
    loop_goesF xs.length (fun i => ⟨[(0, .c x), (3, .c (.sl 11 h.next 0 xs.length)), (4, .c (.int .i64 (i : Nat)))], [], [], h.push (fillR Account.enc Account.zero xs i)⟩) fun i hi => by
      have w' := w.mono (Fl.ok _) (HExt.push h (fillR Account.enc Account.zero xs i))
      have hlt : (i : Int) < xs.length := by omega
      have h0 : (0 : Int) ≤ i := by omega
      rw [loop_run]
      simp only [r137L0, run0, run1, run2, run3, run4, noSlot, ownS, ownK, memN, RO.dst, lk, drop, forget, number, Nat.reduceBEq, cut?, splice?, builds, List.length_cons, List.length_nil, List.drop_succ_cons, List.drop_zero, List.take_succ_cons, List.take_zero, List.cons_append, List.nil_append, List.append_nil, List.drop_nil, List.take_nil, Nat.reduceAdd, Nat.reduceLeDiff, Nat.zero_add, Nat.add_zero, ↓reduceIte, Bool.not_true, Bool.not_false, decide_true, decide_false, eq_self, bne_self_eq_false, List.getElem?_cons_zero, List.getElem?_cons_succ, decide_eq_true_eq, Bool.false_eq_true, Bool.true_eq_false, reduceCtorEq, Nat.le_refl, w.len, hlt, w.idx hi, w'.load hi, Account.len, Account.tak, toAccount_run hL, h0, and_self, Int.toNat_natCast, storeP_push hf (fillR_get Account.enc Account.zero xs hi) (Account.len xs[i]), wrapS i (by omega)]
      rw [← fillR_set Account.enc Account.zero xs hi]
  rw [fillR_0] at key
  rw [fillR_n] at key
  rw [show ((0 : Nat) : Int) = 0 from rfl] at key
  simp only [Account.zero] at key
  rw [key, loop_run]
  have hlt : ¬ (xs.length : Int) < xs.length := by omega
  simp only [r137L0, run0, run1, run2, run3, run4, noSlot, ownS, ownK, memN, RO.dst, lk, drop, forget, number, Nat.reduceBEq, cut?, splice?, builds, List.length_cons, List.length_nil, List.drop_succ_cons, List.drop_zero, List.take_succ_cons, List.take_zero, List.cons_append, List.nil_append, List.append_nil, List.drop_nil, List.take_nil, Nat.reduceAdd, Nat.reduceLeDiff, Nat.zero_add, Nat.add_zero, ↓reduceIte, Bool.not_true, Bool.not_false, decide_true, decide_false, eq_self, bne_self_eq_false, List.getElem?_cons_zero, List.getElem?_cons_succ, decide_eq_true_eq, Bool.false_eq_true, Bool.true_eq_false, reduceCtorEq, Nat.le_refl, w.len, hlt]
theorem toAccountS_c (hL : Has F tLAccount) (hf : h.floor ≤ h.next) (w : SlR 12 (Fl Account.enc) h x xs fp) (hn : xs.length ≤ 1048576) : ∃ y h' fq, call F Z 137 [.c x] h = some (.c y, h') ∧ On h h' ∧ SlR 11 (Fl Account.enc) h' y xs fq ∧ Fre h fq :=
  ⟨_, _, _, toAccountS_run hL hf w hn, On.push _ _, SlR.ofFlat w.le (push_get _ _) (by rw [push_next]; omega), Fre.one h⟩
theorem eqAccountS_run (hL : Has F tLAccount) (w : SlR 11 (Fl Account.enc) h x xs fp) (v : SlR 11 (Fl Account.enc) h y ys fq) : call F Z 139 [.c x, .c y] h = some (.c (.bool (decide (xs = ys))), h) := by
  have hw := w.le2
  have hv := v.le2
  rw [call_run F Z (hL.lk (g := 139) rfl) _ _ rfl]
  simp only [run0, run1, run2, run3, run4, noSlot, ownS, ownK, memN, RO.dst, lk, drop, forget, number, Nat.reduceBEq, cut?, splice?, builds, List.length_cons, List.length_nil, List.drop_succ_cons, List.drop_zero, List.take_succ_cons, List.take_zero, List.cons_append, List.nil_append, List.append_nil, List.drop_nil, List.take_nil, Nat.reduceAdd, Nat.reduceLeDiff, Nat.zero_add, Nat.add_zero, ↓reduceIte, Bool.not_true, Bool.not_false, decide_true, decide_false, eq_self, bne_self_eq_false, List.getElem?_cons_zero, List.getElem?_cons_succ, decide_eq_true_eq, Bool.false_eq_true, Bool.true_eq_false, reduceCtorEq, Nat.le_refl, w.len, v.len]
  rw [condC_if]
  split
  · rename_i hne
    have : xs ≠ ys := by rintro rfl; simp at hne
    simp only [run0, run1, run2, run3, run4, noSlot, ownS, ownK, memN, RO.dst, lk, drop, forget, number, Nat.reduceBEq, cut?, splice?, builds, List.length_cons, List.length_nil, List.drop_succ_cons, List.drop_zero, List.take_succ_cons, List.take_zero, List.cons_append, List.nil_append, List.append_nil, List.drop_nil, List.take_nil, Nat.reduceAdd, Nat.reduceLeDiff, Nat.zero_add, Nat.add_zero, ↓reduceIte, Bool.not_true, Bool.not_false, decide_true, decide_false, eq_self, bne_self_eq_false, List.getElem?_cons_zero, List.getElem?_cons_succ, decide_eq_true_eq, Bool.false_eq_true, Bool.true_eq_false, reduceCtorEq, Nat.le_refl, this]
  · rename_i he
    have he : xs.length = ys.length := by simp at he; omega
    simp only [run0, run1, run2, run3, run4, noSlot, ownS, ownK, memN, RO.dst, lk, drop, forget, number, Nat.reduceBEq, cut?, splice?, builds, List.length_cons, List.length_nil, List.drop_succ_cons, List.drop_zero, List.take_succ_cons, List.take_zero, List.cons_append, List.nil_append, List.append_nil, List.drop_nil, List.take_nil, Nat.reduceAdd, Nat.reduceLeDiff, Nat.zero_add, Nat.add_zero, ↓reduceIte, Bool.not_true, Bool.not_false, decide_true, decide_false, eq_self, bne_self_eq_false, List.getElem?_cons_zero, List.getElem?_cons_succ, decide_eq_true_eq, Bool.false_eq_true, Bool.true_eq_false, reduceCtorEq, Nat.le_refl]
    have key := loop_allN (F := F) (Z := Z) (live := [0, 1, 5]) (b := r139L0) xs.length (fun i => ⟨[(0, .c x), (1, .c y), (5, .c (.int .i64 (i : Nat)))], [], [], h⟩) (fun i => decide (xs[i]? = ys[i]?)) (fun s => lk s.env 4 = some (.c (.bool false)) ∧ s.hp = h) fun i hi => by
      have hi' : i < ys.length := by omega
      have hlt : (i : Int) < xs.length := by omega
      rw [loop_run]
      simp only [r139L0, run0, run1, run2, run3, run4, noSlot, ownS, ownK, memN, RO.dst, lk, drop, forget, number, Nat.reduceBEq, cut?, splice?, builds, List.length_cons, List.length_nil, List.drop_succ_cons, List.drop_zero, List.take_succ_cons, List.take_zero, List.cons_append, List.nil_append, List.append_nil, List.drop_nil, List.take_nil, Nat.reduceAdd, Nat.reduceLeDiff, Nat.zero_add, Nat.add_zero, ↓reduceIte, Bool.not_true, Bool.not_false, decide_true, decide_false, eq_self, bne_self_eq_false, List.getElem?_cons_zero, List.getElem?_cons_succ, decide_eq_true_eq, Bool.false_eq_true, Bool.true_eq_false, reduceCtorEq, Nat.le_refl, w.len, hlt, w.idx hi, v.idx hi', w.load hi, v.load hi', Account.len, Account.tak, eqAccount_run hL, wrapS i (by omega)]
      rw [List.getElem?_eq_getElem hi, List.getElem?_eq_getElem hi']
      (repeat' ((first | (rw [gF_if]; split) | (rw [condC_if]; split) | (rw [pickR_if]; split)) <;> (rename_i hh; (try simp only [Bool.not_eq_true, decide_eq_true_eq] at hh); simp only [hh, run0, run1, run2, run3, run4, noSlot, ownS, ownK, memN, RO.dst, lk, drop, forget, number, Nat.reduceBEq, cut?, splice?, builds, List.length_cons, List.length_nil, List.drop_succ_cons, List.drop_zero, List.take_succ_cons, List.take_zero, List.cons_append, List.nil_append, List.append_nil, List.drop_nil, List.take_nil, Nat.reduceAdd, Nat.reduceLeDiff, Nat.zero_add, Nat.add_zero, ↓reduceIte, Bool.not_true, Bool.not_false, decide_true, decide_false, eq_self, bne_self_eq_false, List.getElem?_cons_zero, List.getElem?_cons_succ, decide_eq_true_eq, Bool.false_eq_true, Bool.true_eq_false, reduceCtorEq, Nat.le_refl, wrapS i (by omega)])))
      · exact .inr ⟨by simp_all, _, rfl, rfl, rfl⟩
      · exact .inl ⟨by simp_all, rfl⟩
    rw [all_same he] at key
    rcases key with ⟨k1, k2⟩ | ⟨k1, s, k2, k3, k4⟩
    · simp only [show ((0 : Nat) : Int) = 0 from rfl] at k2
      rw [k2, loop_run]
      have hlt : ¬ (xs.length : Int) < xs.length := by omega
      simp only [r139L0, run0, run1, run2, run3, run4, noSlot, ownS, ownK, memN, RO.dst, lk, drop, forget, number, Nat.reduceBEq, cut?, splice?, builds, List.length_cons, List.length_nil, List.drop_succ_cons, List.drop_zero, List.take_succ_cons, List.take_zero, List.cons_append, List.nil_append, List.append_nil, List.drop_nil, List.take_nil, Nat.reduceAdd, Nat.reduceLeDiff, Nat.zero_add, Nat.add_zero, ↓reduceIte, Bool.not_true, Bool.not_false, decide_true, decide_false, eq_self, bne_self_eq_false, List.getElem?_cons_zero, List.getElem?_cons_succ, decide_eq_true_eq, Bool.false_eq_true, Bool.true_eq_false, reduceCtorEq, Nat.le_refl, w.len, hlt, k1]
    · simp only [show ((0 : Nat) : Int) = 0 from rfl] at k2
      rw [k2]
      simp only [run0, run1, run2, run3, run4, noSlot, ownS, ownK, memN, RO.dst, lk, drop, forget, number, Nat.reduceBEq, cut?, splice?, builds, List.length_cons, List.length_nil, List.drop_succ_cons, List.drop_zero, List.take_succ_cons, List.take_zero, List.cons_append, List.nil_append, List.append_nil, List.drop_nil, List.take_nil, Nat.reduceAdd, Nat.reduceLeDiff, Nat.zero_add, Nat.add_zero, ↓reduceIte, Bool.not_true, Bool.not_false, decide_true, decide_false, eq_self, bne_self_eq_false, List.getElem?_cons_zero, List.getElem?_cons_succ, decide_eq_true_eq, Bool.false_eq_true, Bool.true_eq_false, reduceCtorEq, Nat.le_refl, k3, k4, k1]
/-- What is written to mark one. -/
def Account.mk_ (k : Int) : Account := ⟨k, k + 1, k + 1 + 1, k + 1 + 1 + 1, k + 1 + 1 + 1 + 1⟩
def Account.marks (n : Nat) (k : Int) : List Account := (List.range n).map fun i : Nat => Account.mk_ (k + 5 * (i : Int))
theorem Account.marks_len (n : Nat) (k : Int) : (Account.marks n k).length = n := by simp [Account.marks]
set_option maxHeartbeats 1000000 in
theorem markAccountS_run (hL : Has F tLAccount) (w : SlR 11 (Fl Account.enc) h x xs fp) (hlo : ∀ id, id ∈ fp → h.floor ≤ id) (k : Int) (h1 : 0 ≤ k) (h2 : k + 5 * xs.length ≤ 9200000000000000000) :
    ∃ h', call F Z 261 [.c x, .c (.int .i64 k)] h = some (.c (.int .i64 (k + 5 * xs.length)), h') ∧ Mk h h' fp ∧ SlR 11 (Fl Account.enc) h' x (Account.marks xs.length k) fp := by
  have hle := w.le2
  have hlm := Account.marks_len xs.length k
  rw [call_run F Z (hL.lk (g := 261) rfl) _ _ rfl]
  simp only [run0, run1, run2, run3, run4, noSlot, ownS, ownK, memN, RO.dst, lk, drop, forget, number, Nat.reduceBEq, cut?, splice?, builds, List.length_cons, List.length_nil, List.drop_succ_cons, List.drop_zero, List.take_succ_cons, List.take_zero, List.cons_append, List.nil_append, List.append_nil, List.drop_nil, List.take_nil, Nat.reduceAdd, Nat.reduceLeDiff, Nat.zero_add, Nat.add_zero, ↓reduceIte, Bool.not_true, Bool.not_false, decide_true, decide_false, eq_self, bne_self_eq_false, List.getElem?_cons_zero, List.getElem?_cons_succ, decide_eq_true_eq, Bool.false_eq_true, Bool.true_eq_false, reduceCtorEq, Nat.le_refl]
  rcases w.flat with ⟨rfl, rfl, rfl⟩ | ⟨hx, hg, hn, rfl⟩
  · rw [loop_run]
    simp only [r261L0, run0, run1, run2, run3, run4, noSlot, ownS, ownK, memN, RO.dst, lk, drop, forget, number, Nat.reduceBEq, cut?, splice?, builds, List.length_cons, List.length_nil, List.drop_succ_cons, List.drop_zero, List.take_succ_cons, List.take_zero, List.cons_append, List.nil_append, List.append_nil, List.drop_nil, List.take_nil, Nat.reduceAdd, Nat.reduceLeDiff, Nat.zero_add, Nat.add_zero, ↓reduceIte, Bool.not_true, Bool.not_false, decide_true, decide_false, eq_self, bne_self_eq_false, List.getElem?_cons_zero, List.getElem?_cons_succ, decide_eq_true_eq, Bool.false_eq_true, Bool.true_eq_false, reduceCtorEq, Nat.le_refl, show ¬ ((0 : Int) < 0) from by omega]
    exact ⟨h, by simp, Mk.refl _ _, by simpa [Account.marks] using w⟩
  · have hfl : h.floor ≤ x.sid := hlo _ (by simp)
    have key : loop F Z [0, 1, 5] r261L0 ⟨[(0, .c x), (1, .c (.int .i64 (k + 5 * (0 : Nat)))), (5, .c (.int .i64 (0 : Nat)))], [], [], h.put x.sid (mixR Account.enc (Account.marks xs.length k) xs 0)⟩ = loop F Z [0, 1, 5] r261L0 ⟨[(0, .c x), (1, .c (.int .i64 (k + 5 * (xs.length : Nat)))), (5, .c (.int .i64 (xs.length : Nat)))], [], [], h.put x.sid (mixR Account.enc (Account.marks xs.length k) xs xs.length)⟩ :=
      loop_goesF xs.length (fun i => ⟨[(0, .c x), (1, .c (.int .i64 (k + 5 * (i : Nat)))), (5, .c (.int .i64 (i : Nat)))], [], [], h.put x.sid (mixR Account.enc (Account.marks xs.length k) xs i)⟩) fun i hi => by
        have hlt : (i : Int) < xs.length := by omega
        have hi2 : i < (mixR Account.enc (Account.marks xs.length k) xs i).length := by rw [mixR_len _ hlm]; exact hi
        have hms : (Account.marks xs.length k)[i]'(by omega) = Account.mk_ (k + 5 * i) := by simp [Account.marks]
        have hset := mixR_set Account.enc hlm hi
        rw [hms] at hset
        have hput := storeP_put (h := h) hfl hi2
        rw [← mixR_cur Account.enc hlm hi, ← hset, loop_run]
        simp (disch := omega) only [r261L0, run0, run1, run2, run3, run4, noSlot, ownS, ownK, memN, RO.dst, lk, drop, forget, number, Nat.reduceBEq, cut?, splice?, builds, List.length_cons, List.length_nil, List.drop_succ_cons, List.drop_zero, List.take_succ_cons, List.take_zero, List.cons_append, List.nil_append, List.append_nil, List.drop_nil, List.take_nil, Nat.reduceAdd, Nat.reduceLeDiff, Nat.zero_add, Nat.add_zero, ↓reduceIte, Bool.not_true, Bool.not_false, decide_true, decide_false, eq_self, bne_self_eq_false, List.getElem?_cons_zero, List.getElem?_cons_succ, decide_eq_true_eq, Bool.false_eq_true, Bool.true_eq_false, reduceCtorEq, Nat.le_refl, w.len, hlt, w.idx hi, hput, putM_s, wrapI1, wrapU1, Account.enc, Int.reduceEq, Account.mk_]
        rw [show k + 5 * ((i : Nat) : Int) + 1 + 1 + 1 + 1 + 1 = k + 5 * ((i + 1 : Nat) : Int) from by omega, show ((i : Nat) : Int) + 1 = ((i + 1 : Nat) : Int) from rfl]
    rw [mixR_0, put_same hg, mixR_n _ hlm] at key
    simp only [show ((0 : Nat) : Int) = 0 from rfl, Int.mul_zero, Int.add_zero] at key
    rw [key, loop_run]
    have hlt : ¬ (xs.length : Int) < xs.length := by omega
    simp only [r261L0, run0, run1, run2, run3, run4, noSlot, ownS, ownK, memN, RO.dst, lk, drop, forget, number, Nat.reduceBEq, cut?, splice?, builds, List.length_cons, List.length_nil, List.drop_succ_cons, List.drop_zero, List.take_succ_cons, List.take_zero, List.cons_append, List.nil_append, List.append_nil, List.drop_nil, List.take_nil, Nat.reduceAdd, Nat.reduceLeDiff, Nat.zero_add, Nat.add_zero, ↓reduceIte, Bool.not_true, Bool.not_false, decide_true, decide_false, eq_self, bne_self_eq_false, List.getElem?_cons_zero, List.getElem?_cons_succ, decide_eq_true_eq, Bool.false_eq_true, Bool.true_eq_false, reduceCtorEq, Nat.le_refl, w.len, hlt]
    refine ⟨_, rfl, Mk.put _ _ _, ?_⟩
    have := SlR.ofFlat (tag := 11) (h := h.put x.sid ((Account.marks xs.length k).map Account.enc)) (enc := Account.enc) (xs := Account.marks xs.length k) (id := x.sid) (by rw [hlm]; exact w.le) (by simp [Heap.put]) hn
    rw [hlm, ← hx] at this
    exact this
set_option maxHeartbeats 1000000 in
theorem heldAccountS_run (hL : Has F tLAccount) {n : Nat} {k : Int} (w : SlR 11 (Fl Account.enc) h x (Account.marks n k) fp) (h1 : 0 ≤ k) (h2 : k + 5 * n ≤ 9200000000000000000) :
    call F Z 262 [.c x, .c (.int .i64 k)] h = some (.c (.int .i64 (k + 5 * n)), h) := by
  have hle := w.le2
  have hwl := w.len
  rw [Account.marks_len] at hle hwl
  rw [call_run F Z (hL.lk (g := 262) rfl) _ _ rfl]
  simp only [run0, run1, run2, run3, run4, noSlot, ownS, ownK, memN, RO.dst, lk, drop, forget, number, Nat.reduceBEq, cut?, splice?, builds, List.length_cons, List.length_nil, List.drop_succ_cons, List.drop_zero, List.take_succ_cons, List.take_zero, List.cons_append, List.nil_append, List.append_nil, List.drop_nil, List.take_nil, Nat.reduceAdd, Nat.reduceLeDiff, Nat.zero_add, Nat.add_zero, ↓reduceIte, Bool.not_true, Bool.not_false, decide_true, decide_false, eq_self, bne_self_eq_false, List.getElem?_cons_zero, List.getElem?_cons_succ, decide_eq_true_eq, Bool.false_eq_true, Bool.true_eq_false, reduceCtorEq, Nat.le_refl]
  have key : loop F Z [0, 1, 5] r262L0 ⟨[(0, .c x), (1, .c (.int .i64 (k + 5 * (0 : Nat)))), (5, .c (.int .i64 (0 : Nat)))], [], [], h⟩ = loop F Z [0, 1, 5] r262L0 ⟨[(0, .c x), (1, .c (.int .i64 (k + 5 * (n : Nat)))), (5, .c (.int .i64 (n : Nat)))], [], [], h⟩ :=
    loop_goesF n (fun i => ⟨[(0, .c x), (1, .c (.int .i64 (k + 5 * (i : Nat)))), (5, .c (.int .i64 (i : Nat)))], [], [], h⟩) fun i hi0 => by
      have hi : i < (Account.marks n k).length := by rw [Account.marks_len]; exact hi0
      have hlt : (i : Int) < n := by omega
      have hms : (Account.marks n k)[i] = Account.mk_ (k + 5 * i) := by simp [Account.marks]
      have hld := w.load hi
      rw [hms] at hld
      rw [loop_run]
      simp (disch := omega) only [r262L0, run0, run1, run2, run3, run4, noSlot, ownS, ownK, memN, RO.dst, lk, drop, forget, number, Nat.reduceBEq, cut?, splice?, builds, List.length_cons, List.length_nil, List.drop_succ_cons, List.drop_zero, List.take_succ_cons, List.take_zero, List.cons_append, List.nil_append, List.append_nil, List.drop_nil, List.take_nil, Nat.reduceAdd, Nat.reduceLeDiff, Nat.zero_add, Nat.add_zero, ↓reduceIte, Bool.not_true, Bool.not_false, decide_true, decide_false, eq_self, bne_self_eq_false, List.getElem?_cons_zero, List.getElem?_cons_succ, decide_eq_true_eq, Bool.false_eq_true, Bool.true_eq_false, reduceCtorEq, Nat.le_refl, hwl, hlt, w.idx hi, hld, wrapI1, wrapU1, Account.enc, Account.mk_, Int.reduceEq]
      rw [show k + 5 * ((i : Nat) : Int) + 1 + 1 + 1 + 1 + 1 = k + 5 * ((i + 1 : Nat) : Int) from by omega, show ((i : Nat) : Int) + 1 = ((i + 1 : Nat) : Int) from rfl]
  simp only [show ((0 : Nat) : Int) = 0 from rfl, Int.mul_zero, Int.add_zero] at key
  rw [key, loop_run]
  have hlt : ¬ (n : Int) < n := by omega
  simp only [r262L0, run0, run1, run2, run3, run4, noSlot, ownS, ownK, memN, RO.dst, lk, drop, forget, number, Nat.reduceBEq, cut?, splice?, builds, List.length_cons, List.length_nil, List.drop_succ_cons, List.drop_zero, List.take_succ_cons, List.take_zero, List.cons_append, List.nil_append, List.append_nil, List.drop_nil, List.take_nil, Nat.reduceAdd, Nat.reduceLeDiff, Nat.zero_add, Nat.add_zero, ↓reduceIte, Bool.not_true, Bool.not_false, decide_true, decide_false, eq_self, bne_self_eq_false, List.getElem?_cons_zero, List.getElem?_cons_succ, decide_eq_true_eq, Bool.false_eq_true, Bool.true_eq_false, reduceCtorEq, Nat.le_refl, hwl, hlt]
end
end Go.Proofs.Ytcdlbjomdokmiaa.A
/- Slices that are built by appending: raw rows, made behind a heap. -/
namespace Go.Proofs.Ytcdlbjomdokmiaa.A
open Go
set_option linter.unusedSimpArgs false
set_option linter.unusedVariables false

/-- A cell shows rows that were made behind h0. -/
structure Acc (tag : Nat) (h0 h : Heap) (x : Cell) (rows : List (List Cell)) : Prop where
  on : On h0 h
  sh : ∃ fp, SlR tag (Fl fun r => r) h x rows fp ∧ Fre h0 fp
/-- What append answers, and the heap behind it. -/
def catX (tag : Nat) (h : Heap) (x : Cell) (n : Nat) : Cell := match x with
  | .sl _ _ _ m => .sl tag h.next 0 (m + n)
  | _ => if n = 0 then .nil else .sl tag h.next 0 n
def catH (h : Heap) (x : Cell) (new : List (List Cell)) : Heap := match x with
  | .sl _ id _ _ => (h.kill id).push (((h.get id).getD []) ++ new)
  | _ => if new.length = 0 then h else h.push new
theorem Fre.app {h h1 : Heap} {p q : List Nat} (f : Fre h p) (hl : ∀ id, id ∈ p → id < h1.next) (f1 : Fre h1 q) (hn : h.next ≤ h1.next) : Fre h (p ++ q) :=
  ⟨fun id hid => by
    rcases List.mem_append.1 hid with hid | hid
    · exact f.lo id hid
    · have := f1.lo id hid
      omega, List.nodup_append.2 ⟨f.nd, f1.nd, fun a ha b hb => by
        have := hl a ha
        have := f1.lo b hb
        omega⟩⟩
section
variable {tag : Nat} {h0 h : Heap} {x y : Cell} {rows new : List (List Cell)}
theorem Acc.nil (tag : Nat) (h : Heap) : Acc tag h h .nil [] := ⟨On.refl h, [], SlR.nil _ _ _, Fre.nil h⟩
theorem Acc.none (o : On h0 h) : Acc tag h0 h .nil [] := ⟨o, [], SlR.nil _ _ _, Fre.nil h0⟩
theorem Fre.at {h0 h : Heap} (hn : h0.next ≤ h.next) : Fre h0 [h.next] := ⟨fun id hid => by simp at hid; omega, by simp⟩
theorem Acc.lit (o : On h0 h) (rows : List (List Cell)) (hl : rows.length ≤ 140737488355328) : Acc tag h0 (h.push rows) (.sl tag h.next 0 rows.length) rows :=
  ⟨o.trans (On.push h rows), [h.next], SlR.ofFlat (enc := fun r => r) (by unfold maxLen; omega) (by rw [push_get]; simp) (by rw [push_next]; omega), Fre.at o.ext.1⟩
theorem Acc.lit0 (o : On h0 h) : Acc tag h0 (h.push []) (.sl tag h.next 0 0) [] := Acc.lit o [] (by simp)
theorem Acc.push (a : Acc tag h0 h x rows) (r : List (List Cell)) : Acc tag h0 (h.push r) x rows := by
  obtain ⟨o, fp, w, f⟩ := a
  exact ⟨o.trans (On.push h r), fp, w.on (Fl.ok _) (On.push h r), f⟩
theorem Acc.go {h' : Heap} (a : Acc tag h0 h x rows) (o' : On h h') : Acc tag h0 h' x rows := by
  obtain ⟨o, fp, w, f⟩ := a
  exact ⟨o.trans o', fp, w.on (Fl.ok _) o', f⟩
theorem Acc.cat_eq (a : Acc tag h0 h x rows) (hf : h0.floor ≤ h0.next) {bytes : Nat} (hy : A.isTag tag y = true) (hr : rowsOf h y = some new) (hb : (rows.length + new.length) * bytes ≤ 140737488355328) :
    appF h tag bytes x y = some (catX tag h x new.length, catH h x new) := by
  obtain ⟨o, fp, w, f⟩ := a
  rw [appF, if_pos hy, hr]
  simp only [Option.bind_some]
  rcases w.flat with ⟨rfl, rfl, rfl⟩ | ⟨hx, hg, hn, rfl⟩
  · simp only [List.length_nil, Nat.zero_add] at hb
    simp only [catX, catH]
    split
    · rfl
    · simp [hb]
  · have hfl : h.floor ≤ x.sid := by rw [o.fl]; exact Nat.le_trans hf (f.lo _ (by simp))
    rw [hx]
    simp only [Cell.sid, catX, catH] at hg hfl hb ⊢
    simp only [hg, Option.bind_some, List.length_map]
    simp [hfl, hb]
theorem Acc.cat (a : Acc tag h0 h x rows) (hf : h0.floor ≤ h0.next) (hl : rows.length + new.length ≤ 140737488355328) : Acc tag h0 (catH h x new) (catX tag h x new.length) (rows ++ new) := by
  obtain ⟨o, fp, w, f⟩ := a
  rcases w.flat with ⟨rfl, rfl, rfl⟩ | ⟨hx, hg, hn, rfl⟩
  · simp only [catX, catH]
    split
    · rename_i h0'
      have : new = [] := List.eq_nil_of_length_eq_zero h0'
      subst this
      exact Acc.none o
    · simp only [List.nil_append]
      exact Acc.lit o new (by simp at hl; omega)
  · have hlo : h0.next ≤ x.sid := f.lo _ (by simp)
    have o1 : On h0 (h.kill x.sid) := ⟨⟨o.ext.1, fun id hid => by
      simp only [Heap.kill]
      rw [if_neg (by omega)]
      exact o.ext.2 id hid⟩, o.fl⟩
    rw [hx] at o1 ⊢
    simp only [Cell.sid, catX, catH] at hg o1 ⊢
    simp only [hg, Option.getD_some, List.map_id_fun', id]
    have := Acc.lit (tag := tag) o1 (rows ++ new) (by simpa using hl)
    rw [List.length_append] at this
    exact this
/-- One element, laid and appended. -/
theorem Acc.one_eq (a : Acc tag h0 h x rows) (hf : h0.floor ≤ h0.next) {bytes : Nat} (hb : (rows.length + 1) * bytes ≤ 140737488355328) (row : List Cell) :
    appF (h.push [row]) tag bytes x (.sl tag h.next 0 1) = some (catX tag (h.push [row]) x 1, catH (h.push [row]) x [row]) :=
  (a.push [row]).cat_eq (y := .sl tag h.next 0 1) (new := [row]) hf (by simp [A.isTag]) (by simp [rowsOf, push_get]) hb
theorem Acc.one (a : Acc tag h0 h x rows) (hf : h0.floor ≤ h0.next) (hl : rows.length + 1 ≤ 140737488355328) (row : List Cell) : Acc tag h0 (catH (h.push [row]) x [row]) (catX tag (h.push [row]) x 1) (rows ++ [row]) :=
  (a.push [row]).cat hf (new := [row]) hl
theorem SlR.ofRaw {α : Type} {enc : α → List Cell} {xs : List α} {fp : List Nat} (w : SlR tag (Fl fun r => r) h x (xs.map enc) fp) : SlR tag (Fl enc) h x xs fp := by
  have hl := w.le
  rw [List.length_map] at hl
  rcases w.flat with ⟨rfl, h2, rfl⟩ | ⟨hx, hg, hn, rfl⟩
  · have : xs = [] := List.map_eq_nil_iff.1 h2
    subst this
    exact SlR.nil _ _ _
  · rw [List.length_map] at hx
    rw [hx]
    exact SlR.ofFlat hl (by rw [hg]; simp) hn
theorem Acc.flat {α : Type} {enc : α → List Cell} {xs : List α} (a : Acc tag h0 h x (xs.map enc)) : On h0 h ∧ ∃ fp, SlR tag (Fl enc) h x xs fp ∧ Fre h0 fp := by
  obtain ⟨o, fp, w, f⟩ := a
  exact ⟨o, fp, w.ofRaw, f⟩
end
end Go.Proofs.Ytcdlbjomdokmiaa.A
/- The compact code of some functions: laws.szBook, laws.toBook, laws.eqBook, laws.markBook, laws.heldBook. -/
namespace Go.Proofs.Ytcdlbjomdokmiaa.A
open Go
/-- laws.szBook -/
def r128 : RF :=
 ⟨2, [.tmp 4],
 .seq (.reg [⟨none, .locb 2 (.t 0)⟩,
  ⟨none, .mov 4 (.k (.int .i64 0))⟩])
 (.seq (.reg [⟨none, .fad 5 2 0⟩,
  ⟨none, .load 6 5 1 false⟩,
  ⟨none, .mov 7 (.t 1)⟩,
  ⟨none, .call (some 8) 136 [(.t 6), (.t 7)] false⟩,
  ⟨none, .mov 1 (.t 8)⟩])
 (.seq (.seq (.reg [⟨none, .mov 9 (.t 1)⟩,
   ⟨none, .bin 10 .lss (.t 9) (.k (.int .i64 0))⟩])
  (.cond (.t 10)
  (.seq (.reg [⟨none, .mov 4 (.k (.int .i64 (-1)))⟩])
   (.ret))
  (.skip)))
 (.seq (.reg [⟨none, .mov 11 (.t 1)⟩,
  ⟨none, .mov 4 (.t 11)⟩])
 (.ret))))⟩
/-- laws.toBook -/
def r130 : RF :=
 ⟨1, [.cell 2 1 true],
 .seq (.reg [⟨none, .locb 1 (.t 0)⟩,
  ⟨none, .loc 2 [.nil]⟩])
 (.seq (.reg [⟨none, .loc 3 [.nil]⟩])
 (.seq (.reg [⟨none, .fad 4 1 0⟩,
  ⟨none, .load 5 4 1 false⟩,
  ⟨none, .call (some 6) 137 [(.t 5)] false⟩,
  ⟨none, .fad 7 3 0⟩,
  ⟨none, .store 7 1 (.t 6)⟩])
 (.seq (.reg [⟨none, .load 8 3 1 true⟩,
  ⟨none, .store 2 1 (.t 8)⟩])
 (.ret))))⟩
/-- laws.eqBook -/
def r133 : RF :=
 ⟨2, [.tmp 4],
 .seq (.reg [⟨none, .locb 2 (.t 0)⟩,
  ⟨none, .locb 3 (.t 1)⟩,
  ⟨none, .mov 4 (.k (.bool false))⟩])
 (.seq (.seq (.reg [⟨none, .fad 5 2 0⟩,
   ⟨none, .load 6 5 1 false⟩,
   ⟨none, .fad 7 3 0⟩,
   ⟨none, .load 8 7 1 false⟩,
   ⟨none, .call (some 9) 139 [(.t 6), (.t 8)] false⟩,
   ⟨none, .not 10 (.t 9)⟩])
  (.cond (.t 10)
  (.seq (.reg [⟨none, .mov 4 (.k (.bool false))⟩])
   (.ret))
  (.skip)))
 (.seq (.reg [⟨none, .mov 4 (.k (.bool true))⟩])
 (.ret)))⟩
/-- laws.markBook -/
def r231 : RF :=
 ⟨2, [.tmp 4],
 .seq (.reg [⟨none, .locb 2 (.t 0)⟩,
  ⟨none, .mov 4 (.k (.int .i64 0))⟩])
 (.seq (.reg [⟨none, .fad 5 2 0⟩,
  ⟨none, .load 6 5 1 false⟩,
  ⟨none, .mov 7 (.t 1)⟩,
  ⟨none, .call (some 8) 261 [(.t 6), (.t 7)] false⟩,
  ⟨none, .mov 1 (.t 8)⟩])
 (.seq (.reg [⟨none, .mov 9 (.t 1)⟩,
  ⟨none, .mov 4 (.t 9)⟩])
 (.ret)))⟩
/-- laws.heldBook -/
def r233 : RF :=
 ⟨2, [.tmp 4],
 .seq (.reg [⟨none, .locb 2 (.t 0)⟩,
  ⟨none, .mov 4 (.k (.int .i64 0))⟩])
 (.seq (.reg [⟨none, .fad 5 2 0⟩,
  ⟨none, .load 6 5 1 false⟩,
  ⟨none, .mov 7 (.t 1)⟩,
  ⟨none, .call (some 8) 262 [(.t 6), (.t 7)] false⟩,
  ⟨none, .mov 1 (.t 8)⟩])
 (.seq (.seq (.reg [⟨none, .mov 9 (.t 1)⟩,
   ⟨none, .bin 10 .lss (.t 9) (.k (.int .i64 0))⟩])
  (.cond (.t 10)
  (.seq (.reg [⟨none, .mov 4 (.k (.int .i64 (-1)))⟩])
   (.ret))
  (.skip)))
 (.seq (.reg [⟨none, .mov 11 (.t 1)⟩,
  ⟨none, .mov 4 (.t 11)⟩])
 (.ret))))⟩
/-- The functions of this text, with their numbers. -/
def tLBook : List (Nat × RF) := [(128, r128), (130, r130), (133, r133), (231, r231), (233, r233)]
end Go.Proofs.Ytcdlbjomdokmiaa.A
/- The data of a Book with its memory, and what its converters compute. -/
namespace Go.Proofs.Ytcdlbjomdokmiaa.A
open Go
set_option linter.unusedSimpArgs false
set_option linter.unusedVariables false
structure Book where
  list : List Account
  deriving DecidableEq
def Book.RL : Rel Book := fun h cs t fp => ∃ x1 p1, cs = [x1] ∧ fp = p1 ∧ SlR 12 (Fl Account.enc) h x1 t.list p1
theorem Book.okL : RelOk Book.RL where
  lt := by
    rintro h cs t fp ⟨x1, p1, rfl, rfl, w1⟩ id hid
    exact w1.lt (Fl.ok _) id hid
  mv := by
    rintro h h' cs t fp ⟨x1, p1, rfl, rfl, w1⟩ hn hg
    exact ⟨x1, _, rfl, rfl, w1.mv (Fl.ok _) hn hg⟩
def Book.RI : Rel Book := fun h cs t fp => ∃ x1 p1, cs = [x1] ∧ fp = p1 ∧ SlR 11 (Fl Account.enc) h x1 t.list p1
theorem Book.okI : RelOk Book.RI where
  lt := by
    rintro h cs t fp ⟨x1, p1, rfl, rfl, w1⟩ id hid
    exact w1.lt (Fl.ok _) id hid
  mv := by
    rintro h h' cs t fp ⟨x1, p1, rfl, rfl, w1⟩ hn hg
    exact ⟨x1, _, rfl, rfl, w1.mv (Fl.ok _) hn hg⟩
theorem Book.lenL {h : Heap} {cs : List Cell} {t : Book} {fp : List Nat} (v : Book.RL h cs t fp) : cs.length = 1 ∧ cs.take 1 = cs ∧ cs.drop 1 = [] := by
  obtain ⟨x1, p1, rfl, _⟩ := v
  exact ⟨rfl, rfl, rfl⟩
theorem Book.lenI {h : Heap} {cs : List Cell} {t : Book} {fp : List Nat} (v : Book.RI h cs t fp) : cs.length = 1 ∧ cs.take 1 = cs ∧ cs.drop 1 = [] := by
  obtain ⟨x1, p1, rfl, _⟩ := v
  exact ⟨rfl, rfl, rfl⟩
namespace Book
/-- The numbers are those of the machine. -/
structure Ok (t : Book) : Prop where
  list : ∀ a, a ∈ t.list → a.Ok
def Small (t : Book) : Prop := t.list.length ≤ 1048576
def wt (t : Book) : Int := 5 * ((t.list.length : Nat) : Int)
def marked (t : Book) (k : Int) : Book := { t with list := Account.marks t.list.length (k) }
theorem wt_nn (t : Book) : 0 ≤ t.wt := by
  simp only [wt]; omega
theorem wt_le {t : Book} (sm : t.Small) : t.wt ≤ 5242880 := by
  unfold Small at sm
  simp only [wt]; omega
end Book
theorem Wf.isBook {h : Heap} {n : Nat} {cs : List Cell} (w : Wf h (n + 4) shBook cs) : ∃ t fp, Book.RL h cs t fp ∧ t.Ok := by
  obtain ⟨_, _, rfl, _, m1, rfl⟩ := w
  obtain ⟨x1, l1, p1, rfl, w1, o1⟩ := Wf.isAccountS' m1
  exact ⟨⟨l1⟩, _, ⟨x1, _, rfl, rfl, w1⟩, ⟨o1⟩⟩
section
variable {F : Nat → Option RF} {Z : CallF} {h : Heap} {cs cs' : List Cell} {t u : Book} {fp fq : List Nat}
theorem szBook_c (hLBook : Has F tLBook) (hLAccount : Has F tLAccount) (v : Book.RL h cs t fp) (left : Int) (h1 : 0 ≤ left) (h2 : left ≤ 1048576) : ∃ r, call F Z 128 [.agg cs, .c (.int .i64 left)] h = some (.c (.int .i64 r), h) ∧ r ≤ left ∧ (0 ≤ r → t.Small) := by
  obtain ⟨x1, p1, rfl, rfl, w1⟩ := v
  rw [call_run F Z (hLBook.lk (g := 128) rfl) _ _ rfl]
  simp only [run0, run1, run2, run3, run4, noSlot, ownS, ownK, memN, RO.dst, lk, drop, forget, number, Nat.reduceBEq, cut?, splice?, builds, List.length_cons, List.length_nil, List.drop_succ_cons, List.drop_zero, List.take_succ_cons, List.take_zero, List.cons_append, List.nil_append, List.append_nil, List.drop_nil, List.take_nil, Nat.reduceAdd, Nat.reduceLeDiff, Nat.zero_add, Nat.add_zero, ↓reduceIte, Bool.not_true, Bool.not_false, decide_true, decide_false, eq_self, bne_self_eq_false, List.getElem?_cons_zero, List.getElem?_cons_succ, decide_eq_true_eq, Bool.false_eq_true, Bool.true_eq_false, reduceCtorEq, Nat.le_refl]
  obtain ⟨l0, s0, a0, b0⟩ := szAccountS_c (Z := Z) hLAccount w1 left (by omega) (by omega)
  simp only [run0, run1, run2, run3, run4, noSlot, ownS, ownK, memN, RO.dst, lk, drop, forget, number, Nat.reduceBEq, cut?, splice?, builds, List.length_cons, List.length_nil, List.drop_succ_cons, List.drop_zero, List.take_succ_cons, List.take_zero, List.cons_append, List.nil_append, List.append_nil, List.drop_nil, List.take_nil, Nat.reduceAdd, Nat.reduceLeDiff, Nat.zero_add, Nat.add_zero, ↓reduceIte, Bool.not_true, Bool.not_false, decide_true, decide_false, eq_self, bne_self_eq_false, List.getElem?_cons_zero, List.getElem?_cons_succ, decide_eq_true_eq, Bool.false_eq_true, Bool.true_eq_false, reduceCtorEq, Nat.le_refl, s0]
  by_cases n0 : l0 < 0
  · simp only [run0, run1, run2, run3, run4, noSlot, ownS, ownK, memN, RO.dst, lk, drop, forget, number, Nat.reduceBEq, cut?, splice?, builds, List.length_cons, List.length_nil, List.drop_succ_cons, List.drop_zero, List.take_succ_cons, List.take_zero, List.cons_append, List.nil_append, List.append_nil, List.drop_nil, List.take_nil, Nat.reduceAdd, Nat.reduceLeDiff, Nat.zero_add, Nat.add_zero, ↓reduceIte, Bool.not_true, Bool.not_false, decide_true, decide_false, eq_self, bne_self_eq_false, List.getElem?_cons_zero, List.getElem?_cons_succ, decide_eq_true_eq, Bool.false_eq_true, Bool.true_eq_false, reduceCtorEq, Nat.le_refl, n0]
    exact ⟨_, rfl, by omega, by omega⟩
  simp only [run0, run1, run2, run3, run4, noSlot, ownS, ownK, memN, RO.dst, lk, drop, forget, number, Nat.reduceBEq, cut?, splice?, builds, List.length_cons, List.length_nil, List.drop_succ_cons, List.drop_zero, List.take_succ_cons, List.take_zero, List.cons_append, List.nil_append, List.append_nil, List.drop_nil, List.take_nil, Nat.reduceAdd, Nat.reduceLeDiff, Nat.zero_add, Nat.add_zero, ↓reduceIte, Bool.not_true, Bool.not_false, decide_true, decide_false, eq_self, bne_self_eq_false, List.getElem?_cons_zero, List.getElem?_cons_succ, decide_eq_true_eq, Bool.false_eq_true, Bool.true_eq_false, reduceCtorEq, Nat.le_refl, n0]
  exact ⟨_, rfl, by omega, fun _ => b0 (by omega)⟩
theorem toBook_c (hLBook : Has F tLBook) (hLAccount : Has F tLAccount) (hf : h.floor ≤ h.next) (v : Book.RL h cs t fp) (sm : t.Small) : ∃ cs' h' fq, call F Z 130 [.agg cs] h = some (.agg cs', h') ∧ On h h' ∧ Book.RI h' cs' t fq ∧ Fre h fq := by
  obtain ⟨x1, p1, rfl, rfl, w1⟩ := v
  have sm0 := sm
  obtain ⟨y1, g0, q1, e0, o0, u1, r0⟩ := toAccountS_c (Z := Z) hLAccount hf w1 sm0
  rw [call_run F Z (hLBook.lk (g := 130) rfl) _ _ rfl]
  simp only [run0, run1, run2, run3, run4, noSlot, ownS, ownK, memN, RO.dst, lk, drop, forget, number, Nat.reduceBEq, cut?, splice?, builds, List.length_cons, List.length_nil, List.drop_succ_cons, List.drop_zero, List.take_succ_cons, List.take_zero, List.cons_append, List.nil_append, List.append_nil, List.drop_nil, List.take_nil, Nat.reduceAdd, Nat.reduceLeDiff, Nat.zero_add, Nat.add_zero, ↓reduceIte, Bool.not_true, Bool.not_false, decide_true, decide_false, eq_self, bne_self_eq_false, List.getElem?_cons_zero, List.getElem?_cons_succ, decide_eq_true_eq, Bool.false_eq_true, Bool.true_eq_false, reduceCtorEq, Nat.le_refl, e0]
  exact ⟨_, _, _, rfl, o0, ⟨y1, _, rfl, rfl, u1⟩, r0⟩
set_option maxHeartbeats 1000000 in
theorem eqBook_r (hLBook : Has F tLBook) (hLAccount : Has F tLAccount) (v : Book.RI h cs t fp) (v' : Book.RI h cs' u fq) : call F Z 133 [.agg cs, .agg cs'] h = some (.c (.bool (decide (t = u))), h) := by
  obtain ⟨x1, p1, rfl, rfl, w1⟩ := v
  obtain ⟨x1', p1', rfl, rfl, w1'⟩ := v'
  obtain ⟨list1⟩ := t
  obtain ⟨list2⟩ := u
  have e0 := eqAccountS_run (Z := Z) hLAccount w1 w1'
  clear w1 w1'
  rw [call_run F Z (hLBook.lk (g := 133) rfl) _ _ rfl]
  simp only [run0, run1, run2, run3, run4, noSlot, ownS, ownK, memN, RO.dst, lk, drop, forget, number, Nat.reduceBEq, cut?, splice?, builds, List.length_cons, List.length_nil, List.drop_succ_cons, List.drop_zero, List.take_succ_cons, List.take_zero, List.cons_append, List.nil_append, List.append_nil, List.drop_nil, List.take_nil, Nat.reduceAdd, Nat.reduceLeDiff, Nat.zero_add, Nat.add_zero, ↓reduceIte, Bool.not_true, Bool.not_false, decide_true, decide_false, eq_self, bne_self_eq_false, List.getElem?_cons_zero, List.getElem?_cons_succ, decide_eq_true_eq, Bool.false_eq_true, Bool.true_eq_false, reduceCtorEq, Nat.le_refl, e0]
  (repeat' ((first | (rw [gF_if]; split) | (rw [condC_if]; split) | (rw [pickR_if]; split)) <;> (rename_i hh; (try simp only [Bool.not_eq_true, decide_eq_true_eq] at hh); simp only [hh, run0, run1, run2, run3, run4, noSlot, ownS, ownK, memN, RO.dst, lk, drop, forget, number, Nat.reduceBEq, cut?, splice?, builds, List.length_cons, List.length_nil, List.drop_succ_cons, List.drop_zero, List.take_succ_cons, List.take_zero, List.cons_append, List.nil_append, List.append_nil, List.drop_nil, List.take_nil, Nat.reduceAdd, Nat.reduceLeDiff, Nat.zero_add, Nat.add_zero, ↓reduceIte, Bool.not_true, Bool.not_false, decide_true, decide_false, eq_self, bne_self_eq_false, List.getElem?_cons_zero, List.getElem?_cons_succ, decide_eq_true_eq, Bool.false_eq_true, Bool.true_eq_false, reduceCtorEq, Nat.le_refl, e0]))) <;> clear e0 <;> refine fin_bool ?_ <;> simp_all <;> (try (intros; omega))
theorem markBook_r (hLBook : Has F tLBook) (hLAccount : Has F tLAccount) (v : Book.RI h cs t fp) (nd : fp.Nodup) (hlo : ∀ id, id ∈ fp → h.floor ≤ id) (k : Int) (h1 : 0 ≤ k) (h2 : k + t.wt ≤ 9200000000000000000) : ∃ h', call F Z 231 [.agg cs, .c (.int .i64 k)] h = some (.c (.int .i64 (k + t.wt)), h') ∧ Mk h h' fp ∧ Book.RI h' cs (t.marked k) fp := by
  obtain ⟨x1, p1, rfl, rfl, w1⟩ := v
  simp only [Book.wt] at h2 ⊢
  obtain ⟨h', e0, m0, u1⟩ := markAccountS_run (Z := Z) hLAccount w1 hlo k h1 h2
  rw [call_run F Z (hLBook.lk (g := 231) rfl) _ _ rfl]
  simp only [run0, run1, run2, run3, run4, noSlot, ownS, ownK, memN, RO.dst, lk, drop, forget, number, Nat.reduceBEq, cut?, splice?, builds, List.length_cons, List.length_nil, List.drop_succ_cons, List.drop_zero, List.take_succ_cons, List.take_zero, List.cons_append, List.nil_append, List.append_nil, List.drop_nil, List.take_nil, Nat.reduceAdd, Nat.reduceLeDiff, Nat.zero_add, Nat.add_zero, ↓reduceIte, Bool.not_true, Bool.not_false, decide_true, decide_false, eq_self, bne_self_eq_false, List.getElem?_cons_zero, List.getElem?_cons_succ, decide_eq_true_eq, Bool.false_eq_true, Bool.true_eq_false, reduceCtorEq, Nat.le_refl, e0]
  exact ⟨_, rfl, m0, ⟨x1, _, rfl, rfl, u1⟩⟩
theorem heldBook_r (hLBook : Has F tLBook) (hLAccount : Has F tLAccount) {k : Int} (v : Book.RI h cs (t.marked k) fp) (h1 : 0 ≤ k) (h2 : k + t.wt ≤ 9200000000000000000) : call F Z 233 [.agg cs, .c (.int .i64 k)] h = some (.c (.int .i64 (k + t.wt)), h) := by
  obtain ⟨x1, p1, rfl, rfl, w1⟩ := v
  simp only [Book.wt] at h2 ⊢
  have e0 := heldAccountS_run (Z := Z) hLAccount w1 h1 h2
  have n0 : ¬ k + 5 * ((t.list.length : Nat) : Int) < 0 := by omega
  rw [call_run F Z (hLBook.lk (g := 233) rfl) _ _ rfl]
  simp only [Book.marked, run0, run1, run2, run3, run4, noSlot, ownS, ownK, memN, RO.dst, lk, drop, forget, number, Nat.reduceBEq, cut?, splice?, builds, List.length_cons, List.length_nil, List.drop_succ_cons, List.drop_zero, List.take_succ_cons, List.take_zero, List.cons_append, List.nil_append, List.append_nil, List.drop_nil, List.take_nil, Nat.reduceAdd, Nat.reduceLeDiff, Nat.zero_add, Nat.add_zero, ↓reduceIte, Bool.not_true, Bool.not_false, decide_true, decide_false, eq_self, bne_self_eq_false, List.getElem?_cons_zero, List.getElem?_cons_succ, decide_eq_true_eq, Bool.false_eq_true, Bool.true_eq_false, reduceCtorEq, Nat.le_refl] at e0 ⊢
  simp only [run0, run1, run2, run3, run4, noSlot, ownS, ownK, memN, RO.dst, lk, drop, forget, number, Nat.reduceBEq, cut?, splice?, builds, List.length_cons, List.length_nil, List.drop_succ_cons, List.drop_zero, List.take_succ_cons, List.take_zero, List.cons_append, List.nil_append, List.append_nil, List.drop_nil, List.take_nil, Nat.reduceAdd, Nat.reduceLeDiff, Nat.zero_add, Nat.add_zero, ↓reduceIte, Bool.not_true, Bool.not_false, decide_true, decide_false, eq_self, bne_self_eq_false, List.getElem?_cons_zero, List.getElem?_cons_succ, decide_eq_true_eq, Bool.false_eq_true, Bool.true_eq_false, reduceCtorEq, Nat.le_refl, e0, n0]
end
end Go.Proofs.Ytcdlbjomdokmiaa.A
/- Loops that append. -/
namespace Go.Proofs.Ytcdlbjomdokmiaa.A
open Go
set_option linter.unusedSimpArgs false
set_option linter.unusedVariables false
theorem flatMap_le {α β : Type} (g : α → List β) (hg : ∀ a, (g a).length ≤ 1) : ∀ xs : List α, (xs.flatMap g).length ≤ xs.length
  | [] => by simp
  | a :: r => by
    rw [List.flatMap_cons, List.length_append, List.length_cons]
    have := hg a
    have := flatMap_le g hg r
    omega
/-- One turn goes on, or returns; the run stands here once. -/
def Step2 (r : Option (Ex × St)) (J Q : St → Prop) (L : St → Option (Ex × St)) : Prop := (∃ s', J s' ∧ r = L s') ∨ ∃ s', r = some (.ret, s') ∧ Q s'
section
variable {F : Nat → Option RF} {Z : CallF} {live : List Nat} {b : RC}
/-- A loop that appends at most one element at each turn. -/
theorem loop_acc {α : Type} (xs : List α) (g : α → List (List Cell)) (tag : Nat) (h0 : Heap) (st : Nat → Cell → Heap → St) (hg : ∀ a, (g a).length ≤ 1)
    (hs : ∀ i (hi : i < xs.length) y h rows, Acc tag h0 h y rows → rows.length ≤ i → ∃ y' h', Acc tag h0 h' y' (rows ++ g xs[i]) ∧ loop F Z live b (st i y h) = loop F Z live b (st (i + 1) y' h')) {y : Cell} {h : Heap} (a0 : Acc tag h0 h y []) :
    ∃ y' h', Acc tag h0 h' y' (xs.flatMap g) ∧ loop F Z live b (st 0 y h) = loop F Z live b (st xs.length y' h') := by
  have key : ∀ n, n ≤ xs.length → ∃ y' h', Acc tag h0 h' y' ((xs.take n).flatMap g) ∧ ((xs.take n).flatMap g).length ≤ n ∧ loop F Z live b (st 0 y h) = loop F Z live b (st n y' h') := by
    intro n
    induction n with
    | zero => intro _; exact ⟨y, h, by simpa using a0, by simp, rfl⟩
    | succ n ih =>
      intro hn
      obtain ⟨y1, h1, a1, l1, e1⟩ := ih (by omega)
      obtain ⟨y2, h2, a2, e2⟩ := hs n (by omega) y1 h1 _ a1 l1
      have ht : (xs.take (n + 1)).flatMap g = (xs.take n).flatMap g ++ g xs[n] := by
        rw [List.take_add_one, List.getElem?_eq_getElem (by omega), List.flatMap_append]; simp
      refine ⟨y2, h2, by rw [ht]; exact a2, ?_, e1.trans e2⟩
      rw [ht, List.length_append]
      have := hg xs[n]
      omega
  obtain ⟨y', h', a', _, e'⟩ := key xs.length (Nat.le_refl _)
  rw [List.take_length] at a'
  exact ⟨y', h', a', e'⟩
/-- A loop that returns at the first element that fits. -/
theorem loop_find {α : Type} (xs : List α) (p : α → Bool) (st : Nat → St) (Q : Nat → St → Prop) (hs : ∀ i (hi : i < xs.length), Turn (loop F Z live b (st i)) (loop F Z live b (st (i + 1))) (!p xs[i]) (Q i)) :
    (xs.findIdx? p = none ∧ loop F Z live b (st 0) = loop F Z live b (st xs.length)) ∨ ∃ i, xs.findIdx? p = some i ∧ i < xs.length ∧ ∃ s, loop F Z live b (st 0) = some (.ret, s) ∧ Q i s := by
  have key : ∀ n, n ≤ xs.length → ((∀ i (hi : i < xs.length), i < n → p xs[i] = false) ∧ loop F Z live b (st 0) = loop F Z live b (st n)) ∨ ∃ i, xs.findIdx? p = some i ∧ i < xs.length ∧ ∃ s, loop F Z live b (st 0) = some (.ret, s) ∧ Q i s := by
    intro n
    induction n with
    | zero => intro _; exact .inl ⟨fun i hi h => absurd h (Nat.not_lt_zero _), rfl⟩
    | succ n ih =>
      intro hn
      rcases ih (by omega) with ⟨h1, h2⟩ | h
      · rcases hs n (by omega) with ⟨h3, h4⟩ | ⟨h3, s, h4, h5⟩
        · refine .inl ⟨fun i hi hl => ?_, h2.trans h4⟩
          by_cases he : i = n
          · subst he; simpa using h3
          · exact h1 i hi (by omega)
        · refine .inr ⟨n, ?_, by omega, s, h2.trans h4, h5⟩
          rw [List.findIdx?_eq_some_iff_getElem]
          refine ⟨by omega, by simpa using h3, fun j hj => ?_⟩
          simpa using h1 j (by omega) (by omega)
      · exact .inr h
  rcases key xs.length (Nat.le_refl _) with ⟨h1, h2⟩ | h
  · refine .inl ⟨?_, h2⟩
    rw [List.findIdx?_eq_none_iff]
    intro a ha
    obtain ⟨i, hi, rfl⟩ := List.mem_iff_getElem.1 ha
    exact h1 i hi hi
  · exact .inr h
/-- A loop of so many turns, some of which return. -/
theorem loop_rel (n : Nat) (I : Nat → St → Prop) (Q : St → Prop) (hs : ∀ i s, i < n → I i s → Step2 (loop F Z live b s) (I (i + 1)) Q (loop F Z live b)) {s : St} (h0 : I 0 s) :
    (∃ s', I n s' ∧ loop F Z live b s = loop F Z live b s') ∨ ∃ s', loop F Z live b s = some (.ret, s') ∧ Q s' := by
  induction n with
  | zero => exact .inl ⟨s, h0, rfl⟩
  | succ n ih =>
    rcases ih fun i s hi => hs i s (by omega) with ⟨s1, i1, e1⟩ | h
    · rcases hs n s1 (by omega) i1 with ⟨s2, i2, e2⟩ | ⟨s2, e2, q2⟩
      · exact .inl ⟨s2, i2, e1.trans e2⟩
      · exact .inr ⟨s2, e1.trans e2, q2⟩
    · exact .inr h
/-- The place of the first that fits, -1 for none. -/
def findI {α : Type} (p : α → Bool) (xs : List α) : Int := match xs.findIdx? p with
  | some i => (i : Int)
  | none => -1
/-- A loop over a list that carries a value on. -/
theorem loop_fold {α σ : Type} (xs : List α) (step : σ → α → σ) (I : Nat → σ → St → Prop) (hs : ∀ i (hi : i < xs.length) a s, I i a s → ∃ s', I (i + 1) (step a xs[i]) s' ∧ loop F Z live b s = loop F Z live b s') {a : σ} {s : St} (h0 : I 0 a s) :
    ∃ s', I xs.length (xs.foldl step a) s' ∧ loop F Z live b s = loop F Z live b s' := by
  have key : ∀ n, n ≤ xs.length → ∃ s', I n ((xs.take n).foldl step a) s' ∧ loop F Z live b s = loop F Z live b s' := by
    intro n
    induction n with
    | zero => intro _; exact ⟨s, by simpa using h0, rfl⟩
    | succ n ih =>
      intro hn
      obtain ⟨s1, i1, e1⟩ := ih (by omega)
      obtain ⟨s2, i2, e2⟩ := hs n (by omega) _ s1 i1
      refine ⟨s2, ?_, e1.trans e2⟩
      rw [List.take_add_one, List.getElem?_eq_getElem (by omega), List.foldl_append]
      exact i2
  obtain ⟨s', i', e'⟩ := key xs.length (Nat.le_refl _)
  rw [List.take_length] at i'
  exact ⟨s', i', e'⟩
end
end Go.Proofs.Ytcdlbjomdokmiaa.A
/- Is a book right? -/
namespace Go.Proofs.Ytcdlbjomdokmiaa.A
open Go
set_option linter.unusedSimpArgs false
set_option linter.unusedVariables false
def Account.at_ (xs : List Account) (i : Nat) : Account := xs[i]?.getD Account.none_
/-- Is an account right by itself? -/
def Account.fine (a : Account) : Bool := decide (a.bal + a.hold + a.due ≤ 18446744073709551615) && (decide (0 ≤ a.tx) && (a.tx != 0 || (a.hold == 0 && a.due == 0)))
def Account.fits (xs : List Account) (i : Nat) : Bool := (Account.at_ xs i).fine && (i == 0 || decide ((Account.at_ xs (i - 1)).id < (Account.at_ xs i).id))
def bookOk (xs : List Account) : Bool := (List.range xs.length).all (Account.fits xs) && decide ((xs.length : Int) ≤ 40)
section
variable {F : Nat → Option RF} {Z : CallF} {h : Heap} {x : Cell} {xs : List Account} {fp : List Nat}
set_option maxHeartbeats 4000000 in
theorem isBook_turn (w : SlR 11 (Fl Account.enc) h x xs fp) (hok : ∀ t, t ∈ xs → t.Ok) (i : Nat) (hi : i < xs.length) :
    Turn (loop F Z [1, 10, 11, 12] r265L0 ⟨[(10, .c x), (11, .c (.int .i64 (xs.length : Nat))), (12, .c (.int .i64 (i : Nat)))], [(1, 1, 0)], [(1, [x])], h⟩)
      (loop F Z [1, 10, 11, 12] r265L0 ⟨[(10, .c x), (11, .c (.int .i64 (xs.length : Nat))), (12, .c (.int .i64 ((i + 1 : Nat) : Int)))], [(1, 1, 0)], [(1, [x])], h⟩) (Account.fits xs i) (fun s => lk s.env 2 = some (.c (.bool false)) ∧ s.hp = h) := by
  have hle := w.le2
  have hlt : (i : Int) < xs.length := by omega
  have hws := wrapS i (by omega)
  have o1 := hok _ (List.getElem_mem hi)
  have e1 : Account.at_ xs i = xs[i] := by simp [Account.at_, List.getElem?_eq_getElem hi]
  have hfit : Account.fits xs i = (xs[i].fine && (i == 0 || decide ((Account.at_ xs (i - 1)).id < xs[i].id))) := by simp only [Account.fits, e1]
  have hpre : 0 < i → IntKind.i64.wrap ((i : Int) - 1) = ((i - 1 : Nat) : Int) := fun hp => by rw [wrapI _ (by omega) (by omega)]; omega
  rw [hfit]
  have hxi := w.idx hi
  have hld := w.load hi
  have hpi : 0 < i → idxR 11 (some x) (some ((i - 1 : Nat) : Int)) = some (.ptr x.sid (i - 1) 0) := fun hp => w.idx (by omega)
  have hpl : 0 < i → ∀ j n, loadP h x.sid (i - 1) j n = cut? (Account.at_ xs (i - 1)).enc j n := fun hp => w.loadD Account.none_ (by omega)
  clear w hfit e1 hok
  generalize Account.at_ xs (i - 1) = pa at *
  generalize xs[i] = a at *
  obtain ⟨id, bal, hold, due, tx⟩ := a
  obtain ⟨a1, a2, a3, a4, a5⟩ := o1
  dsimp only at a1 a2 a3 a4 a5
  obtain ⟨b1, _⟩ := a2
  obtain ⟨b2, _⟩ := a3
  obtain ⟨b3, _⟩ := a4
  have hwb : IntKind.u64.wrap (bal + hold) = (bal + hold) % 18446744073709551616 := rfl
  have b4 : 0 ≤ (bal + hold) % 18446744073709551616 := by omega
  have b5 : (0 : Int) ≤ 0 := by omega
  have b6 : (0 : Int) ≤ 1 := by omega
  have hwc : IntKind.u64.wrap ((bal + hold + 0) / 18446744073709551616 + ((bal + hold) % 18446744073709551616 + due + 0) / 18446744073709551616) = (bal + hold + 0) / 18446744073709551616 + ((bal + hold) % 18446744073709551616 + due + 0) / 18446744073709551616 := wrapU _ (by omega) (by omega)
  rw [loop_run]
  conv in (codeF _ _ r265L0 _) => unfold r265L0
  simp only [run0, run1, run2, run3, run4, noSlot, ownS, ownK, memN, RO.dst, lk, drop, forget, number, Nat.reduceBEq, cut?, splice?, builds, List.length_cons, List.length_nil, List.drop_succ_cons, List.drop_zero, List.take_succ_cons, List.take_zero, List.cons_append, List.nil_append, List.append_nil, List.drop_nil, List.take_nil, Nat.reduceAdd, Nat.reduceLeDiff, Nat.zero_add, Nat.add_zero, ↓reduceIte, Bool.not_true, Bool.not_false, decide_true, decide_false, eq_self, bne_self_eq_false, List.getElem?_cons_zero, List.getElem?_cons_succ, decide_eq_true_eq, Bool.false_eq_true, Bool.true_eq_false, reduceCtorEq, Nat.le_refl, hlt, hxi, hld, Account.enc, b1, b2, b3, b4, b5, b6, and_self, hwb, hwc]
  by_cases hp : 0 < i
  · have g1 : (i : Int) > 0 := by omega
    have hi0 : (i == 0) = false := by simp; omega
    have q1 := hpre hp
    have q2 := hpi hp
    have q3 := hpl hp
    clear hxi hld hpre hpi hpl
    (repeat' ((first | (rw [gF_if]; split) | (rw [condC_if]; split) | (rw [pickR_if]; split)) <;> (rename_i hh; (try simp only [Bool.not_eq_true, decide_eq_true_eq] at hh); simp only [hh, run0, run1, run2, run3, run4, noSlot, ownS, ownK, memN, RO.dst, lk, drop, forget, number, Nat.reduceBEq, cut?, splice?, builds, List.length_cons, List.length_nil, List.drop_succ_cons, List.drop_zero, List.take_succ_cons, List.take_zero, List.cons_append, List.nil_append, List.append_nil, List.drop_nil, List.take_nil, Nat.reduceAdd, Nat.reduceLeDiff, Nat.zero_add, Nat.add_zero, ↓reduceIte, Bool.not_true, Bool.not_false, decide_true, decide_false, eq_self, bne_self_eq_false, List.getElem?_cons_zero, List.getElem?_cons_succ, decide_eq_true_eq, Bool.false_eq_true, Bool.true_eq_false, reduceCtorEq, Nat.le_refl, hws, g1, q1, q2, q3, Account.enc])))
    all_goals clear q2 q3
    all_goals first
      | (exfalso; omega)
      | exact .inl ⟨by simp_all [Account.fine] <;> omega, rfl⟩
      | exact .inr ⟨by simp_all [Account.fine] <;> omega, _, rfl, rfl, rfl⟩
  · have g1 : ¬ (i : Int) > 0 := by omega
    have hi0 : (i == 0) = true := by simp; omega
    clear hxi hld hpre hpi hpl
    (repeat' ((first | (rw [gF_if]; split) | (rw [condC_if]; split) | (rw [pickR_if]; split)) <;> (rename_i hh; (try simp only [Bool.not_eq_true, decide_eq_true_eq] at hh); simp only [hh, run0, run1, run2, run3, run4, noSlot, ownS, ownK, memN, RO.dst, lk, drop, forget, number, Nat.reduceBEq, cut?, splice?, builds, List.length_cons, List.length_nil, List.drop_succ_cons, List.drop_zero, List.take_succ_cons, List.take_zero, List.cons_append, List.nil_append, List.append_nil, List.drop_nil, List.take_nil, Nat.reduceAdd, Nat.reduceLeDiff, Nat.zero_add, Nat.add_zero, ↓reduceIte, Bool.not_true, Bool.not_false, decide_true, decide_false, eq_self, bne_self_eq_false, List.getElem?_cons_zero, List.getElem?_cons_succ, decide_eq_true_eq, Bool.false_eq_true, Bool.true_eq_false, reduceCtorEq, Nat.le_refl, hws, g1, Account.enc])))
    all_goals first
      | (exfalso; omega)
      | exact .inl ⟨by simp_all [Account.fine] <;> omega, rfl⟩
      | exact .inr ⟨by simp_all [Account.fine] <;> omega, _, rfl, rfl, rfl⟩
theorem isBook_run (hI10 : Has F tI10) (w : SlR 11 (Fl Account.enc) h x xs fp) (hok : ∀ t, t ∈ xs → t.Ok) : call F Z 265 [.agg [x]] h = some (.c (.bool (bookOk xs)), h) := by
  have key := loop_allN (F := F) (Z := Z) (live := [1, 10, 11, 12]) (b := r265L0) xs.length (fun i => ⟨[(10, .c x), (11, .c (.int .i64 (xs.length : Nat))), (12, .c (.int .i64 (i : Nat)))], [(1, 1, 0)], [(1, [x])], h⟩) (Account.fits xs) (fun s => lk s.env 2 = some (.c (.bool false)) ∧ s.hp = h) fun i hi => isBook_turn w hok i hi
  rw [call_run F Z (hI10.lk (g := 265) rfl) _ _ rfl]
  simp only [run0, run1, run2, run3, run4, noSlot, ownS, ownK, memN, RO.dst, lk, drop, forget, number, Nat.reduceBEq, cut?, splice?, builds, List.length_cons, List.length_nil, List.drop_succ_cons, List.drop_zero, List.take_succ_cons, List.take_zero, List.cons_append, List.nil_append, List.append_nil, List.drop_nil, List.take_nil, Nat.reduceAdd, Nat.reduceLeDiff, Nat.zero_add, Nat.add_zero, ↓reduceIte, Bool.not_true, Bool.not_false, decide_true, decide_false, eq_self, bne_self_eq_false, List.getElem?_cons_zero, List.getElem?_cons_succ, decide_eq_true_eq, Bool.false_eq_true, Bool.true_eq_false, reduceCtorEq, Nat.le_refl, w.len]
  simp only [show ((0 : Nat) : Int) = 0 from rfl] at key
  have hlt : ¬ (xs.length : Int) < xs.length := by omega
  rcases key with ⟨k1, k2⟩ | ⟨k1, s, k2, k3, k4⟩
  · rw [k2, loop_run]
    conv in (codeF _ _ r265L0 _) => unfold r265L0
    simp only [run0, run1, run2, run3, run4, noSlot, ownS, ownK, memN, RO.dst, lk, drop, forget, number, Nat.reduceBEq, cut?, splice?, builds, List.length_cons, List.length_nil, List.drop_succ_cons, List.drop_zero, List.take_succ_cons, List.take_zero, List.cons_append, List.nil_append, List.append_nil, List.drop_nil, List.take_nil, Nat.reduceAdd, Nat.reduceLeDiff, Nat.zero_add, Nat.add_zero, ↓reduceIte, Bool.not_true, Bool.not_false, decide_true, decide_false, eq_self, bne_self_eq_false, List.getElem?_cons_zero, List.getElem?_cons_succ, decide_eq_true_eq, Bool.false_eq_true, Bool.true_eq_false, reduceCtorEq, Nat.le_refl, w.len, hlt, bookOk, k1, Bool.true_and]
  · rw [k2]
    simp only [run0, run1, run2, run3, run4, noSlot, ownS, ownK, memN, RO.dst, lk, drop, forget, number, Nat.reduceBEq, cut?, splice?, builds, List.length_cons, List.length_nil, List.drop_succ_cons, List.drop_zero, List.take_succ_cons, List.take_zero, List.cons_append, List.nil_append, List.append_nil, List.drop_nil, List.take_nil, Nat.reduceAdd, Nat.reduceLeDiff, Nat.zero_add, Nat.add_zero, ↓reduceIte, Bool.not_true, Bool.not_false, decide_true, decide_false, eq_self, bne_self_eq_false, List.getElem?_cons_zero, List.getElem?_cons_succ, decide_eq_true_eq, Bool.false_eq_true, Bool.true_eq_false, reduceCtorEq, Nat.le_refl, k3, k4, bookOk, k1, Bool.false_and]
set_option maxHeartbeats 4000000 in
theorem sBookOk_turn (w : SlR 11 (Fl Account.enc) h x xs fp) (hok : ∀ t, t ∈ xs → t.Ok) (i : Nat) (hi : i < xs.length) :
    Turn (loop F Z [1, 3] r241L0 ⟨[(3, .c (.int .i64 (i : Nat)))], [(1, 1, 0)], [(1, [x])], h⟩)
      (loop F Z [1, 3] r241L0 ⟨[(3, .c (.int .i64 ((i + 1 : Nat) : Int)))], [(1, 1, 0)], [(1, [x])], h⟩) (Account.fits xs i) (fun s => lk s.env 2 = some (.c (.bool false)) ∧ s.hp = h) := by
  have hle := w.le2
  have w0 := w.len
  have hlt : (i : Int) < xs.length := by omega
  have hws := wrapS i (by omega)
  have o1 := hok _ (List.getElem_mem hi)
  have e1 : Account.at_ xs i = xs[i] := by simp [Account.at_, List.getElem?_eq_getElem hi]
  have hfit : Account.fits xs i = (xs[i].fine && (i == 0 || decide ((Account.at_ xs (i - 1)).id < xs[i].id))) := by simp only [Account.fits, e1]
  have hpre : 0 < i → IntKind.i64.wrap ((i : Int) - 1) = ((i - 1 : Nat) : Int) := fun hp => by rw [wrapI _ (by omega) (by omega)]; omega
  rw [hfit]
  have hxi := w.idx hi
  have hld := w.load hi
  have hpi : 0 < i → idxR 11 (some x) (some ((i - 1 : Nat) : Int)) = some (.ptr x.sid (i - 1) 0) := fun hp => w.idx (by omega)
  have hpl : 0 < i → ∀ j n, loadP h x.sid (i - 1) j n = cut? (Account.at_ xs (i - 1)).enc j n := fun hp => w.loadD Account.none_ (by omega)
  clear w hfit e1 hok
  generalize Account.at_ xs (i - 1) = pa at *
  generalize xs[i] = a at *
  obtain ⟨id, bal, hold, due, tx⟩ := a
  obtain ⟨a1, a2, a3, a4, a5⟩ := o1
  dsimp only at a1 a2 a3 a4 a5
  obtain ⟨b1, b1'⟩ := a2
  obtain ⟨b2, _⟩ := a3
  obtain ⟨b3, _⟩ := a4
  have hwb : IntKind.u64.wrap (18446744073709551615 - bal) = 18446744073709551615 - bal := wrapU _ (by omega) (by omega)
  have hwc : hold ≤ 18446744073709551615 - bal → IntKind.u64.wrap (18446744073709551615 - bal - hold) = 18446744073709551615 - bal - hold := fun hh => wrapU _ (by omega) (by omega)
  have hwl := w0
  rw [loop_run]
  conv in (codeF _ _ r241L0 _) => unfold r241L0
  simp only [run0, run1, run2, run3, run4, noSlot, ownS, ownK, memN, RO.dst, lk, drop, forget, number, Nat.reduceBEq, cut?, splice?, builds, List.length_cons, List.length_nil, List.drop_succ_cons, List.drop_zero, List.take_succ_cons, List.take_zero, List.cons_append, List.nil_append, List.append_nil, List.drop_nil, List.take_nil, Nat.reduceAdd, Nat.reduceLeDiff, Nat.zero_add, Nat.add_zero, ↓reduceIte, Bool.not_true, Bool.not_false, decide_true, decide_false, eq_self, bne_self_eq_false, List.getElem?_cons_zero, List.getElem?_cons_succ, decide_eq_true_eq, Bool.false_eq_true, Bool.true_eq_false, reduceCtorEq, Nat.le_refl, hwl, hlt, hxi, hld, Account.enc, hwb]
  by_cases hp : 0 < i
  · have g1 : (i : Int) > 0 := by omega
    have hi0 : (i == 0) = false := by simp; omega
    have q1 := hpre hp
    have q2 := hpi hp
    have q3 := hpl hp
    clear hxi hld hpre hpi hpl
    (repeat' ((first | (rw [gF_if]; split) | (rw [condC_if]; split) | (rw [pickR_if]; split)) <;> (rename_i hh; (try simp only [Bool.not_eq_true, decide_eq_true_eq] at hh); simp only [hh, run0, run1, run2, run3, run4, noSlot, ownS, ownK, memN, RO.dst, lk, drop, forget, number, Nat.reduceBEq, cut?, splice?, builds, List.length_cons, List.length_nil, List.drop_succ_cons, List.drop_zero, List.take_succ_cons, List.take_zero, List.cons_append, List.nil_append, List.append_nil, List.drop_nil, List.take_nil, Nat.reduceAdd, Nat.reduceLeDiff, Nat.zero_add, Nat.add_zero, ↓reduceIte, Bool.not_true, Bool.not_false, decide_true, decide_false, eq_self, bne_self_eq_false, List.getElem?_cons_zero, List.getElem?_cons_succ, decide_eq_true_eq, Bool.false_eq_true, Bool.true_eq_false, reduceCtorEq, Nat.le_refl, hws, g1, q1, q2, q3, Account.enc, hwb])))
    all_goals clear q2 q3
    all_goals first
      | (exfalso; omega)
      | exact .inl ⟨by simp_all [Account.fine] <;> omega, rfl⟩
      | exact .inr ⟨by simp_all [Account.fine] <;> omega, _, rfl, rfl, rfl⟩
  · have g1 : ¬ (i : Int) > 0 := by omega
    have hi0 : (i == 0) = true := by simp; omega
    clear hxi hld hpre hpi hpl
    (repeat' ((first | (rw [gF_if]; split) | (rw [condC_if]; split) | (rw [pickR_if]; split)) <;> (rename_i hh; (try simp only [Bool.not_eq_true, decide_eq_true_eq] at hh); simp only [hh, run0, run1, run2, run3, run4, noSlot, ownS, ownK, memN, RO.dst, lk, drop, forget, number, Nat.reduceBEq, cut?, splice?, builds, List.length_cons, List.length_nil, List.drop_succ_cons, List.drop_zero, List.take_succ_cons, List.take_zero, List.cons_append, List.nil_append, List.append_nil, List.drop_nil, List.take_nil, Nat.reduceAdd, Nat.reduceLeDiff, Nat.zero_add, Nat.add_zero, ↓reduceIte, Bool.not_true, Bool.not_false, decide_true, decide_false, eq_self, bne_self_eq_false, List.getElem?_cons_zero, List.getElem?_cons_succ, decide_eq_true_eq, Bool.false_eq_true, Bool.true_eq_false, reduceCtorEq, Nat.le_refl, hws, g1, Account.enc, hwb])))
    all_goals first
      | (exfalso; omega)
      | exact .inl ⟨by simp_all [Account.fine] <;> omega, rfl⟩
      | exact .inr ⟨by simp_all [Account.fine] <;> omega, _, rfl, rfl, rfl⟩
theorem sBookOk_run (hS10 : Has F tS10) (w : SlR 11 (Fl Account.enc) h x xs fp) (hok : ∀ t, t ∈ xs → t.Ok) : call F Z 241 [.agg [x]] h = some (.c (.bool (bookOk xs)), h) := by
  have key := loop_allN (F := F) (Z := Z) (live := [1, 3]) (b := r241L0) xs.length (fun i => ⟨[(3, .c (.int .i64 (i : Nat)))], [(1, 1, 0)], [(1, [x])], h⟩) (Account.fits xs) (fun s => lk s.env 2 = some (.c (.bool false)) ∧ s.hp = h) fun i hi => sBookOk_turn w hok i hi
  rw [call_run F Z (hS10.lk (g := 241) rfl) _ _ rfl]
  simp only [run0, run1, run2, run3, run4, noSlot, ownS, ownK, memN, RO.dst, lk, drop, forget, number, Nat.reduceBEq, cut?, splice?, builds, List.length_cons, List.length_nil, List.drop_succ_cons, List.drop_zero, List.take_succ_cons, List.take_zero, List.cons_append, List.nil_append, List.append_nil, List.drop_nil, List.take_nil, Nat.reduceAdd, Nat.reduceLeDiff, Nat.zero_add, Nat.add_zero, ↓reduceIte, Bool.not_true, Bool.not_false, decide_true, decide_false, eq_self, bne_self_eq_false, List.getElem?_cons_zero, List.getElem?_cons_succ, decide_eq_true_eq, Bool.false_eq_true, Bool.true_eq_false, reduceCtorEq, Nat.le_refl, w.len]
  simp only [show ((0 : Nat) : Int) = 0 from rfl] at key
  have hlt : ¬ (xs.length : Int) < xs.length := by omega
  by_cases hn : (xs.length : Int) > 40
  · have : ¬ (xs.length : Int) ≤ 40 := by omega
    simp only [run0, run1, run2, run3, run4, noSlot, ownS, ownK, memN, RO.dst, lk, drop, forget, number, Nat.reduceBEq, cut?, splice?, builds, List.length_cons, List.length_nil, List.drop_succ_cons, List.drop_zero, List.take_succ_cons, List.take_zero, List.cons_append, List.nil_append, List.append_nil, List.drop_nil, List.take_nil, Nat.reduceAdd, Nat.reduceLeDiff, Nat.zero_add, Nat.add_zero, ↓reduceIte, Bool.not_true, Bool.not_false, decide_true, decide_false, eq_self, bne_self_eq_false, List.getElem?_cons_zero, List.getElem?_cons_succ, decide_eq_true_eq, Bool.false_eq_true, Bool.true_eq_false, reduceCtorEq, Nat.le_refl, hn, bookOk, this, Bool.and_false]
  · have h40 : (xs.length : Int) ≤ 40 := by omega
    simp only [run0, run1, run2, run3, run4, noSlot, ownS, ownK, memN, RO.dst, lk, drop, forget, number, Nat.reduceBEq, cut?, splice?, builds, List.length_cons, List.length_nil, List.drop_succ_cons, List.drop_zero, List.take_succ_cons, List.take_zero, List.cons_append, List.nil_append, List.append_nil, List.drop_nil, List.take_nil, Nat.reduceAdd, Nat.reduceLeDiff, Nat.zero_add, Nat.add_zero, ↓reduceIte, Bool.not_true, Bool.not_false, decide_true, decide_false, eq_self, bne_self_eq_false, List.getElem?_cons_zero, List.getElem?_cons_succ, decide_eq_true_eq, Bool.false_eq_true, Bool.true_eq_false, reduceCtorEq, Nat.le_refl, hn]
    rcases key with ⟨k1, k2⟩ | ⟨k1, s, k2, k3, k4⟩
    · rw [k2, loop_run]
      conv in (codeF _ _ r241L0 _) => unfold r241L0
      simp only [run0, run1, run2, run3, run4, noSlot, ownS, ownK, memN, RO.dst, lk, drop, forget, number, Nat.reduceBEq, cut?, splice?, builds, List.length_cons, List.length_nil, List.drop_succ_cons, List.drop_zero, List.take_succ_cons, List.take_zero, List.cons_append, List.nil_append, List.append_nil, List.drop_nil, List.take_nil, Nat.reduceAdd, Nat.reduceLeDiff, Nat.zero_add, Nat.add_zero, ↓reduceIte, Bool.not_true, Bool.not_false, decide_true, decide_false, eq_self, bne_self_eq_false, List.getElem?_cons_zero, List.getElem?_cons_succ, decide_eq_true_eq, Bool.false_eq_true, Bool.true_eq_false, reduceCtorEq, Nat.le_refl, w.len, hlt, bookOk, k1, Bool.true_and, h40]
    · rw [k2]
      simp only [run0, run1, run2, run3, run4, noSlot, ownS, ownK, memN, RO.dst, lk, drop, forget, number, Nat.reduceBEq, cut?, splice?, builds, List.length_cons, List.length_nil, List.drop_succ_cons, List.drop_zero, List.take_succ_cons, List.take_zero, List.cons_append, List.nil_append, List.append_nil, List.drop_nil, List.take_nil, Nat.reduceAdd, Nat.reduceLeDiff, Nat.zero_add, Nat.add_zero, ↓reduceIte, Bool.not_true, Bool.not_false, decide_true, decide_false, eq_self, bne_self_eq_false, List.getElem?_cons_zero, List.getElem?_cons_succ, decide_eq_true_eq, Bool.false_eq_true, Bool.true_eq_false, reduceCtorEq, Nat.le_refl, k3, k4, bookOk, k1, Bool.false_and]
end
end Go.Proofs.Ytcdlbjomdokmiaa.A
