/- The functions that the statement reaches, part 1: bodies and what they compute. No condition. -/
import Derived.Test.YtlfepembgjjejaaA1
import Derived.Test.YtlfepembgjjejaaB8
import Derived.Test.YtlfepembgjjejaaB6
/- The compact code of some functions: impl.totalOf, impl.copyBook, impl.isBook, impl.OpenAccount, impl.CloseAccount, impl.Deposit, impl.Withdraw, impl.MoveMoney, impl.accountOf, impl.CloseAccount$1, impl.change, impl.Deposit$1, impl.Withdraw$1. -/
namespace Go.Proofs.Ytlfepembgjjejaa.A
open Go
/-- A loop of impl.totalOf. -/
def r209L0 : RC :=
 .seq (.reg [⟨none, .bin 14 .lss (.t 13) (.t 12)⟩])
    (.seq (.cond (.t 14)
     (.skip)
     (.exit 0))
    (.seq (.block 1 (.seq (.reg [⟨none, .idx 15 11 (.t 11) (.t 13)⟩,
       ⟨none, .load 16 15 5 true⟩,
       ⟨none, .loc 7 [.int .u64 0, .int .u64 0, .int .u64 0, .int .u64 0, .int .i64 0]⟩,
       ⟨none, .store 7 5 (.t 16)⟩])
      (.seq (.reg [⟨none, .mov 18 (.t 5)⟩,
       ⟨none, .fad 19 7 1⟩,
       ⟨none, .load 20 19 1 false⟩,
       ⟨none, .fad 21 7 2⟩,
       ⟨none, .load 22 21 1 false⟩,
       ⟨none, .bin 23 .add (.t 20) (.t 22)⟩,
       ⟨none, .add 24 (.t 18) (.t 23) (.k (.int .u64 0))⟩,
       ⟨none, .mov 17 (.t 24)⟩,
       ⟨none, .ext 25 (.t 17) 0⟩,
       ⟨none, .ext 26 (.t 17) 1⟩,
       ⟨none, .mov 8 (.t 25)⟩,
       ⟨none, .mov 9 (.t 26)⟩])
      (.seq (.reg [⟨none, .mov 27 (.t 8)⟩,
       ⟨none, .mov 5 (.t 27)⟩])
      (.reg [⟨none, .mov 28 (.t 4)⟩,
      ⟨none, .mov 29 (.t 9)⟩,
      ⟨none, .bin 30 .add (.t 28) (.t 29)⟩,
      ⟨none, .mov 4 (.t 30)⟩])))))
    (.reg [⟨none, .bin 31 .add (.t 13) (.k (.int .i64 1))⟩,
    ⟨none, .mov 13 (.t 31)⟩])))
/-- impl.totalOf -/
def r209 : RF :=
 ⟨1, [.tmp 2, .tmp 3],
 .seq (.reg [⟨none, .locb 1 (.t 0)⟩,
  ⟨none, .mov 2 (.k (.int .u64 0))⟩,
  ⟨none, .mov 3 (.k (.int .u64 0))⟩])
 (.seq (.reg [⟨none, .mov 4 (.k (.int .u64 0))⟩,
  ⟨none, .mov 5 (.k (.int .u64 0))⟩])
 (.seq (.seq (.reg [⟨none, .fad 10 1 0⟩,
   ⟨none, .load 11 10 1 false⟩,
   ⟨none, .len 12 (.t 11)⟩,
   ⟨none, .mov 13 (.k (.int .i64 0))⟩])
  (.block 0 (.loop [4, 5, 11, 12, 13]
   r209L0)))
 (.seq (.reg [⟨none, .mov 32 (.t 4)⟩,
  ⟨none, .mov 33 (.t 5)⟩,
  ⟨none, .mov 2 (.t 32)⟩,
  ⟨none, .mov 3 (.t 33)⟩])
 (.ret))))⟩
/-- impl.copyBook -/
def r260 : RF :=
 ⟨1, [.cell 2 1 true],
 .seq (.reg [⟨none, .locb 1 (.t 0)⟩,
  ⟨none, .loc 2 [.nil]⟩])
 (.seq (.reg [⟨none, .lit 3 11 0 [.int .u64 0, .int .u64 0, .int .u64 0, .int .u64 0, .int .i64 0] []⟩,
  ⟨none, .fad 4 1 0⟩,
  ⟨none, .load 5 4 1 false⟩,
  ⟨none, .app 6 11 40 (.t 3) (.t 5)⟩,
  ⟨none, .build 7 [.nil] [(0, 1, (.t 6))]⟩,
  ⟨none, .store 2 1 (.t 7)⟩])
 (.ret))⟩
/-- A loop of impl.isBook. -/
def r265L0 : RC :=
 .seq (.reg [⟨none, .bin 13 .lss (.t 12) (.t 11)⟩])
    (.seq (.cond (.t 13)
     (.skip)
     (.exit 0))
    (.seq (.block 1 (.seq (.reg [⟨none, .mov 14 (.t 12)⟩,
       ⟨none, .idx 15 11 (.t 10) (.t 12)⟩,
       ⟨none, .load 16 15 5 true⟩,
       ⟨none, .loc 4 [.int .u64 0, .int .u64 0, .int .u64 0, .int .u64 0, .int .i64 0]⟩,
       ⟨none, .mov 3 (.t 14)⟩,
       ⟨none, .store 4 5 (.t 16)⟩])
      (.seq (.reg [⟨none, .fad 18 4 1⟩,
       ⟨none, .load 19 18 1 false⟩,
       ⟨none, .fad 20 4 2⟩,
       ⟨none, .load 21 20 1 false⟩,
       ⟨none, .add 22 (.t 19) (.t 21) (.k (.int .u64 0))⟩,
       ⟨none, .mov 17 (.t 22)⟩,
       ⟨none, .ext 23 (.t 17) 0⟩,
       ⟨none, .ext 24 (.t 17) 1⟩,
       ⟨none, .mov 5 (.t 23)⟩,
       ⟨none, .mov 6 (.t 24)⟩])
      (.seq (.reg [⟨none, .fad 26 4 1⟩,
       ⟨none, .load 27 26 1 false⟩,
       ⟨none, .fad 28 4 2⟩,
       ⟨none, .load 29 28 1 false⟩,
       ⟨none, .bin 30 .add (.t 27) (.t 29)⟩,
       ⟨none, .fad 31 4 3⟩,
       ⟨none, .load 32 31 1 false⟩,
       ⟨none, .add 33 (.t 30) (.t 32) (.k (.int .u64 0))⟩,
       ⟨none, .mov 25 (.t 33)⟩,
       ⟨none, .ext 34 (.t 25) 0⟩,
       ⟨none, .ext 35 (.t 25) 1⟩,
       ⟨none, .mov 7 (.t 34)⟩,
       ⟨none, .mov 8 (.t 35)⟩])
      (.seq (.reg [⟨none, .chk []⟩,
       ⟨none, .mov 36 (.t 6)⟩,
       ⟨none, .mov 37 (.t 8)⟩,
       ⟨none, .bin 38 .add (.t 36) (.t 37)⟩,
       ⟨none, .bin 39 .gtr (.t 38) (.k (.int .u64 0))⟩,
       ⟨none, .mov 40 (.t 39)⟩,
       ⟨some (40, false), .fad 41 4 4⟩,
       ⟨some (40, false), .load 42 41 1 false⟩,
       ⟨some (40, false), .bin 43 .lss (.t 42) (.k (.int .i64 0))⟩,
       ⟨none, .pick 44 (.t 40) (.k (.bool true)) (.t 43)⟩,
       ⟨none, .mov 45 (.t 44)⟩,
       ⟨some (45, false), .fad 46 4 4⟩,
       ⟨some (45, false), .load 47 46 1 false⟩,
       ⟨some (45, false), .bin 48 .eql (.t 47) (.k (.int .i64 0))⟩,
       ⟨some (45, false), .mov 49 (.t 48)⟩,
       ⟨some (49, true), .fad 50 4 2⟩,
       ⟨some (49, true), .load 51 50 1 false⟩,
       ⟨some (49, true), .bin 52 .neq (.t 51) (.k (.int .u64 0))⟩,
       ⟨some (49, true), .mov 53 (.t 52)⟩,
       ⟨some (53, false), .fad 54 4 3⟩,
       ⟨some (53, false), .load 55 54 1 false⟩,
       ⟨some (53, false), .bin 56 .neq (.t 55) (.k (.int .u64 0))⟩,
       ⟨some (49, true), .pick 57 (.t 53) (.k (.bool true)) (.t 56)⟩,
       ⟨some (45, false), .pick 58 (.t 49) (.t 57) (.k (.bool false))⟩,
       ⟨none, .pick 59 (.t 45) (.k (.bool true)) (.t 58)⟩,
       ⟨none, .mov 60 (.t 59)⟩,
       ⟨some (60, false), .mov 61 (.t 3)⟩,
       ⟨some (60, false), .bin 62 .gtr (.t 61) (.k (.int .i64 0))⟩,
       ⟨some (60, false), .mov 63 (.t 62)⟩,
       ⟨some (63, true), .mov 66 (.t 3)⟩,
       ⟨some (63, true), .bin 67 .sub (.t 66) (.k (.int .i64 1))⟩,
       ⟨some (63, true), .fad 64 1 0⟩,
       ⟨some (63, true), .load 65 64 1 false⟩,
       ⟨some (63, true), .idx 68 11 (.t 65) (.t 67)⟩,
       ⟨some (63, true), .fad 69 68 0⟩,
       ⟨some (63, true), .load 70 69 1 false⟩,
       ⟨some (63, true), .fad 71 4 0⟩,
       ⟨some (63, true), .load 72 71 1 false⟩,
       ⟨some (63, true), .bin 73 .geq (.t 70) (.t 72)⟩,
       ⟨some (60, false), .pick 74 (.t 63) (.t 73) (.k (.bool false))⟩,
       ⟨none, .pick 75 (.t 60) (.k (.bool true)) (.t 74)⟩])
      (.cond (.t 75)
      (.seq (.reg [⟨none, .mov 2 (.k (.bool false))⟩])
       (.ret))
      (.skip)))))))
    (.reg [⟨none, .bin 76 .add (.t 12) (.k (.int .i64 1))⟩,
    ⟨none, .mov 12 (.t 76)⟩])))
/-- impl.isBook -/
def r265 : RF :=
 ⟨1, [.tmp 2],
 .seq (.reg [⟨none, .locb 1 (.t 0)⟩,
  ⟨none, .mov 2 (.k (.bool false))⟩])
 (.seq (.seq (.reg [⟨none, .fad 9 1 0⟩,
   ⟨none, .load 10 9 1 false⟩,
   ⟨none, .len 11 (.t 10)⟩,
   ⟨none, .mov 12 (.k (.int .i64 0))⟩])
  (.block 0 (.loop [1, 10, 11, 12]
   r265L0)))
 (.seq (.reg [⟨none, .fad 77 1 0⟩,
  ⟨none, .load 78 77 1 false⟩,
  ⟨none, .len 79 (.t 78)⟩,
  ⟨none, .bin 80 .leq (.t 79) (.k (.int .i64 40))⟩,
  ⟨none, .mov 2 (.t 80)⟩])
 (.ret)))⟩
/-- impl.OpenAccount -/
def r337 : RF :=
 ⟨2, [.cell 4 1 true, .tmp 5],
 .seq (.reg [⟨none, .locb 2 (.t 0)⟩,
  ⟨none, .loc 4 [.nil]⟩,
  ⟨none, .mov 5 (.k (.int .i64 0))⟩])
 (.seq (.reg [⟨none, .load 9 2 1 true⟩,
  ⟨none, .call (some 10) 260 [(.t 9)] false⟩,
  ⟨none, .loc 6 [.nil]⟩,
  ⟨none, .store 6 1 (.t 10)⟩])
 (.seq (.reg [⟨none, .load 12 2 1 true⟩,
  ⟨none, .mov 13 (.t 1)⟩,
  ⟨none, .call (some 14) 342 [(.t 12), (.t 13)] false⟩,
  ⟨none, .mov 11 (.t 14)⟩,
  ⟨none, .ext 15 (.t 11) 0⟩,
  ⟨none, .ext 16 (.t 11) 1⟩,
  ⟨none, .mov 7 (.t 15)⟩,
  ⟨none, .mov 8 (.t 16)⟩])
 (.seq (.block 0 (.seq (.reg [⟨none, .load 18 2 1 true⟩,
    ⟨none, .call (some 19) 265 [(.t 18)] false⟩,
    ⟨none, .not 20 (.t 19)⟩,
    ⟨none, .mov 17 (.t 20)⟩])
   (.cond (.t 17)
   (.seq (.reg [⟨none, .load 21 6 1 true⟩,
     ⟨none, .store 4 1 (.t 21)⟩,
     ⟨none, .mov 5 (.k (.int .i64 1))⟩])
    (.ret))
   (.seq (.reg [⟨none, .mov 23 (.t 8)⟩,
     ⟨none, .mov 22 (.t 23)⟩])
    (.cond (.t 22)
    (.seq (.reg [⟨none, .load 24 6 1 true⟩,
      ⟨none, .store 4 1 (.t 24)⟩,
      ⟨none, .mov 5 (.k (.int .i64 3))⟩])
     (.ret))
    (.seq (.reg [⟨none, .fad 26 2 0⟩,
      ⟨none, .load 27 26 1 false⟩,
      ⟨none, .len 28 (.t 27)⟩,
      ⟨none, .bin 29 .eql (.t 28) (.k (.int .i64 40))⟩,
      ⟨none, .mov 25 (.t 29)⟩])
     (.cond (.t 25)
     (.seq (.reg [⟨none, .load 30 6 1 true⟩,
       ⟨none, .store 4 1 (.t 30)⟩,
       ⟨none, .mov 5 (.k (.int .i64 1))⟩])
      (.ret))
     (.skip))))))))
 (.seq (.reg [⟨none, .fad 31 6 0⟩,
  ⟨none, .load 32 31 1 false⟩,
  ⟨none, .mov 33 (.t 7)⟩,
  ⟨none, .mov 34 (.t 1)⟩,
  ⟨none, .build 35 [.int .u64 0, .int .u64 0, .int .u64 0, .int .u64 0, .int .i64 0] [(0, 1, (.t 34))]⟩,
  ⟨none, .lit 36 11 1 [.int .u64 0, .int .u64 0, .int .u64 0, .int .u64 0, .int .i64 0] [(0, (.t 35))]⟩,
  ⟨none, .call (some 37) 343 [(.t 32), (.t 33), (.t 36)] false⟩,
  ⟨none, .fad 38 6 0⟩,
  ⟨none, .store 38 1 (.t 37)⟩])
 (.seq (.reg [⟨none, .load 39 6 1 true⟩,
  ⟨none, .store 4 1 (.t 39)⟩,
  ⟨none, .mov 5 (.k (.int .i64 0))⟩])
 (.ret))))))⟩
/-- impl.CloseAccount -/
def r338 : RF :=
 ⟨2, [.cell 4 1 true, .tmp 5],
 .seq (.reg [⟨none, .locb 2 (.t 0)⟩,
  ⟨none, .loc 4 [.nil]⟩,
  ⟨none, .mov 5 (.k (.int .i64 0))⟩])
 (.seq (.reg [⟨none, .load 6 2 1 true⟩,
  ⟨none, .mov 7 (.t 1)⟩,
  ⟨none, .call (some 8) 345 [(.t 6), (.t 7), (.k (.fn 344 []))] false⟩,
  ⟨none, .ext 9 (.t 8) 0⟩,
  ⟨none, .ext 10 (.t 8) 1⟩,
  ⟨none, .store 4 1 (.t 9)⟩,
  ⟨none, .mov 5 (.t 10)⟩])
 (.ret))⟩
/-- impl.Deposit -/
def r339 : RF :=
 ⟨3, [.cell 6 1 true, .tmp 7],
 .seq (.reg [⟨none, .locb 3 (.t 0)⟩,
  ⟨none, .newb 5 (.t 2)⟩,
  ⟨none, .loc 6 [.nil]⟩,
  ⟨none, .mov 7 (.k (.int .i64 0))⟩])
 (.seq (.reg [⟨none, .load 8 3 1 true⟩,
  ⟨none, .mov 9 (.t 1)⟩,
  ⟨none, .mkf 10 346 [5]⟩,
  ⟨none, .call (some 11) 345 [(.t 8), (.t 9), (.t 10)] false⟩,
  ⟨none, .ext 12 (.t 11) 0⟩,
  ⟨none, .ext 13 (.t 11) 1⟩,
  ⟨none, .store 6 1 (.t 12)⟩,
  ⟨none, .mov 7 (.t 13)⟩])
 (.ret))⟩
/-- impl.Withdraw -/
def r340 : RF :=
 ⟨3, [.cell 6 1 true, .tmp 7],
 .seq (.reg [⟨none, .locb 3 (.t 0)⟩,
  ⟨none, .newb 5 (.t 2)⟩,
  ⟨none, .loc 6 [.nil]⟩,
  ⟨none, .mov 7 (.k (.int .i64 0))⟩])
 (.seq (.reg [⟨none, .load 8 3 1 true⟩,
  ⟨none, .mov 9 (.t 1)⟩,
  ⟨none, .mkf 10 347 [5]⟩,
  ⟨none, .call (some 11) 345 [(.t 8), (.t 9), (.t 10)] false⟩,
  ⟨none, .ext 12 (.t 11) 0⟩,
  ⟨none, .ext 13 (.t 11) 1⟩,
  ⟨none, .store 6 1 (.t 12)⟩,
  ⟨none, .mov 7 (.t 13)⟩])
 (.ret))⟩
/-- impl.MoveMoney -/
def r341 : RF :=
 ⟨4, [.cell 8 1 true, .tmp 9],
 .seq (.reg [⟨none, .locb 4 (.t 0)⟩,
  ⟨none, .loc 8 [.nil]⟩,
  ⟨none, .mov 9 (.k (.int .i64 0))⟩])
 (.seq (.reg [⟨none, .load 15 4 1 true⟩,
  ⟨none, .call (some 16) 260 [(.t 15)] false⟩,
  ⟨none, .loc 10 [.nil]⟩,
  ⟨none, .store 10 1 (.t 16)⟩])
 (.seq (.reg [⟨none, .load 18 4 1 true⟩,
  ⟨none, .mov 19 (.t 1)⟩,
  ⟨none, .call (some 20) 342 [(.t 18), (.t 19)] false⟩,
  ⟨none, .mov 17 (.t 20)⟩,
  ⟨none, .ext 21 (.t 17) 0⟩,
  ⟨none, .ext 22 (.t 17) 1⟩,
  ⟨none, .mov 11 (.t 21)⟩,
  ⟨none, .mov 12 (.t 22)⟩])
 (.seq (.reg [⟨none, .load 24 4 1 true⟩,
  ⟨none, .mov 25 (.t 2)⟩,
  ⟨none, .call (some 26) 342 [(.t 24), (.t 25)] false⟩,
  ⟨none, .mov 23 (.t 26)⟩,
  ⟨none, .ext 27 (.t 23) 0⟩,
  ⟨none, .ext 28 (.t 23) 1⟩,
  ⟨none, .mov 13 (.t 27)⟩,
  ⟨none, .mov 14 (.t 28)⟩])
 (.seq (.block 0 (.seq (.reg [⟨none, .load 30 4 1 true⟩,
    ⟨none, .call (some 31) 265 [(.t 30)] false⟩,
    ⟨none, .not 32 (.t 31)⟩,
    ⟨none, .mov 33 (.t 32)⟩,
    ⟨some (33, false), .mov 34 (.t 1)⟩,
    ⟨some (33, false), .mov 35 (.t 2)⟩,
    ⟨some (33, false), .bin 36 .eql (.t 34) (.t 35)⟩,
    ⟨none, .pick 37 (.t 33) (.k (.bool true)) (.t 36)⟩,
    ⟨none, .mov 29 (.t 37)⟩])
   (.cond (.t 29)
   (.seq (.reg [⟨none, .load 38 10 1 true⟩,
     ⟨none, .store 8 1 (.t 38)⟩,
     ⟨none, .mov 9 (.k (.int .i64 1))⟩])
    (.ret))
   (.seq (.reg [⟨none, .mov 40 (.t 12)⟩,
     ⟨none, .not 41 (.t 40)⟩,
     ⟨none, .mov 42 (.t 41)⟩,
     ⟨some (42, false), .mov 43 (.t 14)⟩,
     ⟨some (42, false), .not 44 (.t 43)⟩,
     ⟨none, .pick 45 (.t 42) (.k (.bool true)) (.t 44)⟩,
     ⟨none, .mov 39 (.t 45)⟩])
    (.cond (.t 39)
    (.seq (.reg [⟨none, .load 46 10 1 true⟩,
      ⟨none, .store 8 1 (.t 46)⟩,
      ⟨none, .mov 9 (.k (.int .i64 2))⟩])
     (.ret))
    (.seq (.reg [⟨none, .fad 48 4 0⟩,
      ⟨none, .load 49 48 1 false⟩,
      ⟨none, .mov 50 (.t 11)⟩,
      ⟨none, .idx 51 11 (.t 49) (.t 50)⟩,
      ⟨none, .fad 52 51 4⟩,
      ⟨none, .load 53 52 1 false⟩,
      ⟨none, .bin 54 .neq (.t 53) (.k (.int .i64 0))⟩,
      ⟨none, .mov 55 (.t 54)⟩,
      ⟨some (55, false), .fad 56 4 0⟩,
      ⟨some (55, false), .load 57 56 1 false⟩,
      ⟨some (55, false), .mov 58 (.t 13)⟩,
      ⟨some (55, false), .idx 59 11 (.t 57) (.t 58)⟩,
      ⟨some (55, false), .fad 60 59 4⟩,
      ⟨some (55, false), .load 61 60 1 false⟩,
      ⟨some (55, false), .bin 62 .neq (.t 61) (.k (.int .i64 0))⟩,
      ⟨none, .pick 63 (.t 55) (.k (.bool true)) (.t 62)⟩,
      ⟨none, .mov 47 (.t 63)⟩])
     (.cond (.t 47)
     (.seq (.reg [⟨none, .load 64 10 1 true⟩,
       ⟨none, .store 8 1 (.t 64)⟩,
       ⟨none, .mov 9 (.k (.int .i64 6))⟩])
      (.ret))
     (.seq (.reg [⟨none, .fad 66 4 0⟩,
       ⟨none, .load 67 66 1 false⟩,
       ⟨none, .mov 68 (.t 11)⟩,
       ⟨none, .idx 69 11 (.t 67) (.t 68)⟩,
       ⟨none, .fad 70 69 1⟩,
       ⟨none, .load 71 70 1 false⟩,
       ⟨none, .mov 72 (.t 3)⟩,
       ⟨none, .bin 73 .lss (.t 71) (.t 72)⟩,
       ⟨none, .mov 65 (.t 73)⟩])
      (.cond (.t 65)
      (.seq (.reg [⟨none, .load 74 10 1 true⟩,
        ⟨none, .store 8 1 (.t 74)⟩,
        ⟨none, .mov 9 (.k (.int .i64 4))⟩])
       (.ret))
      (.seq (.reg [⟨none, .fad 76 4 0⟩,
        ⟨none, .load 77 76 1 false⟩,
        ⟨none, .mov 78 (.t 13)⟩,
        ⟨none, .idx 79 11 (.t 77) (.t 78)⟩,
        ⟨none, .fad 80 79 1⟩,
        ⟨none, .load 81 80 1 false⟩,
        ⟨none, .mov 82 (.t 3)⟩,
        ⟨none, .bin 83 .add (.t 81) (.t 82)⟩,
        ⟨none, .mov 84 (.t 3)⟩,
        ⟨none, .bin 85 .lss (.t 83) (.t 84)⟩,
        ⟨none, .mov 75 (.t 85)⟩])
       (.cond (.t 75)
       (.seq (.reg [⟨none, .load 86 10 1 true⟩,
         ⟨none, .store 8 1 (.t 86)⟩,
         ⟨none, .mov 9 (.k (.int .i64 5))⟩])
        (.ret))
       (.skip))))))))))))
 (.seq (.reg [⟨none, .fad 87 10 0⟩,
  ⟨none, .load 88 87 1 false⟩,
  ⟨none, .mov 89 (.t 11)⟩,
  ⟨none, .idx 90 11 (.t 88) (.t 89)⟩,
  ⟨none, .fad 91 90 1⟩,
  ⟨none, .load 92 91 1 false⟩,
  ⟨none, .mov 93 (.t 3)⟩,
  ⟨none, .bin 94 .sub (.t 92) (.t 93)⟩,
  ⟨none, .idx 95 11 (.t 88) (.t 89)⟩,
  ⟨none, .fad 96 95 1⟩,
  ⟨none, .store 96 1 (.t 94)⟩])
 (.seq (.reg [⟨none, .fad 97 10 0⟩,
  ⟨none, .load 98 97 1 false⟩,
  ⟨none, .mov 99 (.t 13)⟩,
  ⟨none, .idx 100 11 (.t 98) (.t 99)⟩,
  ⟨none, .fad 101 100 1⟩,
  ⟨none, .load 102 101 1 false⟩,
  ⟨none, .mov 103 (.t 3)⟩,
  ⟨none, .bin 104 .add (.t 102) (.t 103)⟩,
  ⟨none, .idx 105 11 (.t 98) (.t 99)⟩,
  ⟨none, .fad 106 105 1⟩,
  ⟨none, .store 106 1 (.t 104)⟩])
 (.seq (.reg [⟨none, .load 107 10 1 true⟩,
  ⟨none, .store 8 1 (.t 107)⟩,
  ⟨none, .mov 9 (.k (.int .i64 0))⟩])
 (.ret))))))))⟩
/-- A loop of impl.accountOf. -/
def r342L0 : RC :=
 .seq (.seq (.reg [⟨none, .mov 7 (.t 6)⟩,
      ⟨none, .fad 8 2 0⟩,
      ⟨none, .load 9 8 1 false⟩,
      ⟨none, .len 10 (.t 9)⟩,
      ⟨none, .bin 11 .lss (.t 7) (.t 10)⟩,
      ⟨none, .mov 12 (.t 11)⟩,
      ⟨some (12, true), .fad 13 2 0⟩,
      ⟨some (12, true), .load 14 13 1 false⟩,
      ⟨some (12, true), .mov 15 (.t 6)⟩,
      ⟨some (12, true), .idx 16 11 (.t 14) (.t 15)⟩,
      ⟨some (12, true), .fad 17 16 0⟩,
      ⟨some (12, true), .load 18 17 1 false⟩,
      ⟨some (12, true), .mov 19 (.t 1)⟩,
      ⟨some (12, true), .bin 20 .lss (.t 18) (.t 19)⟩,
      ⟨none, .pick 21 (.t 12) (.t 20) (.k (.bool false))⟩])
     (.cond (.t 21)
     (.skip)
     (.exit 0)))
    (.block 1 (.reg [⟨none, .mov 22 (.t 6)⟩,
     ⟨none, .bin 23 .add (.t 22) (.k (.int .i64 1))⟩,
     ⟨none, .mov 6 (.t 23)⟩]))
/-- impl.accountOf -/
def r342 : RF :=
 ⟨2, [.tmp 4, .tmp 5],
 .seq (.reg [⟨none, .locb 2 (.t 0)⟩,
  ⟨none, .mov 4 (.k (.int .i64 0))⟩,
  ⟨none, .mov 5 (.k (.bool false))⟩])
 (.seq (.reg [⟨none, .mov 6 (.k (.int .i64 0))⟩])
 (.seq (.block 0 (.loop [1, 2, 6]
   r342L0))
 (.seq (.reg [⟨none, .chk []⟩,
  ⟨none, .mov 24 (.t 6)⟩,
  ⟨none, .mov 25 (.t 6)⟩,
  ⟨none, .fad 26 2 0⟩,
  ⟨none, .load 27 26 1 false⟩,
  ⟨none, .len 28 (.t 27)⟩,
  ⟨none, .bin 29 .lss (.t 25) (.t 28)⟩,
  ⟨none, .mov 30 (.t 29)⟩,
  ⟨some (30, true), .mov 33 (.t 6)⟩,
  ⟨some (30, true), .mov 37 (.t 1)⟩,
  ⟨none, .mov 4 (.t 24)⟩,
  ⟨some (30, true), .fad 31 2 0⟩,
  ⟨some (30, true), .load 32 31 1 false⟩,
  ⟨some (30, true), .idx 34 11 (.t 32) (.t 33)⟩,
  ⟨some (30, true), .fad 35 34 0⟩,
  ⟨some (30, true), .load 36 35 1 false⟩,
  ⟨some (30, true), .bin 38 .eql (.t 36) (.t 37)⟩,
  ⟨none, .pick 39 (.t 30) (.t 38) (.k (.bool false))⟩,
  ⟨none, .mov 5 (.t 39)⟩])
 (.ret))))⟩
/-- impl.CloseAccount$1 -/
def r344 : RF :=
 ⟨1, [.tmp 2],
 .seq (.reg [⟨none, .mov 2 (.k (.int .i64 0))⟩])
 (.seq (.seq (.reg [⟨none, .mov 3 (.t 0)⟩,
   ⟨none, .nilc 4 (.t 3)⟩,
   ⟨none, .fad 5 4 4⟩,
   ⟨none, .load 6 5 1 false⟩,
   ⟨none, .bin 7 .neq (.t 6) (.k (.int .i64 0))⟩])
  (.cond (.t 7)
  (.seq (.reg [⟨none, .mov 2 (.k (.int .i64 6))⟩])
   (.ret))
  (.skip)))
 (.seq (.seq (.reg [⟨none, .mov 8 (.t 0)⟩,
   ⟨none, .nilc 9 (.t 8)⟩,
   ⟨none, .fad 10 9 1⟩,
   ⟨none, .load 11 10 1 false⟩,
   ⟨none, .bin 12 .neq (.t 11) (.k (.int .u64 0))⟩])
  (.cond (.t 12)
  (.seq (.reg [⟨none, .mov 2 (.k (.int .i64 4))⟩])
   (.ret))
  (.skip)))
 (.seq (.reg [⟨none, .mov 13 (.t 0)⟩,
  ⟨none, .nilc 14 (.t 13)⟩,
  ⟨none, .fad 15 14 4⟩,
  ⟨none, .store 15 1 (.k (.int .i64 (-1)))⟩])
 (.seq (.reg [⟨none, .mov 2 (.k (.int .i64 0))⟩])
 (.ret)))))⟩
/-- impl.change -/
def r345 : RF :=
 ⟨3, [.cell 6 1 true, .tmp 7],
 .seq (.reg [⟨none, .locb 3 (.t 0)⟩,
  ⟨none, .loc 6 [.nil]⟩,
  ⟨none, .mov 7 (.k (.int .i64 0))⟩])
 (.seq (.reg [⟨none, .load 12 3 1 true⟩,
  ⟨none, .call (some 13) 260 [(.t 12)] false⟩,
  ⟨none, .loc 8 [.nil]⟩,
  ⟨none, .store 8 1 (.t 13)⟩])
 (.seq (.seq (.reg [⟨none, .load 14 3 1 true⟩,
   ⟨none, .call (some 15) 265 [(.t 14)] false⟩,
   ⟨none, .not 16 (.t 15)⟩])
  (.cond (.t 16)
  (.seq (.reg [⟨none, .load 17 8 1 true⟩,
    ⟨none, .store 6 1 (.t 17)⟩,
    ⟨none, .mov 7 (.k (.int .i64 1))⟩])
   (.ret))
  (.skip)))
 (.seq (.reg [⟨none, .load 19 3 1 true⟩,
  ⟨none, .mov 20 (.t 1)⟩,
  ⟨none, .call (some 21) 342 [(.t 19), (.t 20)] false⟩,
  ⟨none, .mov 18 (.t 21)⟩,
  ⟨none, .ext 22 (.t 18) 0⟩,
  ⟨none, .ext 23 (.t 18) 1⟩,
  ⟨none, .mov 9 (.t 22)⟩,
  ⟨none, .mov 10 (.t 23)⟩])
 (.seq (.seq (.reg [⟨none, .mov 24 (.t 10)⟩,
   ⟨none, .not 25 (.t 24)⟩])
  (.cond (.t 25)
  (.seq (.reg [⟨none, .load 26 8 1 true⟩,
    ⟨none, .store 6 1 (.t 26)⟩,
    ⟨none, .mov 7 (.k (.int .i64 2))⟩])
   (.ret))
  (.skip)))
 (.seq (.seq (.reg [⟨none, .mov 27 (.t 2)⟩,
   ⟨none, .fad 28 8 0⟩,
   ⟨none, .load 29 28 1 false⟩,
   ⟨none, .mov 30 (.t 9)⟩,
   ⟨none, .idx 31 11 (.t 29) (.t 30)⟩,
   ⟨none, .calv (some 32) (.t 27) [(.t 31)] false⟩,
   ⟨none, .mov 11 (.t 32)⟩])
  (.seq (.reg [⟨none, .mov 33 (.t 11)⟩,
   ⟨none, .bin 34 .neq (.t 33) (.k (.int .i64 0))⟩])
  (.cond (.t 34)
  (.seq (.reg [⟨none, .load 35 3 1 true⟩,
    ⟨none, .call (some 36) 260 [(.t 35)] false⟩,
    ⟨none, .mov 37 (.t 11)⟩,
    ⟨none, .store 6 1 (.t 36)⟩,
    ⟨none, .mov 7 (.t 37)⟩])
   (.ret))
  (.skip))))
 (.seq (.seq (.reg [⟨none, .fad 38 8 0⟩,
   ⟨none, .load 39 38 1 false⟩,
   ⟨none, .mov 40 (.t 9)⟩,
   ⟨none, .idx 41 11 (.t 39) (.t 40)⟩,
   ⟨none, .fad 42 41 4⟩,
   ⟨none, .load 43 42 1 false⟩,
   ⟨none, .bin 44 .eql (.t 43) (.k (.int .i64 (-1)))⟩])
  (.cond (.t 44)
  (.reg [⟨none, .fad 45 8 0⟩,
   ⟨none, .load 46 45 1 false⟩,
   ⟨none, .mov 47 (.t 9)⟩,
   ⟨none, .mov 48 (.t 9)⟩,
   ⟨none, .bin 49 .add (.t 48) (.k (.int .i64 1))⟩,
   ⟨none, .call (some 50) 348 [(.t 46), (.t 47), (.t 49)] false⟩,
   ⟨none, .fad 51 8 0⟩,
   ⟨none, .store 51 1 (.t 50)⟩])
  (.skip)))
 (.seq (.reg [⟨none, .load 52 8 1 true⟩,
  ⟨none, .store 6 1 (.t 52)⟩,
  ⟨none, .mov 7 (.k (.int .i64 0))⟩])
 (.ret))))))))⟩
/-- impl.Deposit$1 -/
def r346 : RF :=
 ⟨2, [.tmp 3],
 .seq (.reg [⟨none, .mov 3 (.k (.int .i64 0))⟩])
 (.seq (.seq (.reg [⟨none, .mov 4 (.t 0)⟩,
   ⟨none, .nilc 5 (.t 4)⟩,
   ⟨none, .fad 6 5 4⟩,
   ⟨none, .load 7 6 1 false⟩,
   ⟨none, .bin 8 .neq (.t 7) (.k (.int .i64 0))⟩])
  (.cond (.t 8)
  (.seq (.reg [⟨none, .mov 3 (.k (.int .i64 6))⟩])
   (.ret))
  (.skip)))
 (.seq (.seq (.reg [⟨none, .chk []⟩,
   ⟨none, .mov 9 (.t 0)⟩,
   ⟨none, .nilc 10 (.t 9)⟩,
   ⟨none, .mov 15 (.t 0)⟩,
   ⟨none, .nilc 16 (.t 15)⟩,
   ⟨none, .fad 11 10 1⟩,
   ⟨none, .load 12 11 1 false⟩,
   ⟨none, .load 13 1 1 false⟩,
   ⟨none, .bin 14 .add (.t 12) (.t 13)⟩,
   ⟨none, .fad 17 16 1⟩,
   ⟨none, .load 18 17 1 false⟩,
   ⟨none, .bin 19 .lss (.t 14) (.t 18)⟩])
  (.cond (.t 19)
  (.seq (.reg [⟨none, .mov 3 (.k (.int .i64 5))⟩])
   (.ret))
  (.skip)))
 (.seq (.reg [⟨none, .chk []⟩,
  ⟨none, .mov 20 (.t 0)⟩,
  ⟨none, .nilc 21 (.t 20)⟩,
  ⟨none, .fad 22 21 1⟩,
  ⟨none, .load 23 22 1 false⟩,
  ⟨none, .load 24 1 1 false⟩,
  ⟨none, .bin 25 .add (.t 23) (.t 24)⟩,
  ⟨none, .nilc 26 (.t 20)⟩,
  ⟨none, .fad 27 26 1⟩,
  ⟨none, .store 27 1 (.t 25)⟩])
 (.seq (.reg [⟨none, .mov 3 (.k (.int .i64 0))⟩])
 (.ret)))))⟩
/-- impl.Withdraw$1 -/
def r347 : RF :=
 ⟨2, [.tmp 3],
 .seq (.reg [⟨none, .mov 3 (.k (.int .i64 0))⟩])
 (.seq (.seq (.reg [⟨none, .mov 4 (.t 0)⟩,
   ⟨none, .nilc 5 (.t 4)⟩,
   ⟨none, .fad 6 5 4⟩,
   ⟨none, .load 7 6 1 false⟩,
   ⟨none, .bin 8 .neq (.t 7) (.k (.int .i64 0))⟩])
  (.cond (.t 8)
  (.seq (.reg [⟨none, .mov 3 (.k (.int .i64 6))⟩])
   (.ret))
  (.skip)))
 (.seq (.seq (.reg [⟨none, .chk []⟩,
   ⟨none, .mov 9 (.t 0)⟩,
   ⟨none, .nilc 10 (.t 9)⟩,
   ⟨none, .fad 11 10 1⟩,
   ⟨none, .load 12 11 1 false⟩,
   ⟨none, .load 13 1 1 false⟩,
   ⟨none, .bin 14 .lss (.t 12) (.t 13)⟩])
  (.cond (.t 14)
  (.seq (.reg [⟨none, .mov 3 (.k (.int .i64 4))⟩])
   (.ret))
  (.skip)))
 (.seq (.reg [⟨none, .chk []⟩,
  ⟨none, .mov 15 (.t 0)⟩,
  ⟨none, .nilc 16 (.t 15)⟩,
  ⟨none, .fad 17 16 1⟩,
  ⟨none, .load 18 17 1 false⟩,
  ⟨none, .load 19 1 1 false⟩,
  ⟨none, .bin 20 .sub (.t 18) (.t 19)⟩,
  ⟨none, .nilc 21 (.t 15)⟩,
  ⟨none, .fad 22 21 1⟩,
  ⟨none, .store 22 1 (.t 20)⟩])
 (.seq (.reg [⟨none, .mov 3 (.k (.int .i64 0))⟩])
 (.ret)))))⟩
/-- The functions of this text, with their numbers. -/
def tI10 : List (Nat × RF) := [(209, r209), (260, r260), (265, r265), (337, r337), (338, r338), (339, r339), (340, r340), (341, r341), (342, r342), (344, r344), (345, r345), (346, r346), (347, r347)]
end Go.Proofs.Ytlfepembgjjejaa.A
/- The compact code of some functions: impl.isGroupId, impl.findRange, impl.areRanges, impl.findRange$1, impl.splitRange, impl.mergeRange. -/
namespace Go.Proofs.Ytlfepembgjjejaa.A
open Go
/-- impl.isGroupId -/
def r7 : RF :=
 ⟨1, [.tmp 2],
 .seq (.reg [⟨none, .mov 2 (.k (.bool false))⟩])
 (.seq (.reg [⟨none, .mov 3 (.t 0)⟩,
  ⟨none, .bin 4 .geq (.t 3) (.k (.int .i64 0))⟩,
  ⟨none, .mov 5 (.t 4)⟩,
  ⟨some (5, true), .mov 6 (.t 0)⟩,
  ⟨some (5, true), .bin 7 .leq (.t 6) (.k (.int .i64 99))⟩,
  ⟨none, .pick 8 (.t 5) (.t 7) (.k (.bool false))⟩,
  ⟨none, .mov 2 (.t 8)⟩])
 (.ret))⟩
/-- impl.findRange -/
def r107 : RF :=
 ⟨2, [.tmp 4],
 .seq (.reg [⟨none, .newb 3 (.t 1)⟩,
  ⟨none, .mov 4 (.k (.int .i64 0))⟩])
 (.seq (.reg [⟨none, .mov 5 (.t 0)⟩,
  ⟨none, .mkf 6 125 [3]⟩,
  ⟨none, .call (some 7) 126 [(.t 5), (.t 6)] false⟩,
  ⟨none, .mov 4 (.t 7)⟩])
 (.ret))⟩
/-- A loop of impl.areRanges. -/
def r124L0 : RC :=
 .seq (.reg [⟨none, .bin 33 .lss (.t 32) (.t 31)⟩])
    (.seq (.cond (.t 33)
     (.skip)
     (.exit 0))
    (.seq (.block 1 (.seq (.reg [⟨none, .mov 34 (.t 32)⟩,
       ⟨none, .idx 35 7 (.t 30) (.t 32)⟩,
       ⟨none, .load 36 35 3 true⟩,
       ⟨none, .loc 4 [.int .u64 0, .int .u64 0, .int .i64 0]⟩,
       ⟨none, .mov 3 (.t 34)⟩,
       ⟨none, .store 4 3 (.t 36)⟩])
      (.seq (.reg [⟨none, .chk []⟩,
       ⟨none, .fad 37 4 0⟩,
       ⟨none, .load 38 37 1 false⟩,
       ⟨none, .fad 39 4 1⟩,
       ⟨none, .load 40 39 1 false⟩,
       ⟨none, .bin 41 .gtr (.t 38) (.t 40)⟩,
       ⟨none, .mov 42 (.t 41)⟩,
       ⟨some (42, false), .fad 43 4 2⟩,
       ⟨some (42, false), .load 44 43 1 false⟩,
       ⟨some (42, false), .call (some 45) 7 [(.t 44)] true⟩,
       ⟨some (42, false), .not 46 (.t 45)⟩,
       ⟨none, .pick 47 (.t 42) (.k (.bool true)) (.t 46)⟩,
       ⟨none, .mov 48 (.t 47)⟩,
       ⟨some (48, false), .mov 49 (.t 3)⟩,
       ⟨some (48, false), .bin 50 .gtr (.t 49) (.k (.int .i64 0))⟩,
       ⟨some (48, false), .mov 51 (.t 50)⟩,
       ⟨some (51, true), .fad 52 4 0⟩,
       ⟨some (51, true), .load 53 52 1 false⟩,
       ⟨some (51, true), .bin 54 .eql (.t 53) (.k (.int .u64 0))⟩,
       ⟨some (51, true), .mov 55 (.t 54)⟩,
       ⟨some (55, false), .mov 59 (.t 0)⟩,
       ⟨some (55, false), .mov 60 (.t 3)⟩,
       ⟨some (55, false), .bin 61 .sub (.t 60) (.k (.int .i64 1))⟩,
       ⟨some (55, false), .idx 62 7 (.t 59) (.t 61)⟩,
       ⟨some (55, false), .fad 56 4 0⟩,
       ⟨some (55, false), .load 57 56 1 false⟩,
       ⟨some (55, false), .bin 58 .sub (.t 57) (.k (.int .u64 1))⟩,
       ⟨some (55, false), .fad 63 62 1⟩,
       ⟨some (55, false), .load 64 63 1 false⟩,
       ⟨some (55, false), .bin 65 .neq (.t 58) (.t 64)⟩,
       ⟨some (51, true), .pick 66 (.t 55) (.k (.bool true)) (.t 65)⟩,
       ⟨some (48, false), .pick 67 (.t 51) (.t 66) (.k (.bool false))⟩,
       ⟨none, .pick 68 (.t 48) (.k (.bool true)) (.t 67)⟩])
      (.cond (.t 68)
      (.seq (.reg [⟨none, .mov 2 (.k (.bool false))⟩])
       (.ret))
      (.skip)))))
    (.reg [⟨none, .bin 69 .add (.t 32) (.k (.int .i64 1))⟩,
    ⟨none, .mov 32 (.t 69)⟩])))
/-- impl.areRanges -/
def r124 : RF :=
 ⟨1, [.tmp 2],
 .seq (.reg [⟨none, .mov 2 (.k (.bool false))⟩])
 (.seq (.seq (.reg [⟨none, .mov 5 (.t 0)⟩,
   ⟨none, .len 6 (.t 5)⟩,
   ⟨none, .bin 7 .lss (.t 6) (.k (.int .i64 1))⟩,
   ⟨none, .mov 8 (.t 7)⟩,
   ⟨some (8, false), .mov 9 (.t 0)⟩,
   ⟨some (8, false), .len 10 (.t 9)⟩,
   ⟨some (8, false), .bin 11 .gtr (.t 10) (.k (.int .i64 24))⟩,
   ⟨none, .pick 12 (.t 8) (.k (.bool true)) (.t 11)⟩,
   ⟨none, .mov 13 (.t 12)⟩,
   ⟨some (13, false), .mov 14 (.t 0)⟩,
   ⟨some (13, false), .idx 15 7 (.t 14) (.k (.int .i64 0))⟩,
   ⟨some (13, false), .fad 16 15 0⟩,
   ⟨some (13, false), .load 17 16 1 false⟩,
   ⟨some (13, false), .bin 18 .neq (.t 17) (.k (.int .u64 0))⟩,
   ⟨none, .pick 19 (.t 13) (.k (.bool true)) (.t 18)⟩,
   ⟨none, .mov 20 (.t 19)⟩,
   ⟨some (20, false), .mov 21 (.t 0)⟩,
   ⟨some (20, false), .mov 22 (.t 0)⟩,
   ⟨some (20, false), .len 23 (.t 22)⟩,
   ⟨some (20, false), .bin 24 .sub (.t 23) (.k (.int .i64 1))⟩,
   ⟨some (20, false), .idx 25 7 (.t 21) (.t 24)⟩,
   ⟨some (20, false), .fad 26 25 1⟩,
   ⟨some (20, false), .load 27 26 1 false⟩,
   ⟨some (20, false), .bin 28 .neq (.t 27) (.k (.int .u64 18446744073709551615))⟩,
   ⟨none, .pick 29 (.t 20) (.k (.bool true)) (.t 28)⟩])
  (.cond (.t 29)
  (.seq (.reg [⟨none, .mov 2 (.k (.bool false))⟩])
   (.ret))
  (.skip)))
 (.seq (.seq (.reg [⟨none, .mov 30 (.t 0)⟩,
   ⟨none, .len 31 (.t 30)⟩,
   ⟨none, .mov 32 (.k (.int .i64 0))⟩])
  (.block 0 (.loop [0, 30, 31, 32]
   r124L0)))
 (.seq (.reg [⟨none, .mov 2 (.k (.bool true))⟩])
 (.ret))))⟩
/-- impl.findRange$1 -/
def r125 : RF :=
 ⟨2, [.tmp 3],
 .seq (.reg [⟨none, .locb 2 (.t 0)⟩,
  ⟨none, .mov 3 (.k (.bool false))⟩])
 (.seq (.reg [⟨none, .load 4 1 1 false⟩,
  ⟨none, .fad 5 2 1⟩,
  ⟨none, .load 6 5 1 false⟩,
  ⟨none, .bin 7 .leq (.t 4) (.t 6)⟩,
  ⟨none, .mov 3 (.t 7)⟩])
 (.ret))⟩
/-- impl.splitRange -/
def r255 : RF :=
 ⟨3, [.tmp 6, .tmp 7],
 .seq (.reg [⟨none, .mov 6 (.k (.nil))⟩,
  ⟨none, .mov 7 (.k (.bool false))⟩])
 (.seq (.seq (.reg [⟨none, .mov 11 (.t 0)⟩,
   ⟨none, .call (some 12) 124 [(.t 11)] false⟩,
   ⟨none, .not 13 (.t 12)⟩,
   ⟨none, .mov 14 (.t 13)⟩,
   ⟨some (14, false), .mov 15 (.t 2)⟩,
   ⟨some (14, false), .call (some 16) 7 [(.t 15)] false⟩,
   ⟨some (14, false), .not 17 (.t 16)⟩,
   ⟨none, .pick 18 (.t 14) (.k (.bool true)) (.t 17)⟩,
   ⟨none, .mov 19 (.t 18)⟩,
   ⟨some (19, false), .mov 20 (.t 0)⟩,
   ⟨some (19, false), .len 21 (.t 20)⟩,
   ⟨some (19, false), .bin 22 .eql (.t 21) (.k (.int .i64 24))⟩,
   ⟨none, .pick 23 (.t 19) (.k (.bool true)) (.t 22)⟩])
  (.cond (.t 23)
  (.seq (.reg [⟨none, .mov 6 (.k (.nil))⟩,
    ⟨none, .mov 7 (.k (.bool false))⟩])
   (.ret))
  (.skip)))
 (.seq (.reg [⟨none, .mov 24 (.t 0)⟩,
  ⟨none, .mov 25 (.t 1)⟩,
  ⟨none, .call (some 26) 107 [(.t 24), (.t 25)] false⟩,
  ⟨none, .mov 8 (.t 26)⟩])
 (.seq (.reg [⟨none, .mov 27 (.t 0)⟩,
  ⟨none, .mov 28 (.t 8)⟩,
  ⟨none, .idx 29 7 (.t 27) (.t 28)⟩,
  ⟨none, .load 30 29 3 true⟩,
  ⟨none, .loc 9 [.int .u64 0, .int .u64 0, .int .i64 0]⟩,
  ⟨none, .store 9 3 (.t 30)⟩])
 (.seq (.seq (.reg [⟨none, .fad 31 9 0⟩,
   ⟨none, .load 32 31 1 false⟩,
   ⟨none, .mov 33 (.t 1)⟩,
   ⟨none, .bin 34 .eql (.t 32) (.t 33)⟩])
  (.cond (.t 34)
  (.seq (.reg [⟨none, .mov 6 (.k (.nil))⟩,
    ⟨none, .mov 7 (.k (.bool false))⟩])
   (.ret))
  (.skip)))
 (.seq (.reg [⟨none, .lit 35 7 0 [.int .u64 0, .int .u64 0, .int .i64 0] []⟩,
  ⟨none, .mov 36 (.t 0)⟩,
  ⟨none, .app 37 7 24 (.t 35) (.t 36)⟩,
  ⟨none, .mov 10 (.t 37)⟩])
 (.seq (.reg [⟨none, .mov 38 (.t 10)⟩,
  ⟨none, .mov 39 (.t 8)⟩,
  ⟨none, .mov 40 (.t 1)⟩,
  ⟨none, .bin 41 .sub (.t 40) (.k (.int .u64 1))⟩,
  ⟨none, .idx 42 7 (.t 38) (.t 39)⟩,
  ⟨none, .fad 43 42 1⟩,
  ⟨none, .store 43 1 (.t 41)⟩])
 (.seq (.reg [⟨none, .mov 44 (.t 10)⟩,
  ⟨none, .mov 45 (.t 8)⟩,
  ⟨none, .bin 46 .add (.t 45) (.k (.int .i64 1))⟩,
  ⟨none, .mov 47 (.t 1)⟩,
  ⟨none, .fad 48 9 1⟩,
  ⟨none, .load 49 48 1 false⟩,
  ⟨none, .mov 50 (.t 2)⟩,
  ⟨none, .build 51 [.int .u64 0, .int .u64 0, .int .i64 0] [(0, 1, (.t 47)), (1, 1, (.t 49)), (2, 1, (.t 50))]⟩,
  ⟨none, .lit 52 7 1 [.int .u64 0, .int .u64 0, .int .i64 0] [(0, (.t 51))]⟩,
  ⟨none, .call (some 53) 269 [(.t 44), (.t 46), (.t 52)] false⟩,
  ⟨none, .mov 6 (.t 53)⟩,
  ⟨none, .mov 7 (.k (.bool true))⟩])
 (.ret))))))))⟩
/-- impl.mergeRange -/
def r256 : RF :=
 ⟨2, [.tmp 4, .tmp 5],
 .seq (.reg [⟨none, .mov 4 (.k (.nil))⟩,
  ⟨none, .mov 5 (.k (.bool false))⟩])
 (.seq (.seq (.reg [⟨none, .chk []⟩,
   ⟨none, .mov 7 (.t 0)⟩,
   ⟨none, .call (some 8) 124 [(.t 7)] true⟩,
   ⟨none, .not 9 (.t 8)⟩,
   ⟨none, .mov 10 (.t 9)⟩,
   ⟨some (10, false), .mov 11 (.t 1)⟩,
   ⟨some (10, false), .bin 12 .lss (.t 11) (.k (.int .i64 0))⟩,
   ⟨none, .pick 13 (.t 10) (.k (.bool true)) (.t 12)⟩,
   ⟨none, .mov 14 (.t 13)⟩,
   ⟨some (14, false), .mov 15 (.t 1)⟩,
   ⟨some (14, false), .mov 16 (.t 0)⟩,
   ⟨some (14, false), .len 17 (.t 16)⟩,
   ⟨some (14, false), .bin 18 .sub (.t 17) (.k (.int .i64 1))⟩,
   ⟨some (14, false), .bin 19 .geq (.t 15) (.t 18)⟩,
   ⟨none, .pick 20 (.t 14) (.k (.bool true)) (.t 19)⟩,
   ⟨none, .mov 21 (.t 20)⟩,
   ⟨some (21, false), .mov 22 (.t 0)⟩,
   ⟨some (21, false), .mov 23 (.t 1)⟩,
   ⟨some (21, false), .idx 24 7 (.t 22) (.t 23)⟩,
   ⟨some (21, false), .mov 27 (.t 0)⟩,
   ⟨some (21, false), .mov 28 (.t 1)⟩,
   ⟨some (21, false), .bin 29 .add (.t 28) (.k (.int .i64 1))⟩,
   ⟨some (21, false), .idx 30 7 (.t 27) (.t 29)⟩,
   ⟨some (21, false), .fad 25 24 2⟩,
   ⟨some (21, false), .load 26 25 1 false⟩,
   ⟨some (21, false), .fad 31 30 2⟩,
   ⟨some (21, false), .load 32 31 1 false⟩,
   ⟨some (21, false), .bin 33 .neq (.t 26) (.t 32)⟩,
   ⟨none, .pick 34 (.t 21) (.k (.bool true)) (.t 33)⟩])
  (.cond (.t 34)
  (.seq (.reg [⟨none, .mov 4 (.k (.nil))⟩,
    ⟨none, .mov 5 (.k (.bool false))⟩])
   (.ret))
  (.skip)))
 (.seq (.reg [⟨none, .lit 35 7 0 [.int .u64 0, .int .u64 0, .int .i64 0] []⟩,
  ⟨none, .mov 36 (.t 0)⟩,
  ⟨none, .app 37 7 24 (.t 35) (.t 36)⟩,
  ⟨none, .mov 6 (.t 37)⟩])
 (.seq (.reg [⟨none, .mov 38 (.t 6)⟩,
  ⟨none, .mov 39 (.t 1)⟩,
  ⟨none, .mov 40 (.t 0)⟩,
  ⟨none, .mov 41 (.t 1)⟩,
  ⟨none, .bin 42 .add (.t 41) (.k (.int .i64 1))⟩,
  ⟨none, .idx 43 7 (.t 40) (.t 42)⟩,
  ⟨none, .fad 44 43 1⟩,
  ⟨none, .load 45 44 1 false⟩,
  ⟨none, .idx 46 7 (.t 38) (.t 39)⟩,
  ⟨none, .fad 47 46 1⟩,
  ⟨none, .store 47 1 (.t 45)⟩])
 (.seq (.reg [⟨none, .mov 48 (.t 6)⟩,
  ⟨none, .mov 49 (.t 1)⟩,
  ⟨none, .bin 50 .add (.t 49) (.k (.int .i64 1))⟩,
  ⟨none, .mov 51 (.t 1)⟩,
  ⟨none, .bin 52 .add (.t 51) (.k (.int .i64 2))⟩,
  ⟨none, .call (some 53) 270 [(.t 48), (.t 50), (.t 52)] false⟩,
  ⟨none, .mov 4 (.t 53)⟩,
  ⟨none, .mov 5 (.k (.bool true))⟩])
 (.ret)))))⟩
/-- The functions of this text, with their numbers. -/
def tI11 : List (Nat × RF) := [(7, r7), (107, r107), (124, r124), (125, r125), (255, r255), (256, r256)]
end Go.Proofs.Ytlfepembgjjejaa.A
/- The compact code of some functions: impl.StoreOk, impl.StoreTotal, impl.ExportShard, impl.isStore, impl.shardWith, impl.shardAt, impl.copyShard, impl.isShard, impl.shardWith$1, impl.shardAt$1, impl.compareFins, impl.RenewStore, impl.RetireShard, impl.FreezeShard, impl.InstallShard, impl.CutShard, impl.isNewEpoch, impl.copyStore, impl.renewed, impl.JoinShard. -/
namespace Go.Proofs.Ytlfepembgjjejaa.A
open Go
/-- impl.StoreOk -/
def r157 : RF :=
 ⟨1, [.tmp 2],
 .seq (.reg [⟨none, .locb 1 (.t 0)⟩,
  ⟨none, .mov 2 (.k (.bool false))⟩])
 (.seq (.reg [⟨none, .load 3 1 3 true⟩,
  ⟨none, .call (some 4) 206 [(.t 3)] false⟩,
  ⟨none, .mov 2 (.t 4)⟩])
 (.ret))⟩
/-- A loop of impl.StoreTotal. -/
def r164L0 : RC :=
 .seq (.reg [⟨none, .bin 19 .lss (.t 18) (.t 17)⟩])
    (.seq (.cond (.t 19)
     (.skip)
     (.exit 0))
    (.seq (.block 1 (.seq (.reg [⟨none, .idx 20 16 (.t 16) (.t 18)⟩,
       ⟨none, .load 21 20 6 true⟩,
       ⟨none, .loc 7 [.int .u64 0, .int .u64 0, .int .i64 0, .int .i64 0, .nil, .nil]⟩,
       ⟨none, .store 7 6 (.t 21)⟩])
      (.seq (.reg [⟨none, .fad 23 7 4⟩,
       ⟨none, .load 24 23 1 true⟩,
       ⟨none, .call (some 25) 209 [(.t 24)] false⟩,
       ⟨none, .mov 22 (.t 25)⟩,
       ⟨none, .ext 26 (.t 22) 0⟩,
       ⟨none, .ext 27 (.t 22) 1⟩,
       ⟨none, .mov 8 (.t 26)⟩,
       ⟨none, .mov 9 (.t 27)⟩])
      (.seq (.reg [⟨none, .mov 29 (.t 5)⟩,
       ⟨none, .mov 30 (.t 9)⟩,
       ⟨none, .add 31 (.t 29) (.t 30) (.k (.int .u64 0))⟩,
       ⟨none, .mov 28 (.t 31)⟩,
       ⟨none, .ext 32 (.t 28) 0⟩,
       ⟨none, .ext 33 (.t 28) 1⟩,
       ⟨none, .mov 10 (.t 32)⟩,
       ⟨none, .mov 11 (.t 33)⟩])
      (.seq (.reg [⟨none, .mov 34 (.t 10)⟩,
       ⟨none, .mov 5 (.t 34)⟩])
      (.reg [⟨none, .mov 35 (.t 4)⟩,
      ⟨none, .mov 36 (.t 8)⟩,
      ⟨none, .mov 37 (.t 11)⟩,
      ⟨none, .bin 38 .add (.t 36) (.t 37)⟩,
      ⟨none, .bin 39 .add (.t 35) (.t 38)⟩,
      ⟨none, .mov 4 (.t 39)⟩]))))))
    (.reg [⟨none, .bin 40 .add (.t 18) (.k (.int .i64 1))⟩,
    ⟨none, .mov 18 (.t 40)⟩])))
/-- impl.StoreTotal -/
def r164 : RF :=
 ⟨1, [.tmp 2, .tmp 3],
 .seq (.reg [⟨none, .locb 1 (.t 0)⟩,
  ⟨none, .mov 2 (.k (.int .u64 0))⟩,
  ⟨none, .mov 3 (.k (.int .u64 0))⟩])
 (.seq (.seq (.reg [⟨none, .load 12 1 3 true⟩,
   ⟨none, .call (some 13) 206 [(.t 12)] false⟩,
   ⟨none, .not 14 (.t 13)⟩])
  (.cond (.t 14)
  (.seq (.reg [⟨none, .mov 2 (.k (.int .u64 0))⟩,
    ⟨none, .mov 3 (.k (.int .u64 0))⟩])
   (.ret))
  (.skip)))
 (.seq (.reg [⟨none, .mov 4 (.k (.int .u64 0))⟩,
  ⟨none, .mov 5 (.k (.int .u64 0))⟩])
 (.seq (.seq (.reg [⟨none, .fad 15 1 2⟩,
   ⟨none, .load 16 15 1 false⟩,
   ⟨none, .len 17 (.t 16)⟩,
   ⟨none, .mov 18 (.k (.int .i64 0))⟩])
  (.block 0 (.loop [4, 5, 16, 17, 18]
   r164L0)))
 (.seq (.reg [⟨none, .mov 41 (.t 4)⟩,
  ⟨none, .mov 42 (.t 5)⟩,
  ⟨none, .mov 2 (.t 41)⟩,
  ⟨none, .mov 3 (.t 42)⟩])
 (.ret)))))⟩
/-- impl.ExportShard -/
def r190 : RF :=
 ⟨2, [.cell 4 6 true, .tmp 5],
 .seq (.reg [⟨none, .locb 2 (.t 0)⟩,
  ⟨none, .loc 4 [.int .u64 0, .int .u64 0, .int .i64 0, .int .i64 0, .nil, .nil]⟩,
  ⟨none, .mov 5 (.k (.bool false))⟩])
 (.seq (.reg [⟨none, .load 7 2 3 true⟩,
  ⟨none, .mov 8 (.t 1)⟩,
  ⟨none, .call (some 9) 213 [(.t 7), (.t 8), (.k (.int .i64 1))] false⟩,
  ⟨none, .mov 6 (.t 9)⟩])
 (.seq (.seq (.reg [⟨none, .load 10 2 3 true⟩,
   ⟨none, .call (some 11) 206 [(.t 10)] false⟩,
   ⟨none, .not 12 (.t 11)⟩,
   ⟨none, .mov 13 (.t 12)⟩,
   ⟨some (13, false), .mov 14 (.t 6)⟩,
   ⟨some (13, false), .bin 15 .lss (.t 14) (.k (.int .i64 0))⟩,
   ⟨none, .pick 16 (.t 13) (.k (.bool true)) (.t 15)⟩])
  (.cond (.t 16)
  (.seq (.reg [⟨none, .build 17 [.int .u64 0, .int .u64 0, .int .i64 0, .int .i64 0, .nil, .nil] []⟩,
    ⟨none, .store 4 6 (.t 17)⟩,
    ⟨none, .mov 5 (.k (.bool false))⟩])
   (.ret))
  (.skip)))
 (.seq (.reg [⟨none, .fad 18 2 2⟩,
  ⟨none, .load 19 18 1 false⟩,
  ⟨none, .mov 20 (.t 6)⟩,
  ⟨none, .idx 21 16 (.t 19) (.t 20)⟩,
  ⟨none, .load 22 21 6 true⟩,
  ⟨none, .call (some 23) 229 [(.t 22)] false⟩,
  ⟨none, .store 4 6 (.t 23)⟩,
  ⟨none, .mov 5 (.k (.bool true))⟩])
 (.ret))))⟩
/-- A loop of impl.isStore. -/
def r206L0 : RC :=
 .seq (.reg [⟨none, .bin 29 .lss (.t 28) (.t 27)⟩])
    (.seq (.cond (.t 29)
     (.skip)
     (.exit 0))
    (.seq (.block 1 (.seq (.reg [⟨none, .mov 30 (.t 28)⟩,
       ⟨none, .idx 31 16 (.t 26) (.t 28)⟩,
       ⟨none, .load 32 31 6 true⟩,
       ⟨none, .loc 4 [.int .u64 0, .int .u64 0, .int .i64 0, .int .i64 0, .nil, .nil]⟩,
       ⟨none, .mov 3 (.t 30)⟩,
       ⟨none, .store 4 6 (.t 32)⟩])
      (.seq (.reg [⟨none, .chk []⟩,
       ⟨none, .load 33 4 6 true⟩,
       ⟨none, .call (some 34) 244 [(.t 33)] true⟩,
       ⟨none, .not 35 (.t 34)⟩,
       ⟨none, .mov 36 (.t 35)⟩,
       ⟨some (36, false), .fad 37 4 3⟩,
       ⟨some (36, false), .load 38 37 1 false⟩,
       ⟨some (36, false), .fad 39 1 1⟩,
       ⟨some (36, false), .load 40 39 1 false⟩,
       ⟨some (36, false), .bin 41 .gtr (.t 38) (.t 40)⟩,
       ⟨none, .pick 42 (.t 36) (.k (.bool true)) (.t 41)⟩,
       ⟨none, .mov 43 (.t 42)⟩,
       ⟨some (43, false), .mov 44 (.t 3)⟩,
       ⟨some (43, false), .bin 45 .gtr (.t 44) (.k (.int .i64 0))⟩,
       ⟨some (43, false), .mov 46 (.t 45)⟩,
       ⟨some (46, true), .mov 49 (.t 3)⟩,
       ⟨some (46, true), .bin 50 .sub (.t 49) (.k (.int .i64 1))⟩,
       ⟨some (46, true), .fad 47 1 2⟩,
       ⟨some (46, true), .load 48 47 1 false⟩,
       ⟨some (46, true), .idx 51 16 (.t 48) (.t 50)⟩,
       ⟨some (46, true), .fad 52 51 1⟩,
       ⟨some (46, true), .load 53 52 1 false⟩,
       ⟨some (46, true), .fad 54 4 0⟩,
       ⟨some (46, true), .load 55 54 1 false⟩,
       ⟨some (46, true), .bin 56 .geq (.t 53) (.t 55)⟩,
       ⟨some (43, false), .pick 57 (.t 46) (.t 56) (.k (.bool false))⟩,
       ⟨none, .pick 58 (.t 43) (.k (.bool true)) (.t 57)⟩])
      (.cond (.t 58)
      (.seq (.reg [⟨none, .mov 2 (.k (.bool false))⟩])
       (.ret))
      (.skip)))))
    (.reg [⟨none, .bin 59 .add (.t 28) (.k (.int .i64 1))⟩,
    ⟨none, .mov 28 (.t 59)⟩])))
/-- impl.isStore -/
def r206 : RF :=
 ⟨1, [.tmp 2],
 .seq (.reg [⟨none, .locb 1 (.t 0)⟩,
  ⟨none, .mov 2 (.k (.bool false))⟩])
 (.seq (.seq (.reg [⟨none, .fad 5 1 0⟩,
   ⟨none, .load 6 5 1 false⟩,
   ⟨none, .call (some 7) 7 [(.t 6)] false⟩,
   ⟨none, .not 8 (.t 7)⟩,
   ⟨none, .mov 9 (.t 8)⟩,
   ⟨some (9, false), .fad 10 1 1⟩,
   ⟨some (9, false), .load 11 10 1 false⟩,
   ⟨some (9, false), .bin 12 .lss (.t 11) (.k (.int .i64 0))⟩,
   ⟨none, .pick 13 (.t 9) (.k (.bool true)) (.t 12)⟩,
   ⟨none, .mov 14 (.t 13)⟩,
   ⟨some (14, false), .fad 15 1 1⟩,
   ⟨some (14, false), .load 16 15 1 false⟩,
   ⟨some (14, false), .bin 17 .gtr (.t 16) (.k (.int .i64 1000000))⟩,
   ⟨none, .pick 18 (.t 14) (.k (.bool true)) (.t 17)⟩,
   ⟨none, .mov 19 (.t 18)⟩,
   ⟨some (19, false), .fad 20 1 2⟩,
   ⟨some (19, false), .load 21 20 1 false⟩,
   ⟨some (19, false), .len 22 (.t 21)⟩,
   ⟨some (19, false), .bin 23 .gtr (.t 22) (.k (.int .i64 8))⟩,
   ⟨none, .pick 24 (.t 19) (.k (.bool true)) (.t 23)⟩])
  (.cond (.t 24)
  (.seq (.reg [⟨none, .mov 2 (.k (.bool false))⟩])
   (.ret))
  (.skip)))
 (.seq (.seq (.reg [⟨none, .fad 25 1 2⟩,
   ⟨none, .load 26 25 1 false⟩,
   ⟨none, .len 27 (.t 26)⟩,
   ⟨none, .mov 28 (.k (.int .i64 0))⟩])
  (.block 0 (.loop [1, 26, 27, 28]
   r206L0)))
 (.seq (.reg [⟨none, .mov 2 (.k (.bool true))⟩])
 (.ret))))⟩
/-- impl.shardWith -/
def r212 : RF :=
 ⟨2, [.tmp 4],
 .seq (.reg [⟨none, .locb 2 (.t 0)⟩,
  ⟨none, .newb 3 (.t 1)⟩,
  ⟨none, .mov 4 (.k (.int .i64 0))⟩])
 (.seq (.reg [⟨none, .fad 5 2 2⟩,
  ⟨none, .load 6 5 1 false⟩,
  ⟨none, .mkf 7 247 [3]⟩,
  ⟨none, .call (some 8) 248 [(.t 6), (.t 7)] false⟩,
  ⟨none, .mov 4 (.t 8)⟩])
 (.ret))⟩
/-- impl.shardAt -/
def r213 : RF :=
 ⟨3, [.tmp 6],
 .seq (.reg [⟨none, .locb 3 (.t 0)⟩,
  ⟨none, .newb 4 (.t 1)⟩,
  ⟨none, .newb 5 (.t 2)⟩,
  ⟨none, .mov 6 (.k (.int .i64 0))⟩])
 (.seq (.reg [⟨none, .fad 7 3 2⟩,
  ⟨none, .load 8 7 1 false⟩,
  ⟨none, .mkf 9 249 [4, 5]⟩,
  ⟨none, .call (some 10) 248 [(.t 8), (.t 9)] false⟩,
  ⟨none, .mov 6 (.t 10)⟩])
 (.ret))⟩
/-- impl.copyShard -/
def r229 : RF :=
 ⟨1, [.cell 2 6 true],
 .seq (.reg [⟨none, .locb 1 (.t 0)⟩,
  ⟨none, .loc 2 [.int .u64 0, .int .u64 0, .int .i64 0, .int .i64 0, .nil, .nil]⟩])
 (.seq (.reg [⟨none, .fad 3 1 4⟩,
  ⟨none, .load 4 3 1 true⟩,
  ⟨none, .call (some 5) 260 [(.t 4)] false⟩,
  ⟨none, .fad 6 1 4⟩,
  ⟨none, .store 6 1 (.t 5)⟩])
 (.seq (.reg [⟨none, .lit 7 9 0 [.int .i64 0, .int .u64 0] []⟩,
  ⟨none, .fad 8 1 5⟩,
  ⟨none, .load 9 8 1 false⟩,
  ⟨none, .app 10 9 16 (.t 7) (.t 9)⟩,
  ⟨none, .fad 11 1 5⟩,
  ⟨none, .store 11 1 (.t 10)⟩])
 (.seq (.reg [⟨none, .load 12 1 6 true⟩,
  ⟨none, .store 2 6 (.t 12)⟩])
 (.ret))))⟩
/-- A loop of impl.isShard. -/
def r244L0 : RC :=
 .seq (.reg [⟨none, .bin 79 .lss (.t 78) (.t 77)⟩])
    (.seq (.cond (.t 79)
     (.skip)
     (.exit 2))
    (.seq (.block 3 (.seq (.reg [⟨none, .mov 80 (.t 78)⟩,
       ⟨none, .idx 81 9 (.t 76) (.t 78)⟩,
       ⟨none, .load 82 81 2 true⟩,
       ⟨none, .loc 6 [.int .i64 0, .int .u64 0]⟩,
       ⟨none, .mov 5 (.t 80)⟩,
       ⟨none, .store 6 2 (.t 82)⟩])
      (.seq (.reg [⟨none, .chk []⟩,
       ⟨none, .fad 83 6 0⟩,
       ⟨none, .load 84 83 1 false⟩,
       ⟨none, .bin 85 .lss (.t 84) (.k (.int .i64 1))⟩,
       ⟨none, .mov 86 (.t 85)⟩,
       ⟨some (86, false), .fad 87 6 1⟩,
       ⟨some (86, false), .load 88 87 1 false⟩,
       ⟨some (86, false), .fad 89 1 0⟩,
       ⟨some (86, false), .load 90 89 1 false⟩,
       ⟨some (86, false), .bin 91 .lss (.t 88) (.t 90)⟩,
       ⟨none, .pick 92 (.t 86) (.k (.bool true)) (.t 91)⟩,
       ⟨none, .mov 93 (.t 92)⟩,
       ⟨some (93, false), .fad 94 6 1⟩,
       ⟨some (93, false), .load 95 94 1 false⟩,
       ⟨some (93, false), .fad 96 1 1⟩,
       ⟨some (93, false), .load 97 96 1 false⟩,
       ⟨some (93, false), .bin 98 .gtr (.t 95) (.t 97)⟩,
       ⟨none, .pick 99 (.t 93) (.k (.bool true)) (.t 98)⟩,
       ⟨none, .mov 100 (.t 99)⟩,
       ⟨some (100, false), .mov 101 (.t 5)⟩,
       ⟨some (100, false), .bin 102 .gtr (.t 101) (.k (.int .i64 0))⟩,
       ⟨some (100, false), .mov 103 (.t 102)⟩,
       ⟨some (103, true), .mov 106 (.t 5)⟩,
       ⟨some (103, true), .bin 107 .sub (.t 106) (.k (.int .i64 1))⟩,
       ⟨some (103, true), .fad 104 1 5⟩,
       ⟨some (103, true), .load 105 104 1 false⟩,
       ⟨some (103, true), .idx 108 9 (.t 105) (.t 107)⟩,
       ⟨some (103, true), .load 109 108 2 true⟩,
       ⟨some (103, true), .load 110 6 2 true⟩,
       ⟨some (103, true), .call (some 111) 267 [(.t 109), (.t 110)] true⟩,
       ⟨some (103, true), .bin 112 .geq (.t 111) (.k (.int .i64 0))⟩,
       ⟨some (100, false), .pick 113 (.t 103) (.t 112) (.k (.bool false))⟩,
       ⟨none, .pick 114 (.t 100) (.k (.bool true)) (.t 113)⟩])
      (.cond (.t 114)
      (.seq (.reg [⟨none, .mov 2 (.k (.bool false))⟩])
       (.ret))
      (.skip)))))
    (.reg [⟨none, .bin 115 .add (.t 78) (.k (.int .i64 1))⟩,
    ⟨none, .mov 78 (.t 115)⟩])))
/-- A loop of impl.isShard. -/
def r244L1 : RC :=
 .seq (.reg [⟨none, .bin 49 .lss (.t 48) (.t 47)⟩])
    (.seq (.cond (.t 49)
     (.skip)
     (.exit 0))
    (.seq (.block 1 (.seq (.reg [⟨none, .idx 50 11 (.t 46) (.t 48)⟩,
       ⟨none, .load 51 50 5 true⟩,
       ⟨none, .loc 4 [.int .u64 0, .int .u64 0, .int .u64 0, .int .u64 0, .int .i64 0]⟩,
       ⟨none, .store 4 5 (.t 51)⟩])
      (.seq (.reg [⟨none, .fad 52 4 0⟩,
       ⟨none, .load 53 52 1 false⟩,
       ⟨none, .fad 54 1 0⟩,
       ⟨none, .load 55 54 1 false⟩,
       ⟨none, .bin 56 .lss (.t 53) (.t 55)⟩,
       ⟨none, .mov 57 (.t 56)⟩,
       ⟨some (57, false), .fad 58 4 0⟩,
       ⟨some (57, false), .load 59 58 1 false⟩,
       ⟨some (57, false), .fad 60 1 1⟩,
       ⟨some (57, false), .load 61 60 1 false⟩,
       ⟨some (57, false), .bin 62 .gtr (.t 59) (.t 61)⟩,
       ⟨none, .pick 63 (.t 57) (.k (.bool true)) (.t 62)⟩,
       ⟨none, .mov 64 (.t 63)⟩,
       ⟨some (64, false), .fad 65 1 5⟩,
       ⟨some (64, false), .load 66 65 1 false⟩,
       ⟨some (64, false), .fad 67 4 4⟩,
       ⟨some (64, false), .load 68 67 1 false⟩,
       ⟨some (64, false), .fad 69 4 0⟩,
       ⟨some (64, false), .load 70 69 1 false⟩,
       ⟨some (64, false), .build 71 [.int .i64 0, .int .u64 0] [(0, 1, (.t 68)), (1, 1, (.t 70))]⟩,
       ⟨some (64, false), .call (some 72) 266 [(.t 66), (.t 71)] false⟩,
       ⟨none, .pick 73 (.t 64) (.k (.bool true)) (.t 72)⟩])
      (.cond (.t 73)
      (.seq (.reg [⟨none, .mov 2 (.k (.bool false))⟩])
       (.ret))
      (.skip)))))
    (.reg [⟨none, .bin 74 .add (.t 48) (.k (.int .i64 1))⟩,
    ⟨none, .mov 48 (.t 74)⟩])))
/-- impl.isShard -/
def r244 : RF :=
 ⟨1, [.tmp 2],
 .seq (.reg [⟨none, .locb 1 (.t 0)⟩,
  ⟨none, .mov 2 (.k (.bool false))⟩])
 (.seq (.seq (.reg [⟨none, .fad 7 1 0⟩,
   ⟨none, .load 8 7 1 false⟩,
   ⟨none, .fad 9 1 1⟩,
   ⟨none, .load 10 9 1 false⟩,
   ⟨none, .bin 11 .gtr (.t 8) (.t 10)⟩,
   ⟨none, .mov 12 (.t 11)⟩,
   ⟨some (12, false), .fad 13 1 2⟩,
   ⟨some (12, false), .load 14 13 1 false⟩,
   ⟨some (12, false), .bin 15 .neq (.t 14) (.k (.int .i64 0))⟩,
   ⟨some (12, false), .mov 16 (.t 15)⟩,
   ⟨some (16, true), .fad 17 1 2⟩,
   ⟨some (16, true), .load 18 17 1 false⟩,
   ⟨some (16, true), .bin 19 .neq (.t 18) (.k (.int .i64 1))⟩,
   ⟨some (12, false), .pick 20 (.t 16) (.t 19) (.k (.bool false))⟩,
   ⟨none, .pick 21 (.t 12) (.k (.bool true)) (.t 20)⟩,
   ⟨none, .mov 22 (.t 21)⟩,
   ⟨some (22, false), .fad 23 1 3⟩,
   ⟨some (22, false), .load 24 23 1 false⟩,
   ⟨some (22, false), .bin 25 .lss (.t 24) (.k (.int .i64 1))⟩,
   ⟨none, .pick 26 (.t 22) (.k (.bool true)) (.t 25)⟩,
   ⟨none, .mov 27 (.t 26)⟩,
   ⟨some (27, false), .fad 28 1 3⟩,
   ⟨some (27, false), .load 29 28 1 false⟩,
   ⟨some (27, false), .bin 30 .gtr (.t 29) (.k (.int .i64 1000000))⟩,
   ⟨none, .pick 31 (.t 27) (.k (.bool true)) (.t 30)⟩,
   ⟨none, .mov 32 (.t 31)⟩,
   ⟨some (32, false), .fad 33 1 4⟩,
   ⟨some (32, false), .load 34 33 1 true⟩,
   ⟨some (32, false), .call (some 35) 265 [(.t 34)] false⟩,
   ⟨some (32, false), .not 36 (.t 35)⟩,
   ⟨none, .pick 37 (.t 32) (.k (.bool true)) (.t 36)⟩,
   ⟨none, .mov 38 (.t 37)⟩,
   ⟨some (38, false), .fad 39 1 5⟩,
   ⟨some (38, false), .load 40 39 1 false⟩,
   ⟨some (38, false), .len 41 (.t 40)⟩,
   ⟨some (38, false), .bin 42 .gtr (.t 41) (.k (.int .i64 60))⟩,
   ⟨none, .pick 43 (.t 38) (.k (.bool true)) (.t 42)⟩])
  (.cond (.t 43)
  (.seq (.reg [⟨none, .mov 2 (.k (.bool false))⟩])
   (.ret))
  (.skip)))
 (.seq (.seq (.reg [⟨none, .fad 44 1 4⟩,
   ⟨none, .fad 45 44 0⟩,
   ⟨none, .load 46 45 1 false⟩,
   ⟨none, .len 47 (.t 46)⟩,
   ⟨none, .mov 48 (.k (.int .i64 0))⟩])
  (.block 0 (.loop [1, 46, 47, 48]
   r244L1)))
 (.seq (.seq (.reg [⟨none, .fad 75 1 5⟩,
   ⟨none, .load 76 75 1 false⟩,
   ⟨none, .len 77 (.t 76)⟩,
   ⟨none, .mov 78 (.k (.int .i64 0))⟩])
  (.block 2 (.loop [1, 76, 77, 78]
   r244L0)))
 (.seq (.reg [⟨none, .mov 2 (.k (.bool true))⟩])
 (.ret)))))⟩
/-- impl.shardWith$1 -/
def r247 : RF :=
 ⟨2, [.tmp 3],
 .seq (.reg [⟨none, .locb 2 (.t 0)⟩,
  ⟨none, .mov 3 (.k (.bool false))⟩])
 (.seq (.reg [⟨none, .fad 4 2 0⟩,
  ⟨none, .load 5 4 1 false⟩,
  ⟨none, .load 6 1 1 false⟩,
  ⟨none, .bin 7 .leq (.t 5) (.t 6)⟩,
  ⟨none, .mov 8 (.t 7)⟩,
  ⟨some (8, true), .load 9 1 1 false⟩,
  ⟨some (8, true), .fad 10 2 1⟩,
  ⟨some (8, true), .load 11 10 1 false⟩,
  ⟨some (8, true), .bin 12 .leq (.t 9) (.t 11)⟩,
  ⟨none, .pick 13 (.t 8) (.t 12) (.k (.bool false))⟩,
  ⟨none, .mov 3 (.t 13)⟩])
 (.ret))⟩
/-- impl.shardAt$1 -/
def r249 : RF :=
 ⟨3, [.tmp 4],
 .seq (.reg [⟨none, .locb 3 (.t 0)⟩,
  ⟨none, .mov 4 (.k (.bool false))⟩])
 (.seq (.reg [⟨none, .fad 5 3 0⟩,
  ⟨none, .load 6 5 1 false⟩,
  ⟨none, .load 7 1 1 false⟩,
  ⟨none, .bin 8 .eql (.t 6) (.t 7)⟩,
  ⟨none, .mov 9 (.t 8)⟩,
  ⟨some (9, true), .fad 10 3 2⟩,
  ⟨some (9, true), .load 11 10 1 false⟩,
  ⟨some (9, true), .load 12 2 1 false⟩,
  ⟨some (9, true), .bin 13 .eql (.t 11) (.t 12)⟩,
  ⟨none, .pick 14 (.t 9) (.t 13) (.k (.bool false))⟩,
  ⟨none, .mov 4 (.t 14)⟩])
 (.ret))⟩
/-- impl.compareFins -/
def r267 : RF :=
 ⟨2, [.tmp 4],
 .seq (.reg [⟨none, .locb 2 (.t 0)⟩,
  ⟨none, .locb 3 (.t 1)⟩,
  ⟨none, .mov 4 (.k (.int .i64 0))⟩])
 (.seq (.reg [⟨none, .chk []⟩,
  ⟨none, .fad 5 2 0⟩,
  ⟨none, .load 6 5 1 false⟩,
  ⟨none, .fad 7 3 0⟩,
  ⟨none, .load 8 7 1 false⟩,
  ⟨none, .fad 10 2 1⟩,
  ⟨none, .load 11 10 1 false⟩,
  ⟨none, .fad 12 3 1⟩,
  ⟨none, .load 13 12 1 false⟩,
  ⟨none, .call (some 9) 273 [(.t 6), (.t 8)] true⟩,
  ⟨none, .call (some 14) 274 [(.t 11), (.t 13)] true⟩,
  ⟨none, .lit 15 15 2 [.int .i64 0] [(0, (.t 9)), (1, (.t 14))]⟩,
  ⟨none, .call (some 16) 275 [(.t 15)] true⟩,
  ⟨none, .mov 4 (.t 16)⟩])
 (.ret))⟩
/-- impl.RenewStore -/
def r291 : RF :=
 ⟨2, [.cell 4 3 true, .tmp 5],
 .seq (.reg [⟨none, .locb 2 (.t 0)⟩,
  ⟨none, .loc 4 [.int .i64 0, .int .i64 0, .nil]⟩,
  ⟨none, .mov 5 (.k (.bool false))⟩])
 (.seq (.seq (.reg [⟨none, .load 6 2 3 true⟩,
   ⟨none, .mov 7 (.t 1)⟩,
   ⟨none, .call (some 8) 319 [(.t 6), (.t 7)] false⟩,
   ⟨none, .not 9 (.t 8)⟩])
  (.cond (.t 9)
  (.seq (.reg [⟨none, .load 10 2 3 true⟩,
    ⟨none, .call (some 11) 320 [(.t 10)] false⟩,
    ⟨none, .store 4 3 (.t 11)⟩,
    ⟨none, .mov 5 (.k (.bool false))⟩])
   (.ret))
  (.skip)))
 (.seq (.reg [⟨none, .load 12 2 3 true⟩,
  ⟨none, .call (some 13) 320 [(.t 12)] false⟩,
  ⟨none, .mov 14 (.t 1)⟩,
  ⟨none, .call (some 15) 321 [(.t 13), (.t 14)] false⟩,
  ⟨none, .store 4 3 (.t 15)⟩,
  ⟨none, .mov 5 (.k (.bool true))⟩])
 (.ret)))⟩
/-- impl.RetireShard -/
def r298 : RF :=
 ⟨3, [.cell 6 3 true, .tmp 7],
 .seq (.reg [⟨none, .locb 3 (.t 0)⟩,
  ⟨none, .loc 6 [.int .i64 0, .int .i64 0, .nil]⟩,
  ⟨none, .mov 7 (.k (.bool false))⟩])
 (.seq (.reg [⟨none, .load 10 3 3 true⟩,
  ⟨none, .call (some 11) 320 [(.t 10)] false⟩,
  ⟨none, .loc 8 [.int .i64 0, .int .i64 0, .nil]⟩,
  ⟨none, .store 8 3 (.t 11)⟩])
 (.seq (.reg [⟨none, .load 12 3 3 true⟩,
  ⟨none, .mov 13 (.t 1)⟩,
  ⟨none, .call (some 14) 213 [(.t 12), (.t 13), (.k (.int .i64 1))] false⟩,
  ⟨none, .mov 9 (.t 14)⟩])
 (.seq (.seq (.reg [⟨none, .load 15 3 3 true⟩,
   ⟨none, .call (some 16) 206 [(.t 15)] false⟩,
   ⟨none, .not 17 (.t 16)⟩,
   ⟨none, .mov 18 (.t 17)⟩,
   ⟨some (18, false), .mov 19 (.t 9)⟩,
   ⟨some (18, false), .bin 20 .lss (.t 19) (.k (.int .i64 0))⟩,
   ⟨none, .pick 21 (.t 18) (.k (.bool true)) (.t 20)⟩,
   ⟨none, .mov 22 (.t 21)⟩,
   ⟨some (22, false), .fad 23 3 2⟩,
   ⟨some (22, false), .load 24 23 1 false⟩,
   ⟨some (22, false), .mov 25 (.t 9)⟩,
   ⟨some (22, false), .idx 26 16 (.t 24) (.t 25)⟩,
   ⟨some (22, false), .fad 27 26 3⟩,
   ⟨some (22, false), .load 28 27 1 false⟩,
   ⟨some (22, false), .mov 29 (.t 2)⟩,
   ⟨some (22, false), .bin 30 .neq (.t 28) (.t 29)⟩,
   ⟨none, .pick 31 (.t 22) (.k (.bool true)) (.t 30)⟩])
  (.cond (.t 31)
  (.seq (.reg [⟨none, .load 32 8 3 true⟩,
    ⟨none, .store 6 3 (.t 32)⟩,
    ⟨none, .mov 7 (.k (.bool false))⟩])
   (.ret))
  (.skip)))
 (.seq (.reg [⟨none, .fad 33 8 2⟩,
  ⟨none, .load 34 33 1 false⟩,
  ⟨none, .mov 35 (.t 9)⟩,
  ⟨none, .mov 36 (.t 9)⟩,
  ⟨none, .bin 37 .add (.t 36) (.k (.int .i64 1))⟩,
  ⟨none, .call (some 38) 330 [(.t 34), (.t 35), (.t 37)] false⟩,
  ⟨none, .fad 39 8 2⟩,
  ⟨none, .store 39 1 (.t 38)⟩])
 (.seq (.reg [⟨none, .load 40 8 3 true⟩,
  ⟨none, .store 6 3 (.t 40)⟩,
  ⟨none, .mov 7 (.k (.bool true))⟩])
 (.ret))))))⟩
/-- impl.FreezeShard -/
def r301 : RF :=
 ⟨3, [.cell 6 3 true, .tmp 7],
 .seq (.reg [⟨none, .locb 3 (.t 0)⟩,
  ⟨none, .loc 6 [.int .i64 0, .int .i64 0, .nil]⟩,
  ⟨none, .mov 7 (.k (.bool false))⟩])
 (.seq (.reg [⟨none, .load 10 3 3 true⟩,
  ⟨none, .call (some 11) 320 [(.t 10)] false⟩,
  ⟨none, .loc 8 [.int .i64 0, .int .i64 0, .nil]⟩,
  ⟨none, .store 8 3 (.t 11)⟩])
 (.seq (.reg [⟨none, .load 12 3 3 true⟩,
  ⟨none, .mov 13 (.t 1)⟩,
  ⟨none, .call (some 14) 213 [(.t 12), (.t 13), (.k (.int .i64 0))] false⟩,
  ⟨none, .mov 9 (.t 14)⟩])
 (.seq (.seq (.reg [⟨none, .load 15 3 3 true⟩,
   ⟨none, .mov 16 (.t 2)⟩,
   ⟨none, .call (some 17) 319 [(.t 15), (.t 16)] false⟩,
   ⟨none, .not 18 (.t 17)⟩,
   ⟨none, .mov 19 (.t 18)⟩,
   ⟨some (19, false), .mov 20 (.t 9)⟩,
   ⟨some (19, false), .bin 21 .lss (.t 20) (.k (.int .i64 0))⟩,
   ⟨none, .pick 22 (.t 19) (.k (.bool true)) (.t 21)⟩])
  (.cond (.t 22)
  (.seq (.reg [⟨none, .load 23 8 3 true⟩,
    ⟨none, .store 6 3 (.t 23)⟩,
    ⟨none, .mov 7 (.k (.bool false))⟩])
   (.ret))
  (.skip)))
 (.seq (.reg [⟨none, .fad 24 8 2⟩,
  ⟨none, .load 25 24 1 false⟩,
  ⟨none, .mov 26 (.t 9)⟩,
  ⟨none, .idx 27 16 (.t 25) (.t 26)⟩,
  ⟨none, .fad 28 27 2⟩,
  ⟨none, .store 28 1 (.k (.int .i64 1))⟩])
 (.seq (.reg [⟨none, .fad 29 8 2⟩,
  ⟨none, .load 30 29 1 false⟩,
  ⟨none, .mov 31 (.t 9)⟩,
  ⟨none, .mov 32 (.t 2)⟩,
  ⟨none, .idx 33 16 (.t 30) (.t 31)⟩,
  ⟨none, .fad 34 33 3⟩,
  ⟨none, .store 34 1 (.t 32)⟩])
 (.seq (.reg [⟨none, .load 35 8 3 true⟩,
  ⟨none, .mov 36 (.t 2)⟩,
  ⟨none, .call (some 37) 321 [(.t 35), (.t 36)] false⟩,
  ⟨none, .store 6 3 (.t 37)⟩,
  ⟨none, .mov 7 (.k (.bool true))⟩])
 (.ret)))))))⟩
/-- A loop of impl.InstallShard. -/
def r309L0 : RC :=
 .seq (.reg [⟨none, .bin 45 .lss (.t 44) (.t 43)⟩])
    (.seq (.cond (.t 45)
     (.skip)
     (.exit 0))
    (.seq (.block 1 (.seq (.reg [⟨none, .idx 46 16 (.t 42) (.t 44)⟩,
       ⟨none, .load 47 46 6 true⟩,
       ⟨none, .loc 11 [.int .u64 0, .int .u64 0, .int .i64 0, .int .i64 0, .nil, .nil]⟩,
       ⟨none, .store 11 6 (.t 47)⟩])
      (.seq (.seq (.reg [⟨none, .fad 48 11 0⟩,
        ⟨none, .load 49 48 1 false⟩,
        ⟨none, .fad 50 4 1⟩,
        ⟨none, .load 51 50 1 false⟩,
        ⟨none, .bin 52 .leq (.t 49) (.t 51)⟩,
        ⟨none, .mov 53 (.t 52)⟩,
        ⟨some (53, true), .fad 54 4 0⟩,
        ⟨some (53, true), .load 55 54 1 false⟩,
        ⟨some (53, true), .fad 56 11 1⟩,
        ⟨some (53, true), .load 57 56 1 false⟩,
        ⟨some (53, true), .bin 58 .leq (.t 55) (.t 57)⟩,
        ⟨none, .pick 59 (.t 53) (.t 58) (.k (.bool false))⟩])
       (.cond (.t 59)
       (.seq (.reg [⟨none, .load 60 8 3 true⟩,
         ⟨none, .store 6 3 (.t 60)⟩,
         ⟨none, .mov 7 (.k (.bool false))⟩])
        (.ret))
       (.skip)))
      (.seq (.reg [⟨none, .fad 61 11 0⟩,
       ⟨none, .load 62 61 1 false⟩,
       ⟨none, .fad 63 4 0⟩,
       ⟨none, .load 64 63 1 false⟩,
       ⟨none, .bin 65 .lss (.t 62) (.t 64)⟩])
      (.cond (.t 65)
      (.reg [⟨none, .mov 66 (.t 9)⟩,
       ⟨none, .bin 67 .add (.t 66) (.k (.int .i64 1))⟩,
       ⟨none, .mov 9 (.t 67)⟩])
      (.skip))))))
    (.reg [⟨none, .bin 68 .add (.t 44) (.k (.int .i64 1))⟩,
    ⟨none, .mov 44 (.t 68)⟩])))
/-- impl.InstallShard -/
def r309 : RF :=
 ⟨3, [.cell 6 3 true, .tmp 7],
 .seq (.reg [⟨none, .locb 3 (.t 0)⟩,
  ⟨none, .locb 4 (.t 1)⟩,
  ⟨none, .loc 6 [.int .i64 0, .int .i64 0, .nil]⟩,
  ⟨none, .mov 7 (.k (.bool false))⟩])
 (.seq (.reg [⟨none, .load 12 3 3 true⟩,
  ⟨none, .call (some 13) 320 [(.t 12)] false⟩,
  ⟨none, .loc 8 [.int .i64 0, .int .i64 0, .nil]⟩,
  ⟨none, .store 8 3 (.t 13)⟩])
 (.seq (.seq (.reg [⟨none, .load 14 3 3 true⟩,
   ⟨none, .mov 15 (.t 2)⟩,
   ⟨none, .call (some 16) 319 [(.t 14), (.t 15)] false⟩,
   ⟨none, .not 17 (.t 16)⟩,
   ⟨none, .mov 18 (.t 17)⟩,
   ⟨some (18, false), .load 19 4 6 true⟩,
   ⟨some (18, false), .call (some 20) 244 [(.t 19)] false⟩,
   ⟨some (18, false), .not 21 (.t 20)⟩,
   ⟨none, .pick 22 (.t 18) (.k (.bool true)) (.t 21)⟩,
   ⟨none, .mov 23 (.t 22)⟩,
   ⟨some (23, false), .fad 24 4 2⟩,
   ⟨some (23, false), .load 25 24 1 false⟩,
   ⟨some (23, false), .bin 26 .neq (.t 25) (.k (.int .i64 1))⟩,
   ⟨none, .pick 27 (.t 23) (.k (.bool true)) (.t 26)⟩,
   ⟨none, .mov 28 (.t 27)⟩,
   ⟨some (28, false), .mov 29 (.t 2)⟩,
   ⟨some (28, false), .fad 30 4 3⟩,
   ⟨some (28, false), .load 31 30 1 false⟩,
   ⟨some (28, false), .bin 32 .leq (.t 29) (.t 31)⟩,
   ⟨none, .pick 33 (.t 28) (.k (.bool true)) (.t 32)⟩,
   ⟨none, .mov 34 (.t 33)⟩,
   ⟨some (34, false), .fad 35 3 2⟩,
   ⟨some (34, false), .load 36 35 1 false⟩,
   ⟨some (34, false), .len 37 (.t 36)⟩,
   ⟨some (34, false), .bin 38 .eql (.t 37) (.k (.int .i64 8))⟩,
   ⟨none, .pick 39 (.t 34) (.k (.bool true)) (.t 38)⟩])
  (.cond (.t 39)
  (.seq (.reg [⟨none, .load 40 8 3 true⟩,
    ⟨none, .store 6 3 (.t 40)⟩,
    ⟨none, .mov 7 (.k (.bool false))⟩])
   (.ret))
  (.skip)))
 (.seq (.reg [⟨none, .mov 9 (.k (.int .i64 0))⟩])
 (.seq (.seq (.reg [⟨none, .fad 41 3 2⟩,
   ⟨none, .load 42 41 1 false⟩,
   ⟨none, .len 43 (.t 42)⟩,
   ⟨none, .mov 44 (.k (.int .i64 0))⟩])
  (.block 0 (.loop [2, 4, 6, 8, 9, 42, 43, 44]
   r309L0)))
 (.seq (.reg [⟨none, .load 69 4 6 true⟩,
  ⟨none, .call (some 70) 229 [(.t 69)] false⟩,
  ⟨none, .store 4 6 (.t 70)⟩])
 (.seq (.reg [⟨none, .fad 71 4 2⟩,
  ⟨none, .store 71 1 (.k (.int .i64 0))⟩])
 (.seq (.reg [⟨none, .fad 72 8 2⟩,
  ⟨none, .load 73 72 1 false⟩,
  ⟨none, .mov 74 (.t 9)⟩,
  ⟨none, .load 75 4 6 true⟩,
  ⟨none, .lit 76 16 1 [.int .u64 0, .int .u64 0, .int .i64 0, .int .i64 0, .nil, .nil] [(0, (.t 75))]⟩,
  ⟨none, .call (some 77) 332 [(.t 73), (.t 74), (.t 76)] false⟩,
  ⟨none, .fad 78 8 2⟩,
  ⟨none, .store 78 1 (.t 77)⟩])
 (.seq (.reg [⟨none, .load 79 8 3 true⟩,
  ⟨none, .mov 80 (.t 2)⟩,
  ⟨none, .call (some 81) 321 [(.t 79), (.t 80)] false⟩,
  ⟨none, .store 6 3 (.t 81)⟩,
  ⟨none, .mov 7 (.k (.bool true))⟩])
 (.ret)))))))))⟩
/-- A loop of impl.CutShard. -/
def r312L0 : RC :=
 .seq (.reg [⟨none, .bin 101 .lss (.t 100) (.t 99)⟩])
    (.seq (.cond (.t 101)
     (.skip)
     (.exit 2))
    (.seq (.block 3 (.seq (.reg [⟨none, .idx 102 9 (.t 98) (.t 100)⟩,
       ⟨none, .load 103 102 2 true⟩,
       ⟨none, .loc 17 [.int .i64 0, .int .u64 0]⟩,
       ⟨none, .store 17 2 (.t 103)⟩])
      (.seq (.reg [⟨none, .mov 18 (.t 11)⟩])
      (.seq (.seq (.reg [⟨none, .fad 104 17 1⟩,
        ⟨none, .load 105 104 1 false⟩,
        ⟨none, .mov 106 (.t 1)⟩,
        ⟨none, .bin 107 .geq (.t 105) (.t 106)⟩])
       (.cond (.t 107)
       (.reg [⟨none, .mov 18 (.t 12)⟩])
       (.skip)))
      (.reg [⟨none, .chk []⟩,
      ⟨none, .mov 108 (.t 18)⟩,
      ⟨none, .mov 109 (.t 18)⟩,
      ⟨none, .nilc 110 (.t 109)⟩,
      ⟨none, .fad 111 110 5⟩,
      ⟨none, .load 112 111 1 false⟩,
      ⟨none, .load 113 17 2 true⟩,
      ⟨none, .lit 114 9 1 [.int .i64 0, .int .u64 0] [(0, (.t 113))]⟩,
      ⟨none, .app 115 9 16 (.t 112) (.t 114)⟩,
      ⟨none, .nilc 116 (.t 108)⟩,
      ⟨none, .fad 117 116 5⟩,
      ⟨none, .store 117 1 (.t 115)⟩])))))
    (.reg [⟨none, .bin 118 .add (.t 100) (.k (.int .i64 1))⟩,
    ⟨none, .mov 100 (.t 118)⟩])))
/-- A loop of impl.CutShard. -/
def r312L1 : RC :=
 .seq (.reg [⟨none, .bin 77 .lss (.t 76) (.t 75)⟩])
    (.seq (.cond (.t 77)
     (.skip)
     (.exit 0))
    (.seq (.block 1 (.seq (.reg [⟨none, .idx 78 11 (.t 74) (.t 76)⟩,
       ⟨none, .load 79 78 5 true⟩,
       ⟨none, .loc 14 [.int .u64 0, .int .u64 0, .int .u64 0, .int .u64 0, .int .i64 0]⟩,
       ⟨none, .store 14 5 (.t 79)⟩])
      (.seq (.reg [⟨none, .mov 15 (.t 11)⟩])
      (.seq (.seq (.reg [⟨none, .fad 80 14 0⟩,
        ⟨none, .load 81 80 1 false⟩,
        ⟨none, .mov 82 (.t 1)⟩,
        ⟨none, .bin 83 .geq (.t 81) (.t 82)⟩])
       (.cond (.t 83)
       (.reg [⟨none, .mov 15 (.t 12)⟩])
       (.skip)))
      (.reg [⟨none, .chk []⟩,
      ⟨none, .mov 84 (.t 15)⟩,
      ⟨none, .mov 85 (.t 15)⟩,
      ⟨none, .nilc 86 (.t 85)⟩,
      ⟨none, .fad 87 86 4⟩,
      ⟨none, .fad 88 87 0⟩,
      ⟨none, .load 89 88 1 false⟩,
      ⟨none, .load 90 14 5 true⟩,
      ⟨none, .lit 91 11 1 [.int .u64 0, .int .u64 0, .int .u64 0, .int .u64 0, .int .i64 0] [(0, (.t 90))]⟩,
      ⟨none, .app 92 11 40 (.t 89) (.t 91)⟩,
      ⟨none, .nilc 93 (.t 84)⟩,
      ⟨none, .fad 94 93 4⟩,
      ⟨none, .fad 95 94 0⟩,
      ⟨none, .store 95 1 (.t 92)⟩])))))
    (.reg [⟨none, .bin 96 .add (.t 76) (.k (.int .i64 1))⟩,
    ⟨none, .mov 76 (.t 96)⟩])))
/-- impl.CutShard -/
def r312 : RF :=
 ⟨3, [.cell 6 3 true, .tmp 7],
 .seq (.reg [⟨none, .locb 3 (.t 0)⟩,
  ⟨none, .loc 6 [.int .i64 0, .int .i64 0, .nil]⟩,
  ⟨none, .mov 7 (.k (.bool false))⟩])
 (.seq (.reg [⟨none, .load 19 3 3 true⟩,
  ⟨none, .call (some 20) 320 [(.t 19)] false⟩,
  ⟨none, .loc 8 [.int .i64 0, .int .i64 0, .nil]⟩,
  ⟨none, .store 8 3 (.t 20)⟩])
 (.seq (.reg [⟨none, .load 21 3 3 true⟩,
  ⟨none, .mov 22 (.t 1)⟩,
  ⟨none, .call (some 23) 212 [(.t 21), (.t 22)] false⟩,
  ⟨none, .mov 9 (.t 23)⟩])
 (.seq (.seq (.reg [⟨none, .load 24 3 3 true⟩,
   ⟨none, .mov 25 (.t 2)⟩,
   ⟨none, .call (some 26) 319 [(.t 24), (.t 25)] false⟩,
   ⟨none, .not 27 (.t 26)⟩,
   ⟨none, .mov 28 (.t 27)⟩,
   ⟨some (28, false), .mov 29 (.t 9)⟩,
   ⟨some (28, false), .bin 30 .lss (.t 29) (.k (.int .i64 0))⟩,
   ⟨none, .pick 31 (.t 28) (.k (.bool true)) (.t 30)⟩,
   ⟨none, .mov 32 (.t 31)⟩,
   ⟨some (32, false), .fad 33 3 2⟩,
   ⟨some (32, false), .load 34 33 1 false⟩,
   ⟨some (32, false), .mov 35 (.t 9)⟩,
   ⟨some (32, false), .idx 36 16 (.t 34) (.t 35)⟩,
   ⟨some (32, false), .fad 37 36 2⟩,
   ⟨some (32, false), .load 38 37 1 false⟩,
   ⟨some (32, false), .bin 39 .neq (.t 38) (.k (.int .i64 0))⟩,
   ⟨none, .pick 40 (.t 32) (.k (.bool true)) (.t 39)⟩,
   ⟨none, .mov 41 (.t 40)⟩,
   ⟨some (41, false), .fad 42 3 2⟩,
   ⟨some (41, false), .load 43 42 1 false⟩,
   ⟨some (41, false), .mov 44 (.t 9)⟩,
   ⟨some (41, false), .idx 45 16 (.t 43) (.t 44)⟩,
   ⟨some (41, false), .fad 46 45 0⟩,
   ⟨some (41, false), .load 47 46 1 false⟩,
   ⟨some (41, false), .mov 48 (.t 1)⟩,
   ⟨some (41, false), .bin 49 .eql (.t 47) (.t 48)⟩,
   ⟨none, .pick 50 (.t 41) (.k (.bool true)) (.t 49)⟩,
   ⟨none, .mov 51 (.t 50)⟩,
   ⟨some (51, false), .fad 52 3 2⟩,
   ⟨some (51, false), .load 53 52 1 false⟩,
   ⟨some (51, false), .len 54 (.t 53)⟩,
   ⟨some (51, false), .bin 55 .eql (.t 54) (.k (.int .i64 8))⟩,
   ⟨none, .pick 56 (.t 51) (.k (.bool true)) (.t 55)⟩])
  (.cond (.t 56)
  (.seq (.reg [⟨none, .load 57 8 3 true⟩,
    ⟨none, .store 6 3 (.t 57)⟩,
    ⟨none, .mov 7 (.k (.bool false))⟩])
   (.ret))
  (.skip)))
 (.seq (.reg [⟨none, .fad 58 8 2⟩,
  ⟨none, .load 59 58 1 false⟩,
  ⟨none, .mov 60 (.t 9)⟩,
  ⟨none, .idx 61 16 (.t 59) (.t 60)⟩,
  ⟨none, .load 62 61 6 true⟩,
  ⟨none, .loc 10 [.int .u64 0, .int .u64 0, .int .i64 0, .int .i64 0, .nil, .nil]⟩,
  ⟨none, .store 10 6 (.t 62)⟩])
 (.seq (.reg [⟨none, .chk [11, 12]⟩,
  ⟨none, .own [11, 12]⟩,
  ⟨none, .loc 11 [.int .u64 0, .int .u64 0, .int .i64 0, .int .i64 0, .nil, .nil]⟩,
  ⟨none, .loc 12 [.int .u64 0, .int .u64 0, .int .i64 0, .int .i64 0, .nil, .nil]⟩,
  ⟨none, .mov 65 (.t 1)⟩,
  ⟨none, .bin 66 .sub (.t 65) (.k (.int .u64 1))⟩,
  ⟨none, .mov 68 (.t 1)⟩,
  ⟨none, .fad 63 10 0⟩,
  ⟨none, .load 64 63 1 false⟩,
  ⟨none, .build 67 [.int .u64 0, .int .u64 0, .int .i64 0, .int .i64 0, .nil, .nil] [(0, 1, (.t 64)), (1, 1, (.t 66))]⟩,
  ⟨none, .fad 69 10 1⟩,
  ⟨none, .load 70 69 1 false⟩,
  ⟨none, .build 71 [.int .u64 0, .int .u64 0, .int .i64 0, .int .i64 0, .nil, .nil] [(0, 1, (.t 68)), (1, 1, (.t 70))]⟩,
  ⟨none, .lst 11 6 (.t 67)⟩,
  ⟨none, .lst 12 6 (.t 71)⟩,
  ⟨none, .esc 11⟩,
  ⟨none, .esc 12⟩])
 (.seq (.seq (.reg [⟨none, .fad 72 10 4⟩,
   ⟨none, .fad 73 72 0⟩,
   ⟨none, .load 74 73 1 false⟩,
   ⟨none, .len 75 (.t 74)⟩,
   ⟨none, .mov 76 (.k (.int .i64 0))⟩])
  (.block 0 (.loop [1, 2, 6, 8, 9, 10, 11, 12, 74, 75, 76]
   r312L1)))
 (.seq (.seq (.reg [⟨none, .fad 97 10 5⟩,
   ⟨none, .load 98 97 1 false⟩,
   ⟨none, .len 99 (.t 98)⟩,
   ⟨none, .mov 100 (.k (.int .i64 0))⟩])
  (.block 2 (.loop [1, 2, 6, 8, 9, 11, 12, 98, 99, 100]
   r312L0)))
 (.seq (.reg [⟨none, .fad 119 8 2⟩,
  ⟨none, .load 120 119 1 false⟩,
  ⟨none, .mov 121 (.t 9)⟩,
  ⟨none, .load 122 11 6 true⟩,
  ⟨none, .idx 123 16 (.t 120) (.t 121)⟩,
  ⟨none, .store 123 6 (.t 122)⟩])
 (.seq (.reg [⟨none, .fad 124 8 2⟩,
  ⟨none, .load 125 124 1 false⟩,
  ⟨none, .mov 126 (.t 9)⟩,
  ⟨none, .bin 127 .add (.t 126) (.k (.int .i64 1))⟩,
  ⟨none, .load 128 12 6 true⟩,
  ⟨none, .lit 129 16 1 [.int .u64 0, .int .u64 0, .int .i64 0, .int .i64 0, .nil, .nil] [(0, (.t 128))]⟩,
  ⟨none, .call (some 130) 332 [(.t 125), (.t 127), (.t 129)] false⟩,
  ⟨none, .fad 131 8 2⟩,
  ⟨none, .store 131 1 (.t 130)⟩])
 (.seq (.reg [⟨none, .load 132 8 3 true⟩,
  ⟨none, .mov 133 (.t 2)⟩,
  ⟨none, .call (some 134) 321 [(.t 132), (.t 133)] false⟩,
  ⟨none, .store 6 3 (.t 134)⟩,
  ⟨none, .mov 7 (.k (.bool true))⟩])
 (.ret)))))))))))⟩
/-- impl.isNewEpoch -/
def r319 : RF :=
 ⟨2, [.tmp 4],
 .seq (.reg [⟨none, .locb 2 (.t 0)⟩,
  ⟨none, .mov 4 (.k (.bool false))⟩])
 (.seq (.reg [⟨none, .load 5 2 3 true⟩,
  ⟨none, .call (some 6) 206 [(.t 5)] false⟩,
  ⟨none, .mov 7 (.t 6)⟩,
  ⟨some (7, true), .mov 8 (.t 1)⟩,
  ⟨some (7, true), .fad 9 2 1⟩,
  ⟨some (7, true), .load 10 9 1 false⟩,
  ⟨some (7, true), .bin 11 .gtr (.t 8) (.t 10)⟩,
  ⟨none, .pick 12 (.t 7) (.t 11) (.k (.bool false))⟩,
  ⟨none, .mov 13 (.t 12)⟩,
  ⟨some (13, true), .mov 14 (.t 1)⟩,
  ⟨some (13, true), .bin 15 .leq (.t 14) (.k (.int .i64 1000000))⟩,
  ⟨none, .pick 16 (.t 13) (.t 15) (.k (.bool false))⟩,
  ⟨none, .mov 4 (.t 16)⟩])
 (.ret))⟩
/-- A loop of impl.copyStore. -/
def r320L0 : RC :=
 .seq (.reg [⟨none, .bin 15 .lss (.t 14) (.t 13)⟩])
    (.seq (.cond (.t 15)
     (.skip)
     (.exit 0))
    (.seq (.block 1 (.seq (.reg [⟨none, .idx 16 16 (.t 12) (.t 14)⟩,
       ⟨none, .load 17 16 6 true⟩,
       ⟨none, .loc 5 [.int .u64 0, .int .u64 0, .int .i64 0, .int .i64 0, .nil, .nil]⟩,
       ⟨none, .store 5 6 (.t 17)⟩])
      (.reg [⟨none, .chk []⟩,
      ⟨none, .fad 18 3 2⟩,
      ⟨none, .load 19 18 1 false⟩,
      ⟨none, .load 20 5 6 true⟩,
      ⟨none, .call (some 21) 229 [(.t 20)] true⟩,
      ⟨none, .lit 22 16 1 [.int .u64 0, .int .u64 0, .int .i64 0, .int .i64 0, .nil, .nil] [(0, (.t 21))]⟩,
      ⟨none, .app 23 16 80 (.t 19) (.t 22)⟩,
      ⟨none, .fad 24 3 2⟩,
      ⟨none, .store 24 1 (.t 23)⟩])))
    (.reg [⟨none, .bin 25 .add (.t 14) (.k (.int .i64 1))⟩,
    ⟨none, .mov 14 (.t 25)⟩])))
/-- impl.copyStore -/
def r320 : RF :=
 ⟨1, [.cell 2 3 true],
 .seq (.reg [⟨none, .locb 1 (.t 0)⟩,
  ⟨none, .loc 2 [.int .i64 0, .int .i64 0, .nil]⟩])
 (.seq (.reg [⟨none, .fad 6 1 0⟩,
  ⟨none, .load 7 6 1 false⟩,
  ⟨none, .fad 8 1 1⟩,
  ⟨none, .load 9 8 1 false⟩,
  ⟨none, .build 10 [.int .i64 0, .int .i64 0, .nil] [(0, 1, (.t 7)), (1, 1, (.t 9))]⟩,
  ⟨none, .loc 3 [.int .i64 0, .int .i64 0, .nil]⟩,
  ⟨none, .store 3 3 (.t 10)⟩])
 (.seq (.seq (.reg [⟨none, .fad 11 1 2⟩,
   ⟨none, .load 12 11 1 false⟩,
   ⟨none, .len 13 (.t 12)⟩,
   ⟨none, .mov 14 (.k (.int .i64 0))⟩])
  (.block 0 (.loop [2, 3, 12, 13, 14]
   r320L0)))
 (.seq (.reg [⟨none, .load 26 3 3 true⟩,
  ⟨none, .store 2 3 (.t 26)⟩])
 (.ret))))⟩
/-- A loop of impl.renewed. -/
def r321L0 : RC :=
 .seq (.reg [⟨none, .bin 12 .lss (.t 11) (.t 10)⟩])
    (.seq (.cond (.t 12)
     (.skip)
     (.exit 0))
    (.seq (.block 1 (.seq (.reg [⟨none, .mov 13 (.t 11)⟩,
       ⟨none, .mov 5 (.t 13)⟩])
      (.seq (.reg [⟨none, .fad 14 2 2⟩,
       ⟨none, .load 15 14 1 false⟩,
       ⟨none, .mov 16 (.t 5)⟩,
       ⟨none, .idx 17 16 (.t 15) (.t 16)⟩,
       ⟨none, .fad 18 17 2⟩,
       ⟨none, .load 19 18 1 false⟩,
       ⟨none, .bin 20 .eql (.t 19) (.k (.int .i64 0))⟩])
      (.cond (.t 20)
      (.reg [⟨none, .fad 21 2 2⟩,
       ⟨none, .load 22 21 1 false⟩,
       ⟨none, .mov 23 (.t 5)⟩,
       ⟨none, .mov 24 (.t 1)⟩,
       ⟨none, .idx 25 16 (.t 22) (.t 23)⟩,
       ⟨none, .fad 26 25 3⟩,
       ⟨none, .store 26 1 (.t 24)⟩])
      (.skip)))))
    (.reg [⟨none, .bin 27 .add (.t 11) (.k (.int .i64 1))⟩,
    ⟨none, .mov 11 (.t 27)⟩])))
/-- impl.renewed -/
def r321 : RF :=
 ⟨2, [.cell 4 3 true],
 .seq (.reg [⟨none, .locb 2 (.t 0)⟩,
  ⟨none, .loc 4 [.int .i64 0, .int .i64 0, .nil]⟩])
 (.seq (.reg [⟨none, .mov 6 (.t 1)⟩,
  ⟨none, .fad 7 2 1⟩,
  ⟨none, .store 7 1 (.t 6)⟩])
 (.seq (.seq (.reg [⟨none, .fad 8 2 2⟩,
   ⟨none, .load 9 8 1 false⟩,
   ⟨none, .len 10 (.t 9)⟩,
   ⟨none, .mov 11 (.k (.int .i64 0))⟩])
  (.block 0 (.loop [1, 2, 4, 10, 11]
   r321L0)))
 (.seq (.reg [⟨none, .load 28 2 3 true⟩,
  ⟨none, .store 4 3 (.t 28)⟩])
 (.ret))))⟩
/-- impl.JoinShard -/
def r365 : RF :=
 ⟨3, [.cell 6 3 true, .tmp 7],
 .seq (.reg [⟨none, .locb 3 (.t 0)⟩,
  ⟨none, .loc 6 [.int .i64 0, .int .i64 0, .nil]⟩,
  ⟨none, .mov 7 (.k (.bool false))⟩])
 (.seq (.reg [⟨none, .load 12 3 3 true⟩,
  ⟨none, .call (some 13) 320 [(.t 12)] false⟩,
  ⟨none, .loc 8 [.int .i64 0, .int .i64 0, .nil]⟩,
  ⟨none, .store 8 3 (.t 13)⟩])
 (.seq (.reg [⟨none, .load 14 3 3 true⟩,
  ⟨none, .mov 15 (.t 1)⟩,
  ⟨none, .call (some 16) 213 [(.t 14), (.t 15), (.k (.int .i64 0))] false⟩,
  ⟨none, .mov 9 (.t 16)⟩])
 (.seq (.seq (.reg [⟨none, .load 17 3 3 true⟩,
   ⟨none, .mov 18 (.t 2)⟩,
   ⟨none, .call (some 19) 319 [(.t 17), (.t 18)] false⟩,
   ⟨none, .not 20 (.t 19)⟩,
   ⟨none, .mov 21 (.t 20)⟩,
   ⟨some (21, false), .mov 22 (.t 1)⟩,
   ⟨some (21, false), .bin 23 .eql (.t 22) (.k (.int .u64 0))⟩,
   ⟨none, .pick 24 (.t 21) (.k (.bool true)) (.t 23)⟩,
   ⟨none, .mov 25 (.t 24)⟩,
   ⟨some (25, false), .mov 26 (.t 9)⟩,
   ⟨some (25, false), .bin 27 .lss (.t 26) (.k (.int .i64 1))⟩,
   ⟨none, .pick 28 (.t 25) (.k (.bool true)) (.t 27)⟩,
   ⟨none, .mov 29 (.t 28)⟩,
   ⟨some (29, false), .fad 30 3 2⟩,
   ⟨some (29, false), .load 31 30 1 false⟩,
   ⟨some (29, false), .mov 32 (.t 9)⟩,
   ⟨some (29, false), .bin 33 .sub (.t 32) (.k (.int .i64 1))⟩,
   ⟨some (29, false), .idx 34 16 (.t 31) (.t 33)⟩,
   ⟨some (29, false), .fad 35 34 2⟩,
   ⟨some (29, false), .load 36 35 1 false⟩,
   ⟨some (29, false), .bin 37 .neq (.t 36) (.k (.int .i64 0))⟩,
   ⟨none, .pick 38 (.t 29) (.k (.bool true)) (.t 37)⟩,
   ⟨none, .mov 39 (.t 38)⟩,
   ⟨some (39, false), .fad 40 3 2⟩,
   ⟨some (39, false), .load 41 40 1 false⟩,
   ⟨some (39, false), .mov 42 (.t 9)⟩,
   ⟨some (39, false), .bin 43 .sub (.t 42) (.k (.int .i64 1))⟩,
   ⟨some (39, false), .idx 44 16 (.t 41) (.t 43)⟩,
   ⟨some (39, false), .fad 45 44 1⟩,
   ⟨some (39, false), .load 46 45 1 false⟩,
   ⟨some (39, false), .mov 47 (.t 1)⟩,
   ⟨some (39, false), .bin 48 .sub (.t 47) (.k (.int .u64 1))⟩,
   ⟨some (39, false), .bin 49 .neq (.t 46) (.t 48)⟩,
   ⟨none, .pick 50 (.t 39) (.k (.bool true)) (.t 49)⟩])
  (.cond (.t 50)
  (.seq (.reg [⟨none, .load 51 8 3 true⟩,
    ⟨none, .store 6 3 (.t 51)⟩,
    ⟨none, .mov 7 (.k (.bool false))⟩])
   (.ret))
  (.skip)))
 (.seq (.reg [⟨none, .chk [10, 11]⟩,
  ⟨none, .own [10]⟩,
  ⟨none, .loc 10 [.int .u64 0, .int .u64 0, .int .i64 0, .int .i64 0, .nil, .nil]⟩,
  ⟨none, .loc 11 [.int .u64 0, .int .u64 0, .int .i64 0, .int .i64 0, .nil, .nil]⟩,
  ⟨none, .mov 54 (.t 9)⟩,
  ⟨none, .bin 55 .sub (.t 54) (.k (.int .i64 1))⟩,
  ⟨none, .mov 60 (.t 9)⟩,
  ⟨none, .fad 52 8 2⟩,
  ⟨none, .load 53 52 1 false⟩,
  ⟨none, .idx 56 16 (.t 53) (.t 55)⟩,
  ⟨none, .load 57 56 6 true⟩,
  ⟨none, .fad 58 8 2⟩,
  ⟨none, .load 59 58 1 false⟩,
  ⟨none, .idx 61 16 (.t 59) (.t 60)⟩,
  ⟨none, .load 62 61 6 true⟩,
  ⟨none, .store 10 6 (.t 57)⟩,
  ⟨none, .store 11 6 (.t 62)⟩])
 (.seq (.reg [⟨none, .fad 63 11 1⟩,
  ⟨none, .load 64 63 1 false⟩,
  ⟨none, .fad 65 10 1⟩,
  ⟨none, .store 65 1 (.t 64)⟩])
 (.seq (.reg [⟨none, .fad 66 10 4⟩,
  ⟨none, .fad 67 66 0⟩,
  ⟨none, .load 68 67 1 false⟩,
  ⟨none, .fad 69 11 4⟩,
  ⟨none, .fad 70 69 0⟩,
  ⟨none, .load 71 70 1 false⟩,
  ⟨none, .app 72 11 40 (.t 68) (.t 71)⟩,
  ⟨none, .fad 73 10 4⟩,
  ⟨none, .fad 74 73 0⟩,
  ⟨none, .store 74 1 (.t 72)⟩])
 (.seq (.reg [⟨none, .fad 75 10 5⟩,
  ⟨none, .load 76 75 1 false⟩,
  ⟨none, .fad 77 11 5⟩,
  ⟨none, .load 78 77 1 false⟩,
  ⟨none, .app 79 9 16 (.t 76) (.t 78)⟩,
  ⟨none, .fad 80 10 5⟩,
  ⟨none, .store 80 1 (.t 79)⟩])
 (.seq (.reg [⟨none, .fad 81 10 5⟩,
  ⟨none, .load 82 81 1 false⟩,
  ⟨none, .call (some 83) 375 [(.t 82), (.k (.fn 267 []))] false⟩])
 (.seq (.seq (.reg [⟨none, .fad 84 10 4⟩,
   ⟨none, .fad 85 84 0⟩,
   ⟨none, .load 86 85 1 false⟩,
   ⟨none, .len 87 (.t 86)⟩,
   ⟨none, .bin 88 .gtr (.t 87) (.k (.int .i64 40))⟩,
   ⟨none, .mov 89 (.t 88)⟩,
   ⟨some (89, false), .fad 90 10 5⟩,
   ⟨some (89, false), .load 91 90 1 false⟩,
   ⟨some (89, false), .len 92 (.t 91)⟩,
   ⟨some (89, false), .bin 93 .gtr (.t 92) (.k (.int .i64 60))⟩,
   ⟨none, .pick 94 (.t 89) (.k (.bool true)) (.t 93)⟩])
  (.cond (.t 94)
  (.seq (.reg [⟨none, .load 95 3 3 true⟩,
    ⟨none, .call (some 96) 320 [(.t 95)] false⟩,
    ⟨none, .store 6 3 (.t 96)⟩,
    ⟨none, .mov 7 (.k (.bool false))⟩])
   (.ret))
  (.skip)))
 (.seq (.reg [⟨none, .fad 97 8 2⟩,
  ⟨none, .load 98 97 1 false⟩,
  ⟨none, .mov 99 (.t 9)⟩,
  ⟨none, .bin 100 .sub (.t 99) (.k (.int .i64 1))⟩,
  ⟨none, .load 101 10 6 true⟩,
  ⟨none, .idx 102 16 (.t 98) (.t 100)⟩,
  ⟨none, .store 102 6 (.t 101)⟩])
 (.seq (.reg [⟨none, .fad 103 8 2⟩,
  ⟨none, .load 104 103 1 false⟩,
  ⟨none, .mov 105 (.t 9)⟩,
  ⟨none, .mov 106 (.t 9)⟩,
  ⟨none, .bin 107 .add (.t 106) (.k (.int .i64 1))⟩,
  ⟨none, .call (some 108) 330 [(.t 104), (.t 105), (.t 107)] false⟩,
  ⟨none, .fad 109 8 2⟩,
  ⟨none, .store 109 1 (.t 108)⟩])
 (.seq (.reg [⟨none, .load 110 8 3 true⟩,
  ⟨none, .mov 111 (.t 2)⟩,
  ⟨none, .call (some 112) 321 [(.t 110), (.t 111)] false⟩,
  ⟨none, .store 6 3 (.t 112)⟩,
  ⟨none, .mov 7 (.k (.bool true))⟩])
 (.ret)))))))))))))⟩
/-- The functions of this text, with their numbers. -/
def tI13 : List (Nat × RF) := [(157, r157), (164, r164), (190, r190), (206, r206), (212, r212), (213, r213), (229, r229), (244, r244), (247, r247), (249, r249), (267, r267), (291, r291), (298, r298), (301, r301), (309, r309), (312, r312), (319, r319), (320, r320), (321, r321), (365, r365)]
end Go.Proofs.Ytlfepembgjjejaa.A
/- The compact code of some functions: laws.szAccountS, laws.toAccountS, laws.eqAccountS, laws.toAccount, laws.eqAccount, laws.markAccountS, laws.heldAccountS. -/
namespace Go.Proofs.Ytlfepembgjjejaa.A
open Go
/-- laws.szAccountS -/
def r136 : RF :=
 ⟨2, [.tmp 4],
 .seq (.reg [⟨none, .mov 4 (.k (.int .i64 0))⟩])
 (.seq (.reg [⟨none, .mov 5 (.t 1)⟩,
  ⟨none, .mov 6 (.t 0)⟩,
  ⟨none, .len 7 (.t 6)⟩,
  ⟨none, .bin 8 .sub (.t 5) (.t 7)⟩,
  ⟨none, .mov 1 (.t 8)⟩])
 (.seq (.seq (.reg [⟨none, .mov 9 (.t 1)⟩,
   ⟨none, .bin 10 .lss (.t 9) (.k (.int .i64 0))⟩])
  (.cond (.t 10)
  (.seq (.reg [⟨none, .mov 4 (.k (.int .i64 (-1)))⟩])
   (.ret))
  (.skip)))
 (.seq (.reg [⟨none, .mov 11 (.t 1)⟩,
  ⟨none, .mov 4 (.t 11)⟩])
 (.ret))))⟩
/-- A loop of laws.toAccountS. -/
def r137L0 : RC :=
 .seq (.seq (.reg [⟨none, .mov 8 (.t 4)⟩,
      ⟨none, .mov 9 (.t 0)⟩,
      ⟨none, .len 10 (.t 9)⟩,
      ⟨none, .bin 11 .lss (.t 8) (.t 10)⟩])
     (.cond (.t 11)
     (.skip)
     (.exit 0)))
    (.seq (.block 1 (.reg [⟨none, .mov 14 (.t 3)⟩,
      ⟨none, .mov 15 (.t 4)⟩,
      ⟨none, .mov 16 (.t 0)⟩,
      ⟨none, .mov 17 (.t 4)⟩,
      ⟨none, .idx 18 12 (.t 16) (.t 17)⟩,
      ⟨none, .load 19 18 5 true⟩,
      ⟨none, .call (some 20) 141 [(.t 19)] false⟩,
      ⟨none, .idx 21 11 (.t 14) (.t 15)⟩,
      ⟨none, .store 21 5 (.t 20)⟩]))
    (.reg [⟨none, .mov 12 (.t 4)⟩,
    ⟨none, .bin 13 .add (.t 12) (.k (.int .i64 1))⟩,
    ⟨none, .mov 4 (.t 13)⟩]))
/-- laws.toAccountS -/
def r137 : RF :=
 ⟨1, [.tmp 2],
 .seq (.reg [⟨none, .mov 2 (.k (.nil))⟩])
 (.seq (.reg [⟨none, .mov 5 (.t 0)⟩,
  ⟨none, .len 6 (.t 5)⟩,
  ⟨none, .mks 7 11 40 [.int .u64 0, .int .u64 0, .int .u64 0, .int .u64 0, .int .i64 0] (.t 6) (.t 6)⟩,
  ⟨none, .mov 3 (.t 7)⟩])
 (.seq (.seq (.reg [⟨none, .mov 4 (.k (.int .i64 0))⟩])
  (.block 0 (.loop [0, 3, 4]
   r137L0)))
 (.seq (.reg [⟨none, .mov 22 (.t 3)⟩,
  ⟨none, .mov 2 (.t 22)⟩])
 (.ret))))⟩
/-- A loop of laws.eqAccountS. -/
def r139L0 : RC :=
 .seq (.seq (.reg [⟨none, .mov 11 (.t 5)⟩,
      ⟨none, .mov 12 (.t 0)⟩,
      ⟨none, .len 13 (.t 12)⟩,
      ⟨none, .bin 14 .lss (.t 11) (.t 13)⟩])
     (.cond (.t 14)
     (.skip)
     (.exit 0)))
    (.seq (.block 1 (.seq (.reg [⟨none, .chk []⟩,
       ⟨none, .mov 17 (.t 0)⟩,
       ⟨none, .mov 18 (.t 5)⟩,
       ⟨none, .idx 19 11 (.t 17) (.t 18)⟩,
       ⟨none, .mov 21 (.t 1)⟩,
       ⟨none, .mov 22 (.t 5)⟩,
       ⟨none, .idx 23 11 (.t 21) (.t 22)⟩,
       ⟨none, .load 20 19 5 true⟩,
       ⟨none, .load 24 23 5 true⟩,
       ⟨none, .call (some 25) 142 [(.t 20), (.t 24)] true⟩,
       ⟨none, .not 26 (.t 25)⟩])
      (.cond (.t 26)
      (.seq (.reg [⟨none, .mov 4 (.k (.bool false))⟩])
       (.ret))
      (.skip))))
    (.reg [⟨none, .mov 15 (.t 5)⟩,
    ⟨none, .bin 16 .add (.t 15) (.k (.int .i64 1))⟩,
    ⟨none, .mov 5 (.t 16)⟩]))
/-- laws.eqAccountS -/
def r139 : RF :=
 ⟨2, [.tmp 4],
 .seq (.reg [⟨none, .mov 4 (.k (.bool false))⟩])
 (.seq (.seq (.reg [⟨none, .mov 6 (.t 0)⟩,
   ⟨none, .len 7 (.t 6)⟩,
   ⟨none, .mov 8 (.t 1)⟩,
   ⟨none, .len 9 (.t 8)⟩,
   ⟨none, .bin 10 .neq (.t 7) (.t 9)⟩])
  (.cond (.t 10)
  (.seq (.reg [⟨none, .mov 4 (.k (.bool false))⟩])
   (.ret))
  (.skip)))
 (.seq (.seq (.reg [⟨none, .mov 5 (.k (.int .i64 0))⟩])
  (.block 0 (.loop [0, 1, 5]
   r139L0)))
 (.seq (.reg [⟨none, .mov 4 (.k (.bool true))⟩])
 (.ret))))⟩
/-- laws.toAccount -/
def r141 : RF :=
 ⟨1, [.cell 2 5 true],
 .seq (.reg [⟨none, .locb 1 (.t 0)⟩,
  ⟨none, .loc 2 [.int .u64 0, .int .u64 0, .int .u64 0, .int .u64 0, .int .i64 0]⟩])
 (.seq (.reg [⟨none, .loc 3 [.int .u64 0, .int .u64 0, .int .u64 0, .int .u64 0, .int .i64 0]⟩])
 (.seq (.reg [⟨none, .fad 4 1 0⟩,
  ⟨none, .load 5 4 1 false⟩,
  ⟨none, .fad 6 3 0⟩,
  ⟨none, .store 6 1 (.t 5)⟩])
 (.seq (.reg [⟨none, .fad 7 1 1⟩,
  ⟨none, .load 8 7 1 false⟩,
  ⟨none, .fad 9 3 1⟩,
  ⟨none, .store 9 1 (.t 8)⟩])
 (.seq (.reg [⟨none, .fad 10 1 2⟩,
  ⟨none, .load 11 10 1 false⟩,
  ⟨none, .fad 12 3 2⟩,
  ⟨none, .store 12 1 (.t 11)⟩])
 (.seq (.reg [⟨none, .fad 13 1 3⟩,
  ⟨none, .load 14 13 1 false⟩,
  ⟨none, .fad 15 3 3⟩,
  ⟨none, .store 15 1 (.t 14)⟩])
 (.seq (.reg [⟨none, .fad 16 1 4⟩,
  ⟨none, .load 17 16 1 false⟩,
  ⟨none, .fad 18 3 4⟩,
  ⟨none, .store 18 1 (.t 17)⟩])
 (.seq (.reg [⟨none, .load 19 3 5 true⟩,
  ⟨none, .store 2 5 (.t 19)⟩])
 (.ret))))))))⟩
/-- laws.eqAccount -/
def r142 : RF :=
 ⟨2, [.tmp 4],
 .seq (.reg [⟨none, .locb 2 (.t 0)⟩,
  ⟨none, .locb 3 (.t 1)⟩,
  ⟨none, .mov 4 (.k (.bool false))⟩])
 (.seq (.seq (.reg [⟨none, .fad 5 2 0⟩,
   ⟨none, .load 6 5 1 false⟩,
   ⟨none, .fad 7 3 0⟩,
   ⟨none, .load 8 7 1 false⟩,
   ⟨none, .bin 9 .neq (.t 6) (.t 8)⟩])
  (.cond (.t 9)
  (.seq (.reg [⟨none, .mov 4 (.k (.bool false))⟩])
   (.ret))
  (.skip)))
 (.seq (.seq (.reg [⟨none, .fad 10 2 1⟩,
   ⟨none, .load 11 10 1 false⟩,
   ⟨none, .fad 12 3 1⟩,
   ⟨none, .load 13 12 1 false⟩,
   ⟨none, .bin 14 .neq (.t 11) (.t 13)⟩])
  (.cond (.t 14)
  (.seq (.reg [⟨none, .mov 4 (.k (.bool false))⟩])
   (.ret))
  (.skip)))
 (.seq (.seq (.reg [⟨none, .fad 15 2 2⟩,
   ⟨none, .load 16 15 1 false⟩,
   ⟨none, .fad 17 3 2⟩,
   ⟨none, .load 18 17 1 false⟩,
   ⟨none, .bin 19 .neq (.t 16) (.t 18)⟩])
  (.cond (.t 19)
  (.seq (.reg [⟨none, .mov 4 (.k (.bool false))⟩])
   (.ret))
  (.skip)))
 (.seq (.seq (.reg [⟨none, .fad 20 2 3⟩,
   ⟨none, .load 21 20 1 false⟩,
   ⟨none, .fad 22 3 3⟩,
   ⟨none, .load 23 22 1 false⟩,
   ⟨none, .bin 24 .neq (.t 21) (.t 23)⟩])
  (.cond (.t 24)
  (.seq (.reg [⟨none, .mov 4 (.k (.bool false))⟩])
   (.ret))
  (.skip)))
 (.seq (.seq (.reg [⟨none, .fad 25 2 4⟩,
   ⟨none, .load 26 25 1 false⟩,
   ⟨none, .fad 27 3 4⟩,
   ⟨none, .load 28 27 1 false⟩,
   ⟨none, .bin 29 .neq (.t 26) (.t 28)⟩])
  (.cond (.t 29)
  (.seq (.reg [⟨none, .mov 4 (.k (.bool false))⟩])
   (.ret))
  (.skip)))
 (.seq (.reg [⟨none, .mov 4 (.k (.bool true))⟩])
 (.ret)))))))⟩
/-- A loop of laws.markAccountS. -/
def r261L0 : RC :=
 .seq (.seq (.reg [⟨none, .mov 6 (.t 5)⟩,
      ⟨none, .mov 7 (.t 0)⟩,
      ⟨none, .len 8 (.t 7)⟩,
      ⟨none, .bin 9 .lss (.t 6) (.t 8)⟩])
     (.cond (.t 9)
     (.skip)
     (.exit 0)))
    (.seq (.block 1 (.seq (.reg [⟨none, .mov 12 (.t 0)⟩,
       ⟨none, .mov 13 (.t 5)⟩,
       ⟨none, .mov 14 (.t 1)⟩,
       ⟨none, .conv 15 .u64 (.t 14)⟩,
       ⟨none, .idx 16 11 (.t 12) (.t 13)⟩,
       ⟨none, .fad 17 16 0⟩,
       ⟨none, .store 17 1 (.t 15)⟩])
      (.seq (.reg [⟨none, .mov 18 (.t 1)⟩,
       ⟨none, .bin 19 .add (.t 18) (.k (.int .i64 1))⟩,
       ⟨none, .mov 1 (.t 19)⟩])
      (.seq (.reg [⟨none, .mov 20 (.t 0)⟩,
       ⟨none, .mov 21 (.t 5)⟩,
       ⟨none, .mov 22 (.t 1)⟩,
       ⟨none, .conv 23 .u64 (.t 22)⟩,
       ⟨none, .idx 24 11 (.t 20) (.t 21)⟩,
       ⟨none, .fad 25 24 1⟩,
       ⟨none, .store 25 1 (.t 23)⟩])
      (.seq (.reg [⟨none, .mov 26 (.t 1)⟩,
       ⟨none, .bin 27 .add (.t 26) (.k (.int .i64 1))⟩,
       ⟨none, .mov 1 (.t 27)⟩])
      (.seq (.reg [⟨none, .mov 28 (.t 0)⟩,
       ⟨none, .mov 29 (.t 5)⟩,
       ⟨none, .mov 30 (.t 1)⟩,
       ⟨none, .conv 31 .u64 (.t 30)⟩,
       ⟨none, .idx 32 11 (.t 28) (.t 29)⟩,
       ⟨none, .fad 33 32 2⟩,
       ⟨none, .store 33 1 (.t 31)⟩])
      (.seq (.reg [⟨none, .mov 34 (.t 1)⟩,
       ⟨none, .bin 35 .add (.t 34) (.k (.int .i64 1))⟩,
       ⟨none, .mov 1 (.t 35)⟩])
      (.seq (.reg [⟨none, .mov 36 (.t 0)⟩,
       ⟨none, .mov 37 (.t 5)⟩,
       ⟨none, .mov 38 (.t 1)⟩,
       ⟨none, .conv 39 .u64 (.t 38)⟩,
       ⟨none, .idx 40 11 (.t 36) (.t 37)⟩,
       ⟨none, .fad 41 40 3⟩,
       ⟨none, .store 41 1 (.t 39)⟩])
      (.seq (.reg [⟨none, .mov 42 (.t 1)⟩,
       ⟨none, .bin 43 .add (.t 42) (.k (.int .i64 1))⟩,
       ⟨none, .mov 1 (.t 43)⟩])
      (.seq (.reg [⟨none, .mov 44 (.t 0)⟩,
       ⟨none, .mov 45 (.t 5)⟩,
       ⟨none, .mov 46 (.t 1)⟩,
       ⟨none, .idx 47 11 (.t 44) (.t 45)⟩,
       ⟨none, .fad 48 47 4⟩,
       ⟨none, .store 48 1 (.t 46)⟩])
      (.reg [⟨none, .mov 49 (.t 1)⟩,
      ⟨none, .bin 50 .add (.t 49) (.k (.int .i64 1))⟩,
      ⟨none, .mov 1 (.t 50)⟩])))))))))))
    (.reg [⟨none, .mov 10 (.t 5)⟩,
    ⟨none, .bin 11 .add (.t 10) (.k (.int .i64 1))⟩,
    ⟨none, .mov 5 (.t 11)⟩]))
/-- laws.markAccountS -/
def r261 : RF :=
 ⟨2, [.tmp 4],
 .seq (.reg [⟨none, .mov 4 (.k (.int .i64 0))⟩])
 (.seq (.seq (.reg [⟨none, .mov 5 (.k (.int .i64 0))⟩])
  (.block 0 (.loop [0, 1, 5]
   r261L0)))
 (.seq (.reg [⟨none, .mov 51 (.t 1)⟩,
  ⟨none, .mov 4 (.t 51)⟩])
 (.ret)))⟩
/-- A loop of laws.heldAccountS. -/
def r262L0 : RC :=
 .seq (.seq (.reg [⟨none, .mov 6 (.t 5)⟩,
      ⟨none, .mov 7 (.t 0)⟩,
      ⟨none, .len 8 (.t 7)⟩,
      ⟨none, .bin 9 .lss (.t 6) (.t 8)⟩])
     (.cond (.t 9)
     (.skip)
     (.exit 0)))
    (.seq (.block 1 (.seq (.seq (.reg [⟨none, .mov 12 (.t 0)⟩,
        ⟨none, .mov 13 (.t 5)⟩,
        ⟨none, .idx 14 11 (.t 12) (.t 13)⟩,
        ⟨none, .fad 15 14 0⟩,
        ⟨none, .load 16 15 1 false⟩,
        ⟨none, .mov 17 (.t 1)⟩,
        ⟨none, .conv 18 .u64 (.t 17)⟩,
        ⟨none, .bin 19 .neq (.t 16) (.t 18)⟩])
       (.cond (.t 19)
       (.seq (.reg [⟨none, .mov 4 (.k (.int .i64 (-1)))⟩])
        (.ret))
       (.skip)))
      (.seq (.reg [⟨none, .mov 20 (.t 1)⟩,
       ⟨none, .bin 21 .add (.t 20) (.k (.int .i64 1))⟩,
       ⟨none, .mov 1 (.t 21)⟩])
      (.seq (.seq (.reg [⟨none, .mov 22 (.t 0)⟩,
        ⟨none, .mov 23 (.t 5)⟩,
        ⟨none, .idx 24 11 (.t 22) (.t 23)⟩,
        ⟨none, .fad 25 24 1⟩,
        ⟨none, .load 26 25 1 false⟩,
        ⟨none, .mov 27 (.t 1)⟩,
        ⟨none, .conv 28 .u64 (.t 27)⟩,
        ⟨none, .bin 29 .neq (.t 26) (.t 28)⟩])
       (.cond (.t 29)
       (.seq (.reg [⟨none, .mov 4 (.k (.int .i64 (-1)))⟩])
        (.ret))
       (.skip)))
      (.seq (.reg [⟨none, .mov 30 (.t 1)⟩,
       ⟨none, .bin 31 .add (.t 30) (.k (.int .i64 1))⟩,
       ⟨none, .mov 1 (.t 31)⟩])
      (.seq (.seq (.reg [⟨none, .mov 32 (.t 0)⟩,
        ⟨none, .mov 33 (.t 5)⟩,
        ⟨none, .idx 34 11 (.t 32) (.t 33)⟩,
        ⟨none, .fad 35 34 2⟩,
        ⟨none, .load 36 35 1 false⟩,
        ⟨none, .mov 37 (.t 1)⟩,
        ⟨none, .conv 38 .u64 (.t 37)⟩,
        ⟨none, .bin 39 .neq (.t 36) (.t 38)⟩])
       (.cond (.t 39)
       (.seq (.reg [⟨none, .mov 4 (.k (.int .i64 (-1)))⟩])
        (.ret))
       (.skip)))
      (.seq (.reg [⟨none, .mov 40 (.t 1)⟩,
       ⟨none, .bin 41 .add (.t 40) (.k (.int .i64 1))⟩,
       ⟨none, .mov 1 (.t 41)⟩])
      (.seq (.seq (.reg [⟨none, .mov 42 (.t 0)⟩,
        ⟨none, .mov 43 (.t 5)⟩,
        ⟨none, .idx 44 11 (.t 42) (.t 43)⟩,
        ⟨none, .fad 45 44 3⟩,
        ⟨none, .load 46 45 1 false⟩,
        ⟨none, .mov 47 (.t 1)⟩,
        ⟨none, .conv 48 .u64 (.t 47)⟩,
        ⟨none, .bin 49 .neq (.t 46) (.t 48)⟩])
       (.cond (.t 49)
       (.seq (.reg [⟨none, .mov 4 (.k (.int .i64 (-1)))⟩])
        (.ret))
       (.skip)))
      (.seq (.reg [⟨none, .mov 50 (.t 1)⟩,
       ⟨none, .bin 51 .add (.t 50) (.k (.int .i64 1))⟩,
       ⟨none, .mov 1 (.t 51)⟩])
      (.seq (.seq (.reg [⟨none, .mov 52 (.t 0)⟩,
        ⟨none, .mov 53 (.t 5)⟩,
        ⟨none, .idx 54 11 (.t 52) (.t 53)⟩,
        ⟨none, .fad 55 54 4⟩,
        ⟨none, .load 56 55 1 false⟩,
        ⟨none, .mov 57 (.t 1)⟩,
        ⟨none, .bin 58 .neq (.t 56) (.t 57)⟩])
       (.cond (.t 58)
       (.seq (.reg [⟨none, .mov 4 (.k (.int .i64 (-1)))⟩])
        (.ret))
       (.skip)))
      (.reg [⟨none, .mov 59 (.t 1)⟩,
      ⟨none, .bin 60 .add (.t 59) (.k (.int .i64 1))⟩,
      ⟨none, .mov 1 (.t 60)⟩])))))))))))
    (.reg [⟨none, .mov 10 (.t 5)⟩,
    ⟨none, .bin 11 .add (.t 10) (.k (.int .i64 1))⟩,
    ⟨none, .mov 5 (.t 11)⟩]))
/-- laws.heldAccountS -/
def r262 : RF :=
 ⟨2, [.tmp 4],
 .seq (.reg [⟨none, .mov 4 (.k (.int .i64 0))⟩])
 (.seq (.seq (.reg [⟨none, .mov 5 (.k (.int .i64 0))⟩])
  (.block 0 (.loop [0, 1, 5]
   r262L0)))
 (.seq (.reg [⟨none, .mov 61 (.t 1)⟩,
  ⟨none, .mov 4 (.t 61)⟩])
 (.ret)))⟩
/-- The functions of this text, with their numbers. -/
def tLAccount : List (Nat × RF) := [(136, r136), (137, r137), (139, r139), (141, r141), (142, r142), (261, r261), (262, r262)]
end Go.Proofs.Ytlfepembgjjejaa.A
/- The compact code of some functions: laws.szBook, laws.toBook, laws.eqBook, laws.markBook, laws.heldBook. -/
namespace Go.Proofs.Ytlfepembgjjejaa.A
open Go
/-- laws.szBook -/
def r128 : RF :=
 ⟨2, [.tmp 4],
 .seq (.reg [⟨none, .locb 2 (.t 0)⟩,
  ⟨none, .mov 4 (.k (.int .i64 0))⟩])
 (.seq (.reg [⟨none, .fad 5 2 0⟩,
  ⟨none, .load 6 5 1 false⟩,
  ⟨none, .mov 7 (.t 1)⟩,
  ⟨none, .call (some 8) 136 [(.t 6), (.t 7)] false⟩,
  ⟨none, .mov 1 (.t 8)⟩])
 (.seq (.seq (.reg [⟨none, .mov 9 (.t 1)⟩,
   ⟨none, .bin 10 .lss (.t 9) (.k (.int .i64 0))⟩])
  (.cond (.t 10)
  (.seq (.reg [⟨none, .mov 4 (.k (.int .i64 (-1)))⟩])
   (.ret))
  (.skip)))
 (.seq (.reg [⟨none, .mov 11 (.t 1)⟩,
  ⟨none, .mov 4 (.t 11)⟩])
 (.ret))))⟩
/-- laws.toBook -/
def r130 : RF :=
 ⟨1, [.cell 2 1 true],
 .seq (.reg [⟨none, .locb 1 (.t 0)⟩,
  ⟨none, .loc 2 [.nil]⟩])
 (.seq (.reg [⟨none, .loc 3 [.nil]⟩])
 (.seq (.reg [⟨none, .fad 4 1 0⟩,
  ⟨none, .load 5 4 1 false⟩,
  ⟨none, .call (some 6) 137 [(.t 5)] false⟩,
  ⟨none, .fad 7 3 0⟩,
  ⟨none, .store 7 1 (.t 6)⟩])
 (.seq (.reg [⟨none, .load 8 3 1 true⟩,
  ⟨none, .store 2 1 (.t 8)⟩])
 (.ret))))⟩
/-- laws.eqBook -/
def r133 : RF :=
 ⟨2, [.tmp 4],
 .seq (.reg [⟨none, .locb 2 (.t 0)⟩,
  ⟨none, .locb 3 (.t 1)⟩,
  ⟨none, .mov 4 (.k (.bool false))⟩])
 (.seq (.seq (.reg [⟨none, .fad 5 2 0⟩,
   ⟨none, .load 6 5 1 false⟩,
   ⟨none, .fad 7 3 0⟩,
   ⟨none, .load 8 7 1 false⟩,
   ⟨none, .call (some 9) 139 [(.t 6), (.t 8)] false⟩,
   ⟨none, .not 10 (.t 9)⟩])
  (.cond (.t 10)
  (.seq (.reg [⟨none, .mov 4 (.k (.bool false))⟩])
   (.ret))
  (.skip)))
 (.seq (.reg [⟨none, .mov 4 (.k (.bool true))⟩])
 (.ret)))⟩
/-- laws.markBook -/
def r231 : RF :=
 ⟨2, [.tmp 4],
 .seq (.reg [⟨none, .locb 2 (.t 0)⟩,
  ⟨none, .mov 4 (.k (.int .i64 0))⟩])
 (.seq (.reg [⟨none, .fad 5 2 0⟩,
  ⟨none, .load 6 5 1 false⟩,
  ⟨none, .mov 7 (.t 1)⟩,
  ⟨none, .call (some 8) 261 [(.t 6), (.t 7)] false⟩,
  ⟨none, .mov 1 (.t 8)⟩])
 (.seq (.reg [⟨none, .mov 9 (.t 1)⟩,
  ⟨none, .mov 4 (.t 9)⟩])
 (.ret)))⟩
/-- laws.heldBook -/
def r233 : RF :=
 ⟨2, [.tmp 4],
 .seq (.reg [⟨none, .locb 2 (.t 0)⟩,
  ⟨none, .mov 4 (.k (.int .i64 0))⟩])
 (.seq (.reg [⟨none, .fad 5 2 0⟩,
  ⟨none, .load 6 5 1 false⟩,
  ⟨none, .mov 7 (.t 1)⟩,
  ⟨none, .call (some 8) 262 [(.t 6), (.t 7)] false⟩,
  ⟨none, .mov 1 (.t 8)⟩])
 (.seq (.seq (.reg [⟨none, .mov 9 (.t 1)⟩,
   ⟨none, .bin 10 .lss (.t 9) (.k (.int .i64 0))⟩])
  (.cond (.t 10)
  (.seq (.reg [⟨none, .mov 4 (.k (.int .i64 (-1)))⟩])
   (.ret))
  (.skip)))
 (.seq (.reg [⟨none, .mov 11 (.t 1)⟩,
  ⟨none, .mov 4 (.t 11)⟩])
 (.ret))))⟩
/-- The functions of this text, with their numbers. -/
def tLBook : List (Nat × RF) := [(128, r128), (130, r130), (133, r133), (231, r231), (233, r233)]
end Go.Proofs.Ytlfepembgjjejaa.A
/- The compact code of some functions: laws.szFinS, laws.toFinS, laws.eqFinS, laws.toFin, laws.eqFin, laws.markFinS, laws.heldFinS. -/
namespace Go.Proofs.Ytlfepembgjjejaa.A
open Go
/-- laws.szFinS -/
def r129 : RF :=
 ⟨2, [.tmp 4],
 .seq (.reg [⟨none, .mov 4 (.k (.int .i64 0))⟩])
 (.seq (.reg [⟨none, .mov 5 (.t 1)⟩,
  ⟨none, .mov 6 (.t 0)⟩,
  ⟨none, .len 7 (.t 6)⟩,
  ⟨none, .bin 8 .sub (.t 5) (.t 7)⟩,
  ⟨none, .mov 1 (.t 8)⟩])
 (.seq (.seq (.reg [⟨none, .mov 9 (.t 1)⟩,
   ⟨none, .bin 10 .lss (.t 9) (.k (.int .i64 0))⟩])
  (.cond (.t 10)
  (.seq (.reg [⟨none, .mov 4 (.k (.int .i64 (-1)))⟩])
   (.ret))
  (.skip)))
 (.seq (.reg [⟨none, .mov 11 (.t 1)⟩,
  ⟨none, .mov 4 (.t 11)⟩])
 (.ret))))⟩
/-- A loop of laws.toFinS. -/
def r131L0 : RC :=
 .seq (.seq (.reg [⟨none, .mov 8 (.t 4)⟩,
      ⟨none, .mov 9 (.t 0)⟩,
      ⟨none, .len 10 (.t 9)⟩,
      ⟨none, .bin 11 .lss (.t 8) (.t 10)⟩])
     (.cond (.t 11)
     (.skip)
     (.exit 0)))
    (.seq (.block 1 (.reg [⟨none, .mov 14 (.t 3)⟩,
      ⟨none, .mov 15 (.t 4)⟩,
      ⟨none, .mov 16 (.t 0)⟩,
      ⟨none, .mov 17 (.t 4)⟩,
      ⟨none, .idx 18 10 (.t 16) (.t 17)⟩,
      ⟨none, .load 19 18 2 true⟩,
      ⟨none, .call (some 20) 138 [(.t 19)] false⟩,
      ⟨none, .idx 21 9 (.t 14) (.t 15)⟩,
      ⟨none, .store 21 2 (.t 20)⟩]))
    (.reg [⟨none, .mov 12 (.t 4)⟩,
    ⟨none, .bin 13 .add (.t 12) (.k (.int .i64 1))⟩,
    ⟨none, .mov 4 (.t 13)⟩]))
/-- laws.toFinS -/
def r131 : RF :=
 ⟨1, [.tmp 2],
 .seq (.reg [⟨none, .mov 2 (.k (.nil))⟩])
 (.seq (.reg [⟨none, .mov 5 (.t 0)⟩,
  ⟨none, .len 6 (.t 5)⟩,
  ⟨none, .mks 7 9 16 [.int .i64 0, .int .u64 0] (.t 6) (.t 6)⟩,
  ⟨none, .mov 3 (.t 7)⟩])
 (.seq (.seq (.reg [⟨none, .mov 4 (.k (.int .i64 0))⟩])
  (.block 0 (.loop [0, 3, 4]
   r131L0)))
 (.seq (.reg [⟨none, .mov 22 (.t 3)⟩,
  ⟨none, .mov 2 (.t 22)⟩])
 (.ret))))⟩
/-- A loop of laws.eqFinS. -/
def r134L0 : RC :=
 .seq (.seq (.reg [⟨none, .mov 11 (.t 5)⟩,
      ⟨none, .mov 12 (.t 0)⟩,
      ⟨none, .len 13 (.t 12)⟩,
      ⟨none, .bin 14 .lss (.t 11) (.t 13)⟩])
     (.cond (.t 14)
     (.skip)
     (.exit 0)))
    (.seq (.block 1 (.seq (.reg [⟨none, .chk []⟩,
       ⟨none, .mov 17 (.t 0)⟩,
       ⟨none, .mov 18 (.t 5)⟩,
       ⟨none, .idx 19 9 (.t 17) (.t 18)⟩,
       ⟨none, .mov 21 (.t 1)⟩,
       ⟨none, .mov 22 (.t 5)⟩,
       ⟨none, .idx 23 9 (.t 21) (.t 22)⟩,
       ⟨none, .load 20 19 2 true⟩,
       ⟨none, .load 24 23 2 true⟩,
       ⟨none, .call (some 25) 140 [(.t 20), (.t 24)] true⟩,
       ⟨none, .not 26 (.t 25)⟩])
      (.cond (.t 26)
      (.seq (.reg [⟨none, .mov 4 (.k (.bool false))⟩])
       (.ret))
      (.skip))))
    (.reg [⟨none, .mov 15 (.t 5)⟩,
    ⟨none, .bin 16 .add (.t 15) (.k (.int .i64 1))⟩,
    ⟨none, .mov 5 (.t 16)⟩]))
/-- laws.eqFinS -/
def r134 : RF :=
 ⟨2, [.tmp 4],
 .seq (.reg [⟨none, .mov 4 (.k (.bool false))⟩])
 (.seq (.seq (.reg [⟨none, .mov 6 (.t 0)⟩,
   ⟨none, .len 7 (.t 6)⟩,
   ⟨none, .mov 8 (.t 1)⟩,
   ⟨none, .len 9 (.t 8)⟩,
   ⟨none, .bin 10 .neq (.t 7) (.t 9)⟩])
  (.cond (.t 10)
  (.seq (.reg [⟨none, .mov 4 (.k (.bool false))⟩])
   (.ret))
  (.skip)))
 (.seq (.seq (.reg [⟨none, .mov 5 (.k (.int .i64 0))⟩])
  (.block 0 (.loop [0, 1, 5]
   r134L0)))
 (.seq (.reg [⟨none, .mov 4 (.k (.bool true))⟩])
 (.ret))))⟩
/-- laws.toFin -/
def r138 : RF :=
 ⟨1, [.cell 2 2 true],
 .seq (.reg [⟨none, .locb 1 (.t 0)⟩,
  ⟨none, .loc 2 [.int .i64 0, .int .u64 0]⟩])
 (.seq (.reg [⟨none, .loc 3 [.int .i64 0, .int .u64 0]⟩])
 (.seq (.reg [⟨none, .fad 4 1 0⟩,
  ⟨none, .load 5 4 1 false⟩,
  ⟨none, .fad 6 3 0⟩,
  ⟨none, .store 6 1 (.t 5)⟩])
 (.seq (.reg [⟨none, .fad 7 1 1⟩,
  ⟨none, .load 8 7 1 false⟩,
  ⟨none, .fad 9 3 1⟩,
  ⟨none, .store 9 1 (.t 8)⟩])
 (.seq (.reg [⟨none, .load 10 3 2 true⟩,
  ⟨none, .store 2 2 (.t 10)⟩])
 (.ret)))))⟩
/-- laws.eqFin -/
def r140 : RF :=
 ⟨2, [.tmp 4],
 .seq (.reg [⟨none, .locb 2 (.t 0)⟩,
  ⟨none, .locb 3 (.t 1)⟩,
  ⟨none, .mov 4 (.k (.bool false))⟩])
 (.seq (.seq (.reg [⟨none, .fad 5 2 0⟩,
   ⟨none, .load 6 5 1 false⟩,
   ⟨none, .fad 7 3 0⟩,
   ⟨none, .load 8 7 1 false⟩,
   ⟨none, .bin 9 .neq (.t 6) (.t 8)⟩])
  (.cond (.t 9)
  (.seq (.reg [⟨none, .mov 4 (.k (.bool false))⟩])
   (.ret))
  (.skip)))
 (.seq (.seq (.reg [⟨none, .fad 10 2 1⟩,
   ⟨none, .load 11 10 1 false⟩,
   ⟨none, .fad 12 3 1⟩,
   ⟨none, .load 13 12 1 false⟩,
   ⟨none, .bin 14 .neq (.t 11) (.t 13)⟩])
  (.cond (.t 14)
  (.seq (.reg [⟨none, .mov 4 (.k (.bool false))⟩])
   (.ret))
  (.skip)))
 (.seq (.reg [⟨none, .mov 4 (.k (.bool true))⟩])
 (.ret))))⟩
/-- A loop of laws.markFinS. -/
def r232L0 : RC :=
 .seq (.seq (.reg [⟨none, .mov 6 (.t 5)⟩,
      ⟨none, .mov 7 (.t 0)⟩,
      ⟨none, .len 8 (.t 7)⟩,
      ⟨none, .bin 9 .lss (.t 6) (.t 8)⟩])
     (.cond (.t 9)
     (.skip)
     (.exit 0)))
    (.seq (.block 1 (.seq (.reg [⟨none, .mov 12 (.t 0)⟩,
       ⟨none, .mov 13 (.t 5)⟩,
       ⟨none, .mov 14 (.t 1)⟩,
       ⟨none, .idx 15 9 (.t 12) (.t 13)⟩,
       ⟨none, .fad 16 15 0⟩,
       ⟨none, .store 16 1 (.t 14)⟩])
      (.seq (.reg [⟨none, .mov 17 (.t 1)⟩,
       ⟨none, .bin 18 .add (.t 17) (.k (.int .i64 1))⟩,
       ⟨none, .mov 1 (.t 18)⟩])
      (.seq (.reg [⟨none, .mov 19 (.t 0)⟩,
       ⟨none, .mov 20 (.t 5)⟩,
       ⟨none, .mov 21 (.t 1)⟩,
       ⟨none, .conv 22 .u64 (.t 21)⟩,
       ⟨none, .idx 23 9 (.t 19) (.t 20)⟩,
       ⟨none, .fad 24 23 1⟩,
       ⟨none, .store 24 1 (.t 22)⟩])
      (.reg [⟨none, .mov 25 (.t 1)⟩,
      ⟨none, .bin 26 .add (.t 25) (.k (.int .i64 1))⟩,
      ⟨none, .mov 1 (.t 26)⟩])))))
    (.reg [⟨none, .mov 10 (.t 5)⟩,
    ⟨none, .bin 11 .add (.t 10) (.k (.int .i64 1))⟩,
    ⟨none, .mov 5 (.t 11)⟩]))
/-- laws.markFinS -/
def r232 : RF :=
 ⟨2, [.tmp 4],
 .seq (.reg [⟨none, .mov 4 (.k (.int .i64 0))⟩])
 (.seq (.seq (.reg [⟨none, .mov 5 (.k (.int .i64 0))⟩])
  (.block 0 (.loop [0, 1, 5]
   r232L0)))
 (.seq (.reg [⟨none, .mov 27 (.t 1)⟩,
  ⟨none, .mov 4 (.t 27)⟩])
 (.ret)))⟩
/-- A loop of laws.heldFinS. -/
def r234L0 : RC :=
 .seq (.seq (.reg [⟨none, .mov 6 (.t 5)⟩,
      ⟨none, .mov 7 (.t 0)⟩,
      ⟨none, .len 8 (.t 7)⟩,
      ⟨none, .bin 9 .lss (.t 6) (.t 8)⟩])
     (.cond (.t 9)
     (.skip)
     (.exit 0)))
    (.seq (.block 1 (.seq (.seq (.reg [⟨none, .mov 12 (.t 0)⟩,
        ⟨none, .mov 13 (.t 5)⟩,
        ⟨none, .idx 14 9 (.t 12) (.t 13)⟩,
        ⟨none, .fad 15 14 0⟩,
        ⟨none, .load 16 15 1 false⟩,
        ⟨none, .mov 17 (.t 1)⟩,
        ⟨none, .bin 18 .neq (.t 16) (.t 17)⟩])
       (.cond (.t 18)
       (.seq (.reg [⟨none, .mov 4 (.k (.int .i64 (-1)))⟩])
        (.ret))
       (.skip)))
      (.seq (.reg [⟨none, .mov 19 (.t 1)⟩,
       ⟨none, .bin 20 .add (.t 19) (.k (.int .i64 1))⟩,
       ⟨none, .mov 1 (.t 20)⟩])
      (.seq (.seq (.reg [⟨none, .mov 21 (.t 0)⟩,
        ⟨none, .mov 22 (.t 5)⟩,
        ⟨none, .idx 23 9 (.t 21) (.t 22)⟩,
        ⟨none, .fad 24 23 1⟩,
        ⟨none, .load 25 24 1 false⟩,
        ⟨none, .mov 26 (.t 1)⟩,
        ⟨none, .conv 27 .u64 (.t 26)⟩,
        ⟨none, .bin 28 .neq (.t 25) (.t 27)⟩])
       (.cond (.t 28)
       (.seq (.reg [⟨none, .mov 4 (.k (.int .i64 (-1)))⟩])
        (.ret))
       (.skip)))
      (.reg [⟨none, .mov 29 (.t 1)⟩,
      ⟨none, .bin 30 .add (.t 29) (.k (.int .i64 1))⟩,
      ⟨none, .mov 1 (.t 30)⟩])))))
    (.reg [⟨none, .mov 10 (.t 5)⟩,
    ⟨none, .bin 11 .add (.t 10) (.k (.int .i64 1))⟩,
    ⟨none, .mov 5 (.t 11)⟩]))
/-- laws.heldFinS -/
def r234 : RF :=
 ⟨2, [.tmp 4],
 .seq (.reg [⟨none, .mov 4 (.k (.int .i64 0))⟩])
 (.seq (.seq (.reg [⟨none, .mov 5 (.k (.int .i64 0))⟩])
  (.block 0 (.loop [0, 1, 5]
   r234L0)))
 (.seq (.reg [⟨none, .mov 31 (.t 1)⟩,
  ⟨none, .mov 4 (.t 31)⟩])
 (.ret)))⟩
/-- The functions of this text, with their numbers. -/
def tLFin : List (Nat × RF) := [(129, r129), (131, r131), (134, r134), (138, r138), (140, r140), (232, r232), (234, r234)]
end Go.Proofs.Ytlfepembgjjejaa.A
/- The compact code of some functions: laws.szShard, laws.toShard, laws.eqShard, laws.markShard, laws.heldShard, laws.szShardS, laws.toShardS, laws.eqShardS, laws.markShardS, laws.heldShardS. -/
namespace Go.Proofs.Ytlfepembgjjejaa.A
open Go
/-- laws.szShard -/
def r111 : RF :=
 ⟨2, [.tmp 4],
 .seq (.reg [⟨none, .locb 2 (.t 0)⟩,
  ⟨none, .mov 4 (.k (.int .i64 0))⟩])
 (.seq (.reg [⟨none, .fad 5 2 4⟩,
  ⟨none, .load 6 5 1 true⟩,
  ⟨none, .mov 7 (.t 1)⟩,
  ⟨none, .call (some 8) 128 [(.t 6), (.t 7)] false⟩,
  ⟨none, .mov 1 (.t 8)⟩])
 (.seq (.seq (.reg [⟨none, .mov 9 (.t 1)⟩,
   ⟨none, .bin 10 .lss (.t 9) (.k (.int .i64 0))⟩])
  (.cond (.t 10)
  (.seq (.reg [⟨none, .mov 4 (.k (.int .i64 (-1)))⟩])
   (.ret))
  (.skip)))
 (.seq (.reg [⟨none, .fad 11 2 5⟩,
  ⟨none, .load 12 11 1 false⟩,
  ⟨none, .mov 13 (.t 1)⟩,
  ⟨none, .call (some 14) 129 [(.t 12), (.t 13)] false⟩,
  ⟨none, .mov 1 (.t 14)⟩])
 (.seq (.seq (.reg [⟨none, .mov 15 (.t 1)⟩,
   ⟨none, .bin 16 .lss (.t 15) (.k (.int .i64 0))⟩])
  (.cond (.t 16)
  (.seq (.reg [⟨none, .mov 4 (.k (.int .i64 (-1)))⟩])
   (.ret))
  (.skip)))
 (.seq (.reg [⟨none, .mov 17 (.t 1)⟩,
  ⟨none, .mov 4 (.t 17)⟩])
 (.ret))))))⟩
/-- laws.toShard -/
def r112 : RF :=
 ⟨1, [.cell 2 6 true],
 .seq (.reg [⟨none, .locb 1 (.t 0)⟩,
  ⟨none, .loc 2 [.int .u64 0, .int .u64 0, .int .i64 0, .int .i64 0, .nil, .nil]⟩])
 (.seq (.reg [⟨none, .loc 3 [.int .u64 0, .int .u64 0, .int .i64 0, .int .i64 0, .nil, .nil]⟩])
 (.seq (.reg [⟨none, .fad 4 1 0⟩,
  ⟨none, .load 5 4 1 false⟩,
  ⟨none, .fad 6 3 0⟩,
  ⟨none, .store 6 1 (.t 5)⟩])
 (.seq (.reg [⟨none, .fad 7 1 1⟩,
  ⟨none, .load 8 7 1 false⟩,
  ⟨none, .fad 9 3 1⟩,
  ⟨none, .store 9 1 (.t 8)⟩])
 (.seq (.reg [⟨none, .fad 10 1 2⟩,
  ⟨none, .load 11 10 1 false⟩,
  ⟨none, .fad 12 3 2⟩,
  ⟨none, .store 12 1 (.t 11)⟩])
 (.seq (.reg [⟨none, .fad 13 1 3⟩,
  ⟨none, .load 14 13 1 false⟩,
  ⟨none, .fad 15 3 3⟩,
  ⟨none, .store 15 1 (.t 14)⟩])
 (.seq (.reg [⟨none, .fad 16 1 4⟩,
  ⟨none, .load 17 16 1 true⟩,
  ⟨none, .call (some 18) 130 [(.t 17)] false⟩,
  ⟨none, .fad 19 3 4⟩,
  ⟨none, .store 19 1 (.t 18)⟩])
 (.seq (.reg [⟨none, .fad 20 1 5⟩,
  ⟨none, .load 21 20 1 false⟩,
  ⟨none, .call (some 22) 131 [(.t 21)] false⟩,
  ⟨none, .fad 23 3 5⟩,
  ⟨none, .store 23 1 (.t 22)⟩])
 (.seq (.reg [⟨none, .load 24 3 6 true⟩,
  ⟨none, .store 2 6 (.t 24)⟩])
 (.ret)))))))))⟩
/-- laws.eqShard -/
def r114 : RF :=
 ⟨2, [.tmp 4],
 .seq (.reg [⟨none, .locb 2 (.t 0)⟩,
  ⟨none, .locb 3 (.t 1)⟩,
  ⟨none, .mov 4 (.k (.bool false))⟩])
 (.seq (.seq (.reg [⟨none, .fad 5 2 0⟩,
   ⟨none, .load 6 5 1 false⟩,
   ⟨none, .fad 7 3 0⟩,
   ⟨none, .load 8 7 1 false⟩,
   ⟨none, .bin 9 .neq (.t 6) (.t 8)⟩])
  (.cond (.t 9)
  (.seq (.reg [⟨none, .mov 4 (.k (.bool false))⟩])
   (.ret))
  (.skip)))
 (.seq (.seq (.reg [⟨none, .fad 10 2 1⟩,
   ⟨none, .load 11 10 1 false⟩,
   ⟨none, .fad 12 3 1⟩,
   ⟨none, .load 13 12 1 false⟩,
   ⟨none, .bin 14 .neq (.t 11) (.t 13)⟩])
  (.cond (.t 14)
  (.seq (.reg [⟨none, .mov 4 (.k (.bool false))⟩])
   (.ret))
  (.skip)))
 (.seq (.seq (.reg [⟨none, .fad 15 2 2⟩,
   ⟨none, .load 16 15 1 false⟩,
   ⟨none, .fad 17 3 2⟩,
   ⟨none, .load 18 17 1 false⟩,
   ⟨none, .bin 19 .neq (.t 16) (.t 18)⟩])
  (.cond (.t 19)
  (.seq (.reg [⟨none, .mov 4 (.k (.bool false))⟩])
   (.ret))
  (.skip)))
 (.seq (.seq (.reg [⟨none, .fad 20 2 3⟩,
   ⟨none, .load 21 20 1 false⟩,
   ⟨none, .fad 22 3 3⟩,
   ⟨none, .load 23 22 1 false⟩,
   ⟨none, .bin 24 .neq (.t 21) (.t 23)⟩])
  (.cond (.t 24)
  (.seq (.reg [⟨none, .mov 4 (.k (.bool false))⟩])
   (.ret))
  (.skip)))
 (.seq (.seq (.reg [⟨none, .fad 25 2 4⟩,
   ⟨none, .load 26 25 1 true⟩,
   ⟨none, .fad 27 3 4⟩,
   ⟨none, .load 28 27 1 true⟩,
   ⟨none, .call (some 29) 133 [(.t 26), (.t 28)] false⟩,
   ⟨none, .not 30 (.t 29)⟩])
  (.cond (.t 30)
  (.seq (.reg [⟨none, .mov 4 (.k (.bool false))⟩])
   (.ret))
  (.skip)))
 (.seq (.seq (.reg [⟨none, .fad 31 2 5⟩,
   ⟨none, .load 32 31 1 false⟩,
   ⟨none, .fad 33 3 5⟩,
   ⟨none, .load 34 33 1 false⟩,
   ⟨none, .call (some 35) 134 [(.t 32), (.t 34)] false⟩,
   ⟨none, .not 36 (.t 35)⟩])
  (.cond (.t 36)
  (.seq (.reg [⟨none, .mov 4 (.k (.bool false))⟩])
   (.ret))
  (.skip)))
 (.seq (.reg [⟨none, .mov 4 (.k (.bool true))⟩])
 (.ret))))))))⟩
/-- laws.markShard -/
def r192 : RF :=
 ⟨2, [.tmp 4],
 .seq (.reg [⟨none, .locb 2 (.t 0)⟩,
  ⟨none, .mov 4 (.k (.int .i64 0))⟩])
 (.seq (.reg [⟨none, .fad 5 2 4⟩,
  ⟨none, .load 6 5 1 true⟩,
  ⟨none, .mov 7 (.t 1)⟩,
  ⟨none, .call (some 8) 231 [(.t 6), (.t 7)] false⟩,
  ⟨none, .mov 1 (.t 8)⟩])
 (.seq (.reg [⟨none, .fad 9 2 5⟩,
  ⟨none, .load 10 9 1 false⟩,
  ⟨none, .mov 11 (.t 1)⟩,
  ⟨none, .call (some 12) 232 [(.t 10), (.t 11)] false⟩,
  ⟨none, .mov 1 (.t 12)⟩])
 (.seq (.reg [⟨none, .mov 13 (.t 1)⟩,
  ⟨none, .mov 4 (.t 13)⟩])
 (.ret))))⟩
/-- laws.heldShard -/
def r193 : RF :=
 ⟨2, [.tmp 4],
 .seq (.reg [⟨none, .locb 2 (.t 0)⟩,
  ⟨none, .mov 4 (.k (.int .i64 0))⟩])
 (.seq (.reg [⟨none, .fad 5 2 4⟩,
  ⟨none, .load 6 5 1 true⟩,
  ⟨none, .mov 7 (.t 1)⟩,
  ⟨none, .call (some 8) 233 [(.t 6), (.t 7)] false⟩,
  ⟨none, .mov 1 (.t 8)⟩])
 (.seq (.seq (.reg [⟨none, .mov 9 (.t 1)⟩,
   ⟨none, .bin 10 .lss (.t 9) (.k (.int .i64 0))⟩])
  (.cond (.t 10)
  (.seq (.reg [⟨none, .mov 4 (.k (.int .i64 (-1)))⟩])
   (.ret))
  (.skip)))
 (.seq (.reg [⟨none, .fad 11 2 5⟩,
  ⟨none, .load 12 11 1 false⟩,
  ⟨none, .mov 13 (.t 1)⟩,
  ⟨none, .call (some 14) 234 [(.t 12), (.t 13)] false⟩,
  ⟨none, .mov 1 (.t 14)⟩])
 (.seq (.seq (.reg [⟨none, .mov 15 (.t 1)⟩,
   ⟨none, .bin 16 .lss (.t 15) (.k (.int .i64 0))⟩])
  (.cond (.t 16)
  (.seq (.reg [⟨none, .mov 4 (.k (.int .i64 (-1)))⟩])
   (.ret))
  (.skip)))
 (.seq (.reg [⟨none, .mov 17 (.t 1)⟩,
  ⟨none, .mov 4 (.t 17)⟩])
 (.ret))))))⟩
/-- A loop of laws.szShardS. -/
def r203L0 : RC :=
 .seq (.seq (.reg [⟨none, .mov 12 (.t 5)⟩,
      ⟨none, .mov 13 (.t 0)⟩,
      ⟨none, .len 14 (.t 13)⟩,
      ⟨none, .bin 15 .lss (.t 12) (.t 14)⟩])
     (.cond (.t 15)
     (.skip)
     (.exit 0)))
    (.seq (.block 1 (.seq (.reg [⟨none, .mov 18 (.t 0)⟩,
       ⟨none, .mov 19 (.t 5)⟩,
       ⟨none, .idx 20 20 (.t 18) (.t 19)⟩,
       ⟨none, .load 21 20 6 true⟩,
       ⟨none, .mov 22 (.t 1)⟩,
       ⟨none, .call (some 23) 111 [(.t 21), (.t 22)] false⟩,
       ⟨none, .mov 1 (.t 23)⟩])
      (.seq (.reg [⟨none, .mov 24 (.t 1)⟩,
       ⟨none, .bin 25 .lss (.t 24) (.k (.int .i64 0))⟩])
      (.cond (.t 25)
      (.seq (.reg [⟨none, .mov 4 (.k (.int .i64 (-1)))⟩])
       (.ret))
      (.skip)))))
    (.reg [⟨none, .mov 16 (.t 5)⟩,
    ⟨none, .bin 17 .add (.t 16) (.k (.int .i64 1))⟩,
    ⟨none, .mov 5 (.t 17)⟩]))
/-- laws.szShardS -/
def r203 : RF :=
 ⟨2, [.tmp 4],
 .seq (.reg [⟨none, .mov 4 (.k (.int .i64 0))⟩])
 (.seq (.reg [⟨none, .mov 6 (.t 1)⟩,
  ⟨none, .mov 7 (.t 0)⟩,
  ⟨none, .len 8 (.t 7)⟩,
  ⟨none, .bin 9 .sub (.t 6) (.t 8)⟩,
  ⟨none, .mov 1 (.t 9)⟩])
 (.seq (.seq (.reg [⟨none, .mov 10 (.t 1)⟩,
   ⟨none, .bin 11 .lss (.t 10) (.k (.int .i64 0))⟩])
  (.cond (.t 11)
  (.seq (.reg [⟨none, .mov 4 (.k (.int .i64 (-1)))⟩])
   (.ret))
  (.skip)))
 (.seq (.seq (.reg [⟨none, .mov 5 (.k (.int .i64 0))⟩])
  (.block 0 (.loop [0, 1, 5]
   r203L0)))
 (.seq (.reg [⟨none, .mov 26 (.t 1)⟩,
  ⟨none, .mov 4 (.t 26)⟩])
 (.ret)))))⟩
/-- A loop of laws.toShardS. -/
def r205L0 : RC :=
 .seq (.seq (.reg [⟨none, .mov 8 (.t 4)⟩,
      ⟨none, .mov 9 (.t 0)⟩,
      ⟨none, .len 10 (.t 9)⟩,
      ⟨none, .bin 11 .lss (.t 8) (.t 10)⟩])
     (.cond (.t 11)
     (.skip)
     (.exit 0)))
    (.seq (.block 1 (.reg [⟨none, .mov 14 (.t 3)⟩,
      ⟨none, .mov 15 (.t 4)⟩,
      ⟨none, .mov 16 (.t 0)⟩,
      ⟨none, .mov 17 (.t 4)⟩,
      ⟨none, .idx 18 20 (.t 16) (.t 17)⟩,
      ⟨none, .load 19 18 6 true⟩,
      ⟨none, .call (some 20) 112 [(.t 19)] false⟩,
      ⟨none, .idx 21 16 (.t 14) (.t 15)⟩,
      ⟨none, .store 21 6 (.t 20)⟩]))
    (.reg [⟨none, .mov 12 (.t 4)⟩,
    ⟨none, .bin 13 .add (.t 12) (.k (.int .i64 1))⟩,
    ⟨none, .mov 4 (.t 13)⟩]))
/-- laws.toShardS -/
def r205 : RF :=
 ⟨1, [.tmp 2],
 .seq (.reg [⟨none, .mov 2 (.k (.nil))⟩])
 (.seq (.reg [⟨none, .mov 5 (.t 0)⟩,
  ⟨none, .len 6 (.t 5)⟩,
  ⟨none, .mks 7 16 80 [.int .u64 0, .int .u64 0, .int .i64 0, .int .i64 0, .nil, .nil] (.t 6) (.t 6)⟩,
  ⟨none, .mov 3 (.t 7)⟩])
 (.seq (.seq (.reg [⟨none, .mov 4 (.k (.int .i64 0))⟩])
  (.block 0 (.loop [0, 3, 4]
   r205L0)))
 (.seq (.reg [⟨none, .mov 22 (.t 3)⟩,
  ⟨none, .mov 2 (.t 22)⟩])
 (.ret))))⟩
/-- A loop of laws.eqShardS. -/
def r207L0 : RC :=
 .seq (.seq (.reg [⟨none, .mov 11 (.t 5)⟩,
      ⟨none, .mov 12 (.t 0)⟩,
      ⟨none, .len 13 (.t 12)⟩,
      ⟨none, .bin 14 .lss (.t 11) (.t 13)⟩])
     (.cond (.t 14)
     (.skip)
     (.exit 0)))
    (.seq (.block 1 (.seq (.reg [⟨none, .chk []⟩,
       ⟨none, .mov 17 (.t 0)⟩,
       ⟨none, .mov 18 (.t 5)⟩,
       ⟨none, .idx 19 16 (.t 17) (.t 18)⟩,
       ⟨none, .mov 21 (.t 1)⟩,
       ⟨none, .mov 22 (.t 5)⟩,
       ⟨none, .idx 23 16 (.t 21) (.t 22)⟩,
       ⟨none, .load 20 19 6 true⟩,
       ⟨none, .load 24 23 6 true⟩,
       ⟨none, .call (some 25) 114 [(.t 20), (.t 24)] true⟩,
       ⟨none, .not 26 (.t 25)⟩])
      (.cond (.t 26)
      (.seq (.reg [⟨none, .mov 4 (.k (.bool false))⟩])
       (.ret))
      (.skip))))
    (.reg [⟨none, .mov 15 (.t 5)⟩,
    ⟨none, .bin 16 .add (.t 15) (.k (.int .i64 1))⟩,
    ⟨none, .mov 5 (.t 16)⟩]))
/-- laws.eqShardS -/
def r207 : RF :=
 ⟨2, [.tmp 4],
 .seq (.reg [⟨none, .mov 4 (.k (.bool false))⟩])
 (.seq (.seq (.reg [⟨none, .mov 6 (.t 0)⟩,
   ⟨none, .len 7 (.t 6)⟩,
   ⟨none, .mov 8 (.t 1)⟩,
   ⟨none, .len 9 (.t 8)⟩,
   ⟨none, .bin 10 .neq (.t 7) (.t 9)⟩])
  (.cond (.t 10)
  (.seq (.reg [⟨none, .mov 4 (.k (.bool false))⟩])
   (.ret))
  (.skip)))
 (.seq (.seq (.reg [⟨none, .mov 5 (.k (.int .i64 0))⟩])
  (.block 0 (.loop [0, 1, 5]
   r207L0)))
 (.seq (.reg [⟨none, .mov 4 (.k (.bool true))⟩])
 (.ret))))⟩
/-- A loop of laws.markShardS. -/
def r230L0 : RC :=
 .seq (.seq (.reg [⟨none, .mov 6 (.t 5)⟩,
      ⟨none, .mov 7 (.t 0)⟩,
      ⟨none, .len 8 (.t 7)⟩,
      ⟨none, .bin 9 .lss (.t 6) (.t 8)⟩])
     (.cond (.t 9)
     (.skip)
     (.exit 0)))
    (.seq (.block 1 (.seq (.reg [⟨none, .mov 12 (.t 0)⟩,
       ⟨none, .mov 13 (.t 5)⟩,
       ⟨none, .mov 14 (.t 1)⟩,
       ⟨none, .conv 15 .u64 (.t 14)⟩,
       ⟨none, .idx 16 16 (.t 12) (.t 13)⟩,
       ⟨none, .fad 17 16 0⟩,
       ⟨none, .store 17 1 (.t 15)⟩])
      (.seq (.reg [⟨none, .mov 18 (.t 1)⟩,
       ⟨none, .bin 19 .add (.t 18) (.k (.int .i64 1))⟩,
       ⟨none, .mov 1 (.t 19)⟩])
      (.seq (.reg [⟨none, .mov 20 (.t 0)⟩,
       ⟨none, .mov 21 (.t 5)⟩,
       ⟨none, .mov 22 (.t 1)⟩,
       ⟨none, .conv 23 .u64 (.t 22)⟩,
       ⟨none, .idx 24 16 (.t 20) (.t 21)⟩,
       ⟨none, .fad 25 24 1⟩,
       ⟨none, .store 25 1 (.t 23)⟩])
      (.seq (.reg [⟨none, .mov 26 (.t 1)⟩,
       ⟨none, .bin 27 .add (.t 26) (.k (.int .i64 1))⟩,
       ⟨none, .mov 1 (.t 27)⟩])
      (.seq (.reg [⟨none, .mov 28 (.t 0)⟩,
       ⟨none, .mov 29 (.t 5)⟩,
       ⟨none, .mov 30 (.t 1)⟩,
       ⟨none, .idx 31 16 (.t 28) (.t 29)⟩,
       ⟨none, .fad 32 31 2⟩,
       ⟨none, .store 32 1 (.t 30)⟩])
      (.seq (.reg [⟨none, .mov 33 (.t 1)⟩,
       ⟨none, .bin 34 .add (.t 33) (.k (.int .i64 1))⟩,
       ⟨none, .mov 1 (.t 34)⟩])
      (.seq (.reg [⟨none, .mov 35 (.t 0)⟩,
       ⟨none, .mov 36 (.t 5)⟩,
       ⟨none, .mov 37 (.t 1)⟩,
       ⟨none, .idx 38 16 (.t 35) (.t 36)⟩,
       ⟨none, .fad 39 38 3⟩,
       ⟨none, .store 39 1 (.t 37)⟩])
      (.seq (.reg [⟨none, .mov 40 (.t 1)⟩,
       ⟨none, .bin 41 .add (.t 40) (.k (.int .i64 1))⟩,
       ⟨none, .mov 1 (.t 41)⟩])
      (.seq (.reg [⟨none, .mov 42 (.t 0)⟩,
       ⟨none, .mov 43 (.t 5)⟩,
       ⟨none, .idx 44 16 (.t 42) (.t 43)⟩,
       ⟨none, .fad 45 44 4⟩,
       ⟨none, .fad 46 45 0⟩,
       ⟨none, .load 47 46 1 false⟩,
       ⟨none, .mov 48 (.t 1)⟩,
       ⟨none, .call (some 49) 261 [(.t 47), (.t 48)] false⟩,
       ⟨none, .mov 1 (.t 49)⟩])
      (.reg [⟨none, .mov 50 (.t 0)⟩,
      ⟨none, .mov 51 (.t 5)⟩,
      ⟨none, .idx 52 16 (.t 50) (.t 51)⟩,
      ⟨none, .fad 53 52 5⟩,
      ⟨none, .load 54 53 1 false⟩,
      ⟨none, .mov 55 (.t 1)⟩,
      ⟨none, .call (some 56) 232 [(.t 54), (.t 55)] false⟩,
      ⟨none, .mov 1 (.t 56)⟩])))))))))))
    (.reg [⟨none, .mov 10 (.t 5)⟩,
    ⟨none, .bin 11 .add (.t 10) (.k (.int .i64 1))⟩,
    ⟨none, .mov 5 (.t 11)⟩]))
/-- laws.markShardS -/
def r230 : RF :=
 ⟨2, [.tmp 4],
 .seq (.reg [⟨none, .mov 4 (.k (.int .i64 0))⟩])
 (.seq (.seq (.reg [⟨none, .mov 5 (.k (.int .i64 0))⟩])
  (.block 0 (.loop [0, 1, 5]
   r230L0)))
 (.seq (.reg [⟨none, .mov 57 (.t 1)⟩,
  ⟨none, .mov 4 (.t 57)⟩])
 (.ret)))⟩
/-- A loop of laws.heldShardS. -/
def r322L0 : RC :=
 .seq (.seq (.reg [⟨none, .mov 6 (.t 5)⟩,
      ⟨none, .mov 7 (.t 0)⟩,
      ⟨none, .len 8 (.t 7)⟩,
      ⟨none, .bin 9 .lss (.t 6) (.t 8)⟩])
     (.cond (.t 9)
     (.skip)
     (.exit 0)))
    (.seq (.block 1 (.seq (.seq (.reg [⟨none, .mov 12 (.t 0)⟩,
        ⟨none, .mov 13 (.t 5)⟩,
        ⟨none, .idx 14 16 (.t 12) (.t 13)⟩,
        ⟨none, .fad 15 14 0⟩,
        ⟨none, .load 16 15 1 false⟩,
        ⟨none, .mov 17 (.t 1)⟩,
        ⟨none, .conv 18 .u64 (.t 17)⟩,
        ⟨none, .bin 19 .neq (.t 16) (.t 18)⟩])
       (.cond (.t 19)
       (.seq (.reg [⟨none, .mov 4 (.k (.int .i64 (-1)))⟩])
        (.ret))
       (.skip)))
      (.seq (.reg [⟨none, .mov 20 (.t 1)⟩,
       ⟨none, .bin 21 .add (.t 20) (.k (.int .i64 1))⟩,
       ⟨none, .mov 1 (.t 21)⟩])
      (.seq (.seq (.reg [⟨none, .mov 22 (.t 0)⟩,
        ⟨none, .mov 23 (.t 5)⟩,
        ⟨none, .idx 24 16 (.t 22) (.t 23)⟩,
        ⟨none, .fad 25 24 1⟩,
        ⟨none, .load 26 25 1 false⟩,
        ⟨none, .mov 27 (.t 1)⟩,
        ⟨none, .conv 28 .u64 (.t 27)⟩,
        ⟨none, .bin 29 .neq (.t 26) (.t 28)⟩])
       (.cond (.t 29)
       (.seq (.reg [⟨none, .mov 4 (.k (.int .i64 (-1)))⟩])
        (.ret))
       (.skip)))
      (.seq (.reg [⟨none, .mov 30 (.t 1)⟩,
       ⟨none, .bin 31 .add (.t 30) (.k (.int .i64 1))⟩,
       ⟨none, .mov 1 (.t 31)⟩])
      (.seq (.seq (.reg [⟨none, .mov 32 (.t 0)⟩,
        ⟨none, .mov 33 (.t 5)⟩,
        ⟨none, .idx 34 16 (.t 32) (.t 33)⟩,
        ⟨none, .fad 35 34 2⟩,
        ⟨none, .load 36 35 1 false⟩,
        ⟨none, .mov 37 (.t 1)⟩,
        ⟨none, .bin 38 .neq (.t 36) (.t 37)⟩])
       (.cond (.t 38)
       (.seq (.reg [⟨none, .mov 4 (.k (.int .i64 (-1)))⟩])
        (.ret))
       (.skip)))
      (.seq (.reg [⟨none, .mov 39 (.t 1)⟩,
       ⟨none, .bin 40 .add (.t 39) (.k (.int .i64 1))⟩,
       ⟨none, .mov 1 (.t 40)⟩])
      (.seq (.seq (.reg [⟨none, .mov 41 (.t 0)⟩,
        ⟨none, .mov 42 (.t 5)⟩,
        ⟨none, .idx 43 16 (.t 41) (.t 42)⟩,
        ⟨none, .fad 44 43 3⟩,
        ⟨none, .load 45 44 1 false⟩,
        ⟨none, .mov 46 (.t 1)⟩,
        ⟨none, .bin 47 .neq (.t 45) (.t 46)⟩])
       (.cond (.t 47)
       (.seq (.reg [⟨none, .mov 4 (.k (.int .i64 (-1)))⟩])
        (.ret))
       (.skip)))
      (.seq (.reg [⟨none, .mov 48 (.t 1)⟩,
       ⟨none, .bin 49 .add (.t 48) (.k (.int .i64 1))⟩,
       ⟨none, .mov 1 (.t 49)⟩])
      (.seq (.reg [⟨none, .mov 50 (.t 0)⟩,
       ⟨none, .mov 51 (.t 5)⟩,
       ⟨none, .idx 52 16 (.t 50) (.t 51)⟩,
       ⟨none, .fad 53 52 4⟩,
       ⟨none, .fad 54 53 0⟩,
       ⟨none, .load 55 54 1 false⟩,
       ⟨none, .mov 56 (.t 1)⟩,
       ⟨none, .call (some 57) 262 [(.t 55), (.t 56)] false⟩,
       ⟨none, .mov 1 (.t 57)⟩])
      (.seq (.seq (.reg [⟨none, .mov 58 (.t 1)⟩,
        ⟨none, .bin 59 .lss (.t 58) (.k (.int .i64 0))⟩])
       (.cond (.t 59)
       (.seq (.reg [⟨none, .mov 4 (.k (.int .i64 (-1)))⟩])
        (.ret))
       (.skip)))
      (.seq (.reg [⟨none, .mov 60 (.t 0)⟩,
       ⟨none, .mov 61 (.t 5)⟩,
       ⟨none, .idx 62 16 (.t 60) (.t 61)⟩,
       ⟨none, .fad 63 62 5⟩,
       ⟨none, .load 64 63 1 false⟩,
       ⟨none, .mov 65 (.t 1)⟩,
       ⟨none, .call (some 66) 234 [(.t 64), (.t 65)] false⟩,
       ⟨none, .mov 1 (.t 66)⟩])
      (.seq (.reg [⟨none, .mov 67 (.t 1)⟩,
       ⟨none, .bin 68 .lss (.t 67) (.k (.int .i64 0))⟩])
      (.cond (.t 68)
      (.seq (.reg [⟨none, .mov 4 (.k (.int .i64 (-1)))⟩])
       (.ret))
      (.skip)))))))))))))))
    (.reg [⟨none, .mov 10 (.t 5)⟩,
    ⟨none, .bin 11 .add (.t 10) (.k (.int .i64 1))⟩,
    ⟨none, .mov 5 (.t 11)⟩]))
/-- laws.heldShardS -/
def r322 : RF :=
 ⟨2, [.tmp 4],
 .seq (.reg [⟨none, .mov 4 (.k (.int .i64 0))⟩])
 (.seq (.seq (.reg [⟨none, .mov 5 (.k (.int .i64 0))⟩])
  (.block 0 (.loop [0, 1, 5]
   r322L0)))
 (.seq (.reg [⟨none, .mov 69 (.t 1)⟩,
  ⟨none, .mov 4 (.t 69)⟩])
 (.ret)))⟩
/-- The functions of this text, with their numbers. -/
def tLShard : List (Nat × RF) := [(111, r111), (112, r112), (114, r114), (192, r192), (193, r193), (203, r203), (205, r205), (207, r207), (230, r230), (322, r322)]
end Go.Proofs.Ytlfepembgjjejaa.A
/- The compact code of some functions: laws.szStore, laws.toStore, laws.eqStore, laws.szStoreS, laws.toStoreS, laws.eqStoreS, laws.markStore, laws.markStoreS, laws.heldStore. -/
namespace Go.Proofs.Ytlfepembgjjejaa.A
open Go
/-- laws.szStore -/
def r154 : RF :=
 ⟨2, [.tmp 4],
 .seq (.reg [⟨none, .locb 2 (.t 0)⟩,
  ⟨none, .mov 4 (.k (.int .i64 0))⟩])
 (.seq (.reg [⟨none, .fad 5 2 2⟩,
  ⟨none, .load 6 5 1 false⟩,
  ⟨none, .mov 7 (.t 1)⟩,
  ⟨none, .call (some 8) 203 [(.t 6), (.t 7)] false⟩,
  ⟨none, .mov 1 (.t 8)⟩])
 (.seq (.seq (.reg [⟨none, .mov 9 (.t 1)⟩,
   ⟨none, .bin 10 .lss (.t 9) (.k (.int .i64 0))⟩])
  (.cond (.t 10)
  (.seq (.reg [⟨none, .mov 4 (.k (.int .i64 (-1)))⟩])
   (.ret))
  (.skip)))
 (.seq (.reg [⟨none, .mov 11 (.t 1)⟩,
  ⟨none, .mov 4 (.t 11)⟩])
 (.ret))))⟩
/-- laws.toStore -/
def r155 : RF :=
 ⟨1, [.cell 2 3 true],
 .seq (.reg [⟨none, .locb 1 (.t 0)⟩,
  ⟨none, .loc 2 [.int .i64 0, .int .i64 0, .nil]⟩])
 (.seq (.reg [⟨none, .loc 3 [.int .i64 0, .int .i64 0, .nil]⟩])
 (.seq (.reg [⟨none, .fad 4 1 0⟩,
  ⟨none, .load 5 4 1 false⟩,
  ⟨none, .fad 6 3 0⟩,
  ⟨none, .store 6 1 (.t 5)⟩])
 (.seq (.reg [⟨none, .fad 7 1 1⟩,
  ⟨none, .load 8 7 1 false⟩,
  ⟨none, .fad 9 3 1⟩,
  ⟨none, .store 9 1 (.t 8)⟩])
 (.seq (.reg [⟨none, .fad 10 1 2⟩,
  ⟨none, .load 11 10 1 false⟩,
  ⟨none, .call (some 12) 205 [(.t 11)] false⟩,
  ⟨none, .fad 13 3 2⟩,
  ⟨none, .store 13 1 (.t 12)⟩])
 (.seq (.reg [⟨none, .load 14 3 3 true⟩,
  ⟨none, .store 2 3 (.t 14)⟩])
 (.ret))))))⟩
/-- laws.eqStore -/
def r158 : RF :=
 ⟨2, [.tmp 4],
 .seq (.reg [⟨none, .locb 2 (.t 0)⟩,
  ⟨none, .locb 3 (.t 1)⟩,
  ⟨none, .mov 4 (.k (.bool false))⟩])
 (.seq (.seq (.reg [⟨none, .fad 5 2 0⟩,
   ⟨none, .load 6 5 1 false⟩,
   ⟨none, .fad 7 3 0⟩,
   ⟨none, .load 8 7 1 false⟩,
   ⟨none, .bin 9 .neq (.t 6) (.t 8)⟩])
  (.cond (.t 9)
  (.seq (.reg [⟨none, .mov 4 (.k (.bool false))⟩])
   (.ret))
  (.skip)))
 (.seq (.seq (.reg [⟨none, .fad 10 2 1⟩,
   ⟨none, .load 11 10 1 false⟩,
   ⟨none, .fad 12 3 1⟩,
   ⟨none, .load 13 12 1 false⟩,
   ⟨none, .bin 14 .neq (.t 11) (.t 13)⟩])
  (.cond (.t 14)
  (.seq (.reg [⟨none, .mov 4 (.k (.bool false))⟩])
   (.ret))
  (.skip)))
 (.seq (.seq (.reg [⟨none, .fad 15 2 2⟩,
   ⟨none, .load 16 15 1 false⟩,
   ⟨none, .fad 17 3 2⟩,
   ⟨none, .load 18 17 1 false⟩,
   ⟨none, .call (some 19) 207 [(.t 16), (.t 18)] false⟩,
   ⟨none, .not 20 (.t 19)⟩])
  (.cond (.t 20)
  (.seq (.reg [⟨none, .mov 4 (.k (.bool false))⟩])
   (.ret))
  (.skip)))
 (.seq (.reg [⟨none, .mov 4 (.k (.bool true))⟩])
 (.ret)))))⟩
/-- A loop of laws.szStoreS. -/
def r169L0 : RC :=
 .seq (.seq (.reg [⟨none, .mov 12 (.t 5)⟩,
      ⟨none, .mov 13 (.t 0)⟩,
      ⟨none, .len 14 (.t 13)⟩,
      ⟨none, .bin 15 .lss (.t 12) (.t 14)⟩])
     (.cond (.t 15)
     (.skip)
     (.exit 0)))
    (.seq (.block 1 (.seq (.reg [⟨none, .mov 18 (.t 0)⟩,
       ⟨none, .mov 19 (.t 5)⟩,
       ⟨none, .idx 20 17 (.t 18) (.t 19)⟩,
       ⟨none, .load 21 20 3 true⟩,
       ⟨none, .mov 22 (.t 1)⟩,
       ⟨none, .call (some 23) 154 [(.t 21), (.t 22)] false⟩,
       ⟨none, .mov 1 (.t 23)⟩])
      (.seq (.reg [⟨none, .mov 24 (.t 1)⟩,
       ⟨none, .bin 25 .lss (.t 24) (.k (.int .i64 0))⟩])
      (.cond (.t 25)
      (.seq (.reg [⟨none, .mov 4 (.k (.int .i64 (-1)))⟩])
       (.ret))
      (.skip)))))
    (.reg [⟨none, .mov 16 (.t 5)⟩,
    ⟨none, .bin 17 .add (.t 16) (.k (.int .i64 1))⟩,
    ⟨none, .mov 5 (.t 17)⟩]))
/-- laws.szStoreS -/
def r169 : RF :=
 ⟨2, [.tmp 4],
 .seq (.reg [⟨none, .mov 4 (.k (.int .i64 0))⟩])
 (.seq (.reg [⟨none, .mov 6 (.t 1)⟩,
  ⟨none, .mov 7 (.t 0)⟩,
  ⟨none, .len 8 (.t 7)⟩,
  ⟨none, .bin 9 .sub (.t 6) (.t 8)⟩,
  ⟨none, .mov 1 (.t 9)⟩])
 (.seq (.seq (.reg [⟨none, .mov 10 (.t 1)⟩,
   ⟨none, .bin 11 .lss (.t 10) (.k (.int .i64 0))⟩])
  (.cond (.t 11)
  (.seq (.reg [⟨none, .mov 4 (.k (.int .i64 (-1)))⟩])
   (.ret))
  (.skip)))
 (.seq (.seq (.reg [⟨none, .mov 5 (.k (.int .i64 0))⟩])
  (.block 0 (.loop [0, 1, 5]
   r169L0)))
 (.seq (.reg [⟨none, .mov 26 (.t 1)⟩,
  ⟨none, .mov 4 (.t 26)⟩])
 (.ret)))))⟩
/-- A loop of laws.toStoreS. -/
def r170L0 : RC :=
 .seq (.seq (.reg [⟨none, .mov 8 (.t 4)⟩,
      ⟨none, .mov 9 (.t 0)⟩,
      ⟨none, .len 10 (.t 9)⟩,
      ⟨none, .bin 11 .lss (.t 8) (.t 10)⟩])
     (.cond (.t 11)
     (.skip)
     (.exit 0)))
    (.seq (.block 1 (.reg [⟨none, .mov 14 (.t 3)⟩,
      ⟨none, .mov 15 (.t 4)⟩,
      ⟨none, .mov 16 (.t 0)⟩,
      ⟨none, .mov 17 (.t 4)⟩,
      ⟨none, .idx 18 17 (.t 16) (.t 17)⟩,
      ⟨none, .load 19 18 3 true⟩,
      ⟨none, .call (some 20) 155 [(.t 19)] false⟩,
      ⟨none, .idx 21 18 (.t 14) (.t 15)⟩,
      ⟨none, .store 21 3 (.t 20)⟩]))
    (.reg [⟨none, .mov 12 (.t 4)⟩,
    ⟨none, .bin 13 .add (.t 12) (.k (.int .i64 1))⟩,
    ⟨none, .mov 4 (.t 13)⟩]))
/-- laws.toStoreS -/
def r170 : RF :=
 ⟨1, [.tmp 2],
 .seq (.reg [⟨none, .mov 2 (.k (.nil))⟩])
 (.seq (.reg [⟨none, .mov 5 (.t 0)⟩,
  ⟨none, .len 6 (.t 5)⟩,
  ⟨none, .mks 7 18 40 [.int .i64 0, .int .i64 0, .nil] (.t 6) (.t 6)⟩,
  ⟨none, .mov 3 (.t 7)⟩])
 (.seq (.seq (.reg [⟨none, .mov 4 (.k (.int .i64 0))⟩])
  (.block 0 (.loop [0, 3, 4]
   r170L0)))
 (.seq (.reg [⟨none, .mov 22 (.t 3)⟩,
  ⟨none, .mov 2 (.t 22)⟩])
 (.ret))))⟩
/-- A loop of laws.eqStoreS. -/
def r173L0 : RC :=
 .seq (.seq (.reg [⟨none, .mov 11 (.t 5)⟩,
      ⟨none, .mov 12 (.t 0)⟩,
      ⟨none, .len 13 (.t 12)⟩,
      ⟨none, .bin 14 .lss (.t 11) (.t 13)⟩])
     (.cond (.t 14)
     (.skip)
     (.exit 0)))
    (.seq (.block 1 (.seq (.reg [⟨none, .chk []⟩,
       ⟨none, .mov 17 (.t 0)⟩,
       ⟨none, .mov 18 (.t 5)⟩,
       ⟨none, .idx 19 18 (.t 17) (.t 18)⟩,
       ⟨none, .mov 21 (.t 1)⟩,
       ⟨none, .mov 22 (.t 5)⟩,
       ⟨none, .idx 23 18 (.t 21) (.t 22)⟩,
       ⟨none, .load 20 19 3 true⟩,
       ⟨none, .load 24 23 3 true⟩,
       ⟨none, .call (some 25) 158 [(.t 20), (.t 24)] true⟩,
       ⟨none, .not 26 (.t 25)⟩])
      (.cond (.t 26)
      (.seq (.reg [⟨none, .mov 4 (.k (.bool false))⟩])
       (.ret))
      (.skip))))
    (.reg [⟨none, .mov 15 (.t 5)⟩,
    ⟨none, .bin 16 .add (.t 15) (.k (.int .i64 1))⟩,
    ⟨none, .mov 5 (.t 16)⟩]))
/-- laws.eqStoreS -/
def r173 : RF :=
 ⟨2, [.tmp 4],
 .seq (.reg [⟨none, .mov 4 (.k (.bool false))⟩])
 (.seq (.seq (.reg [⟨none, .mov 6 (.t 0)⟩,
   ⟨none, .len 7 (.t 6)⟩,
   ⟨none, .mov 8 (.t 1)⟩,
   ⟨none, .len 9 (.t 8)⟩,
   ⟨none, .bin 10 .neq (.t 7) (.t 9)⟩])
  (.cond (.t 10)
  (.seq (.reg [⟨none, .mov 4 (.k (.bool false))⟩])
   (.ret))
  (.skip)))
 (.seq (.seq (.reg [⟨none, .mov 5 (.k (.int .i64 0))⟩])
  (.block 0 (.loop [0, 1, 5]
   r173L0)))
 (.seq (.reg [⟨none, .mov 4 (.k (.bool true))⟩])
 (.ret))))⟩
/-- laws.markStore -/
def r191 : RF :=
 ⟨2, [.tmp 4],
 .seq (.reg [⟨none, .locb 2 (.t 0)⟩,
  ⟨none, .mov 4 (.k (.int .i64 0))⟩])
 (.seq (.reg [⟨none, .fad 5 2 2⟩,
  ⟨none, .load 6 5 1 false⟩,
  ⟨none, .mov 7 (.t 1)⟩,
  ⟨none, .call (some 8) 230 [(.t 6), (.t 7)] false⟩,
  ⟨none, .mov 1 (.t 8)⟩])
 (.seq (.reg [⟨none, .mov 9 (.t 1)⟩,
  ⟨none, .mov 4 (.t 9)⟩])
 (.ret)))⟩
/-- A loop of laws.markStoreS. -/
def r286L0 : RC :=
 .seq (.seq (.reg [⟨none, .mov 6 (.t 5)⟩,
      ⟨none, .mov 7 (.t 0)⟩,
      ⟨none, .len 8 (.t 7)⟩,
      ⟨none, .bin 9 .lss (.t 6) (.t 8)⟩])
     (.cond (.t 9)
     (.skip)
     (.exit 0)))
    (.seq (.block 1 (.seq (.reg [⟨none, .mov 12 (.t 0)⟩,
       ⟨none, .mov 13 (.t 5)⟩,
       ⟨none, .mov 14 (.t 1)⟩,
       ⟨none, .idx 15 18 (.t 12) (.t 13)⟩,
       ⟨none, .fad 16 15 0⟩,
       ⟨none, .store 16 1 (.t 14)⟩])
      (.seq (.reg [⟨none, .mov 17 (.t 1)⟩,
       ⟨none, .bin 18 .add (.t 17) (.k (.int .i64 1))⟩,
       ⟨none, .mov 1 (.t 18)⟩])
      (.seq (.reg [⟨none, .mov 19 (.t 0)⟩,
       ⟨none, .mov 20 (.t 5)⟩,
       ⟨none, .mov 21 (.t 1)⟩,
       ⟨none, .idx 22 18 (.t 19) (.t 20)⟩,
       ⟨none, .fad 23 22 1⟩,
       ⟨none, .store 23 1 (.t 21)⟩])
      (.seq (.reg [⟨none, .mov 24 (.t 1)⟩,
       ⟨none, .bin 25 .add (.t 24) (.k (.int .i64 1))⟩,
       ⟨none, .mov 1 (.t 25)⟩])
      (.reg [⟨none, .mov 26 (.t 0)⟩,
      ⟨none, .mov 27 (.t 5)⟩,
      ⟨none, .idx 28 18 (.t 26) (.t 27)⟩,
      ⟨none, .fad 29 28 2⟩,
      ⟨none, .load 30 29 1 false⟩,
      ⟨none, .mov 31 (.t 1)⟩,
      ⟨none, .call (some 32) 230 [(.t 30), (.t 31)] false⟩,
      ⟨none, .mov 1 (.t 32)⟩]))))))
    (.reg [⟨none, .mov 10 (.t 5)⟩,
    ⟨none, .bin 11 .add (.t 10) (.k (.int .i64 1))⟩,
    ⟨none, .mov 5 (.t 11)⟩]))
/-- laws.markStoreS -/
def r286 : RF :=
 ⟨2, [.tmp 4],
 .seq (.reg [⟨none, .mov 4 (.k (.int .i64 0))⟩])
 (.seq (.seq (.reg [⟨none, .mov 5 (.k (.int .i64 0))⟩])
  (.block 0 (.loop [0, 1, 5]
   r286L0)))
 (.seq (.reg [⟨none, .mov 33 (.t 1)⟩,
  ⟨none, .mov 4 (.t 33)⟩])
 (.ret)))⟩
/-- laws.heldStore -/
def r292 : RF :=
 ⟨2, [.tmp 4],
 .seq (.reg [⟨none, .locb 2 (.t 0)⟩,
  ⟨none, .mov 4 (.k (.int .i64 0))⟩])
 (.seq (.reg [⟨none, .fad 5 2 2⟩,
  ⟨none, .load 6 5 1 false⟩,
  ⟨none, .mov 7 (.t 1)⟩,
  ⟨none, .call (some 8) 322 [(.t 6), (.t 7)] false⟩,
  ⟨none, .mov 1 (.t 8)⟩])
 (.seq (.seq (.reg [⟨none, .mov 9 (.t 1)⟩,
   ⟨none, .bin 10 .lss (.t 9) (.k (.int .i64 0))⟩])
  (.cond (.t 10)
  (.seq (.reg [⟨none, .mov 4 (.k (.int .i64 (-1)))⟩])
   (.ret))
  (.skip)))
 (.seq (.reg [⟨none, .mov 11 (.t 1)⟩,
  ⟨none, .mov 4 (.t 11)⟩])
 (.ret))))⟩
/-- The functions of this text, with their numbers. -/
def tLStore : List (Nat × RF) := [(154, r154), (155, r155), (158, r158), (169, r169), (170, r170), (173, r173), (191, r191), (286, r286), (292, r292)]
end Go.Proofs.Ytlfepembgjjejaa.A
/- The compact code of some functions: cmp.Compare[int]. -/
namespace Go.Proofs.Ytlfepembgjjejaa.A
open Go
/-- cmp.Compare[int] -/
def r273 : RF :=
 ⟨2, [.tmp 4],
 .seq (.reg [⟨none, .mov 4 (.k (.int .i64 0))⟩])
 (.seq (.reg [⟨none, .mov 7 (.t 0)⟩,
  ⟨none, .call (some 8) 276 [(.t 7)] false⟩,
  ⟨none, .mov 5 (.t 8)⟩])
 (.seq (.reg [⟨none, .mov 9 (.t 1)⟩,
  ⟨none, .call (some 10) 276 [(.t 9)] false⟩,
  ⟨none, .mov 6 (.t 10)⟩])
 (.seq (.seq (.reg [⟨none, .mov 11 (.t 5)⟩])
  (.cond (.t 11)
  (.seq (.seq (.reg [⟨none, .mov 12 (.t 6)⟩])
    (.cond (.t 12)
    (.seq (.reg [⟨none, .mov 4 (.k (.int .i64 0))⟩])
     (.ret))
    (.skip)))
   (.seq (.reg [⟨none, .mov 4 (.k (.int .i64 (-1)))⟩])
   (.ret)))
  (.skip)))
 (.seq (.seq (.reg [⟨none, .mov 13 (.t 6)⟩])
  (.cond (.t 13)
  (.seq (.reg [⟨none, .mov 4 (.k (.int .i64 1))⟩])
   (.ret))
  (.skip)))
 (.seq (.seq (.reg [⟨none, .mov 14 (.t 0)⟩,
   ⟨none, .mov 15 (.t 1)⟩,
   ⟨none, .bin 16 .lss (.t 14) (.t 15)⟩])
  (.cond (.t 16)
  (.seq (.reg [⟨none, .mov 4 (.k (.int .i64 (-1)))⟩])
   (.ret))
  (.skip)))
 (.seq (.seq (.reg [⟨none, .mov 17 (.t 0)⟩,
   ⟨none, .mov 18 (.t 1)⟩,
   ⟨none, .bin 19 .gtr (.t 17) (.t 18)⟩])
  (.cond (.t 19)
  (.seq (.reg [⟨none, .mov 4 (.k (.int .i64 1))⟩])
   (.ret))
  (.skip)))
 (.seq (.reg [⟨none, .mov 4 (.k (.int .i64 0))⟩])
 (.ret))))))))⟩
/-- The functions of this text, with their numbers. -/
def tLibcmpCompareint : List (Nat × RF) := [(273, r273)]
end Go.Proofs.Ytlfepembgjjejaa.A
/- The compact code of some functions: cmp.Compare[uint64]. -/
namespace Go.Proofs.Ytlfepembgjjejaa.A
open Go
/-- cmp.Compare[uint64] -/
def r274 : RF :=
 ⟨2, [.tmp 4],
 .seq (.reg [⟨none, .mov 4 (.k (.int .i64 0))⟩])
 (.seq (.reg [⟨none, .mov 7 (.t 0)⟩,
  ⟨none, .call (some 8) 277 [(.t 7)] false⟩,
  ⟨none, .mov 5 (.t 8)⟩])
 (.seq (.reg [⟨none, .mov 9 (.t 1)⟩,
  ⟨none, .call (some 10) 277 [(.t 9)] false⟩,
  ⟨none, .mov 6 (.t 10)⟩])
 (.seq (.seq (.reg [⟨none, .mov 11 (.t 5)⟩])
  (.cond (.t 11)
  (.seq (.seq (.reg [⟨none, .mov 12 (.t 6)⟩])
    (.cond (.t 12)
    (.seq (.reg [⟨none, .mov 4 (.k (.int .i64 0))⟩])
     (.ret))
    (.skip)))
   (.seq (.reg [⟨none, .mov 4 (.k (.int .i64 (-1)))⟩])
   (.ret)))
  (.skip)))
 (.seq (.seq (.reg [⟨none, .mov 13 (.t 6)⟩])
  (.cond (.t 13)
  (.seq (.reg [⟨none, .mov 4 (.k (.int .i64 1))⟩])
   (.ret))
  (.skip)))
 (.seq (.seq (.reg [⟨none, .mov 14 (.t 0)⟩,
   ⟨none, .mov 15 (.t 1)⟩,
   ⟨none, .bin 16 .lss (.t 14) (.t 15)⟩])
  (.cond (.t 16)
  (.seq (.reg [⟨none, .mov 4 (.k (.int .i64 (-1)))⟩])
   (.ret))
  (.skip)))
 (.seq (.seq (.reg [⟨none, .mov 17 (.t 0)⟩,
   ⟨none, .mov 18 (.t 1)⟩,
   ⟨none, .bin 19 .gtr (.t 17) (.t 18)⟩])
  (.cond (.t 19)
  (.seq (.reg [⟨none, .mov 4 (.k (.int .i64 1))⟩])
   (.ret))
  (.skip)))
 (.seq (.reg [⟨none, .mov 4 (.k (.int .i64 0))⟩])
 (.ret))))))))⟩
/-- The functions of this text, with their numbers. -/
def tLibcmpCompareuint64 : List (Nat × RF) := [(274, r274)]
end Go.Proofs.Ytlfepembgjjejaa.A
/- The compact code of some functions: cmp.Or[int]. -/
namespace Go.Proofs.Ytlfepembgjjejaa.A
open Go
/-- A loop of cmp.Or[int]. -/
def r275L0 : RC :=
 .seq (.reg [⟨none, .bin 9 .lss (.t 8) (.t 7)⟩])
    (.seq (.cond (.t 9)
     (.skip)
     (.exit 0))
    (.seq (.block 1 (.seq (.reg [⟨none, .idx 10 15 (.t 6) (.t 8)⟩,
       ⟨none, .load 11 10 1 false⟩,
       ⟨none, .mov 5 (.t 11)⟩])
      (.seq (.reg [⟨none, .mov 12 (.t 5)⟩,
       ⟨none, .mov 13 (.t 3)⟩,
       ⟨none, .bin 14 .neq (.t 12) (.t 13)⟩])
      (.cond (.t 14)
      (.seq (.reg [⟨none, .mov 15 (.t 5)⟩,
        ⟨none, .mov 2 (.t 15)⟩])
       (.ret))
      (.skip)))))
    (.reg [⟨none, .bin 16 .add (.t 8) (.k (.int .i64 1))⟩,
    ⟨none, .mov 8 (.t 16)⟩])))
/-- cmp.Or[int] -/
def r275 : RF :=
 ⟨1, [.tmp 2],
 .seq (.reg [⟨none, .mov 2 (.k (.int .i64 0))⟩])
 (.seq (.reg [⟨none, .mov 3 (.k (.int .i64 0))⟩])
 (.seq (.seq (.reg [⟨none, .mov 6 (.t 0)⟩,
   ⟨none, .len 7 (.t 6)⟩,
   ⟨none, .mov 8 (.k (.int .i64 0))⟩])
  (.block 0 (.loop [3, 6, 7, 8]
   r275L0)))
 (.seq (.reg [⟨none, .mov 17 (.t 3)⟩,
  ⟨none, .mov 2 (.t 17)⟩])
 (.ret))))⟩
/-- The functions of this text, with their numbers. -/
def tLibcmpOrint : List (Nat × RF) := [(275, r275)]
end Go.Proofs.Ytlfepembgjjejaa.A
/- The compact code of some functions: cmp.isNaN[int]. -/
namespace Go.Proofs.Ytlfepembgjjejaa.A
open Go
/-- cmp.isNaN[int] -/
def r276 : RF :=
 ⟨1, [.tmp 2],
 .seq (.reg [⟨none, .mov 2 (.k (.bool false))⟩])
 (.seq (.reg [⟨none, .mov 3 (.t 0)⟩,
  ⟨none, .mov 4 (.t 0)⟩,
  ⟨none, .bin 5 .neq (.t 3) (.t 4)⟩,
  ⟨none, .mov 2 (.t 5)⟩])
 (.ret))⟩
/-- The functions of this text, with their numbers. -/
def tLibcmpisNaNint : List (Nat × RF) := [(276, r276)]
end Go.Proofs.Ytlfepembgjjejaa.A
/- The compact code of some functions: cmp.isNaN[uint64]. -/
namespace Go.Proofs.Ytlfepembgjjejaa.A
open Go
/-- cmp.isNaN[uint64] -/
def r277 : RF :=
 ⟨1, [.tmp 2],
 .seq (.reg [⟨none, .mov 2 (.k (.bool false))⟩])
 (.seq (.reg [⟨none, .mov 3 (.t 0)⟩,
  ⟨none, .mov 4 (.t 0)⟩,
  ⟨none, .bin 5 .neq (.t 3) (.t 4)⟩,
  ⟨none, .mov 2 (.t 5)⟩])
 (.ret))⟩
/-- The functions of this text, with their numbers. -/
def tLibcmpisNaNuint64 : List (Nat × RF) := [(277, r277)]
end Go.Proofs.Ytlfepembgjjejaa.A
/- The compact code of some functions: slices.Contains[[]impl.Fin,impl.Fin]. -/
namespace Go.Proofs.Ytlfepembgjjejaa.A
open Go
/-- slices.Contains[[]impl.Fin,impl.Fin] -/
def r266 : RF :=
 ⟨2, [.tmp 4],
 .seq (.reg [⟨none, .locb 3 (.t 1)⟩,
  ⟨none, .mov 4 (.k (.bool false))⟩])
 (.seq (.reg [⟨none, .mov 5 (.t 0)⟩,
  ⟨none, .load 6 3 2 true⟩,
  ⟨none, .call (some 7) 272 [(.t 5), (.t 6)] false⟩,
  ⟨none, .bin 8 .geq (.t 7) (.k (.int .i64 0))⟩,
  ⟨none, .mov 4 (.t 8)⟩])
 (.ret))⟩
/-- The functions of this text, with their numbers. -/
def tLibslicesContainsimplFinimplFin : List (Nat × RF) := [(266, r266)]
end Go.Proofs.Ytlfepembgjjejaa.A
/- The compact code of some functions: slices.IndexFunc[[]impl.Shard,impl.Shard]. -/
namespace Go.Proofs.Ytlfepembgjjejaa.A
open Go
/-- A loop of slices.IndexFunc[[]impl.Shard,impl.Shard]. -/
def r248L0 : RC :=
 .seq (.reg [⟨none, .bin 9 .lss (.t 8) (.t 7)⟩])
    (.seq (.cond (.t 9)
     (.skip)
     (.exit 0))
    (.seq (.block 1 (.seq (.reg [⟨none, .mov 10 (.t 8)⟩,
       ⟨none, .mov 5 (.t 10)⟩])
      (.seq (.reg [⟨none, .mov 11 (.t 1)⟩,
       ⟨none, .mov 12 (.t 0)⟩,
       ⟨none, .mov 13 (.t 5)⟩,
       ⟨none, .idx 14 16 (.t 12) (.t 13)⟩,
       ⟨none, .load 15 14 6 true⟩,
       ⟨none, .calv (some 16) (.t 11) [(.t 15)] false⟩])
      (.cond (.t 16)
      (.seq (.reg [⟨none, .mov 17 (.t 5)⟩,
        ⟨none, .mov 4 (.t 17)⟩])
       (.ret))
      (.skip)))))
    (.reg [⟨none, .bin 18 .add (.t 8) (.k (.int .i64 1))⟩,
    ⟨none, .mov 8 (.t 18)⟩])))
/-- slices.IndexFunc[[]impl.Shard,impl.Shard] -/
def r248 : RF :=
 ⟨2, [.tmp 4],
 .seq (.reg [⟨none, .mov 4 (.k (.int .i64 0))⟩])
 (.seq (.seq (.reg [⟨none, .mov 6 (.t 0)⟩,
   ⟨none, .len 7 (.t 6)⟩,
   ⟨none, .mov 8 (.k (.int .i64 0))⟩])
  (.block 0 (.loop [0, 1, 7, 8]
   r248L0)))
 (.seq (.reg [⟨none, .mov 4 (.k (.int .i64 (-1)))⟩])
 (.ret)))⟩
/-- The functions of this text, with their numbers. -/
def tLibslicesIndexFuncimplShardimplShard : List (Nat × RF) := [(248, r248)]
end Go.Proofs.Ytlfepembgjjejaa.A
/- The compact code of some functions: slices.Index[[]impl.Fin,impl.Fin]. -/
namespace Go.Proofs.Ytlfepembgjjejaa.A
open Go
/-- A loop of slices.Index[[]impl.Fin,impl.Fin]. -/
def r272L0 : RC :=
 .seq (.reg [⟨none, .bin 9 .lss (.t 8) (.t 7)⟩])
    (.seq (.cond (.t 9)
     (.skip)
     (.exit 0))
    (.seq (.block 1 (.seq (.reg [⟨none, .mov 10 (.t 8)⟩,
       ⟨none, .mov 5 (.t 10)⟩])
      (.seq (.reg [⟨none, .chk []⟩,
       ⟨none, .mov 12 (.t 0)⟩,
       ⟨none, .mov 13 (.t 5)⟩,
       ⟨none, .idx 14 9 (.t 12) (.t 13)⟩,
       ⟨none, .load 11 3 2 true⟩,
       ⟨none, .load 15 14 2 true⟩,
       ⟨none, .eqs 16 false [.i .i64, .i .u64] (.t 11) (.t 15)⟩])
      (.cond (.t 16)
      (.seq (.reg [⟨none, .mov 17 (.t 5)⟩,
        ⟨none, .mov 4 (.t 17)⟩])
       (.ret))
      (.skip)))))
    (.reg [⟨none, .bin 18 .add (.t 8) (.k (.int .i64 1))⟩,
    ⟨none, .mov 8 (.t 18)⟩])))
/-- slices.Index[[]impl.Fin,impl.Fin] -/
def r272 : RF :=
 ⟨2, [.tmp 4],
 .seq (.reg [⟨none, .locb 3 (.t 1)⟩,
  ⟨none, .mov 4 (.k (.int .i64 0))⟩])
 (.seq (.seq (.reg [⟨none, .mov 6 (.t 0)⟩,
   ⟨none, .len 7 (.t 6)⟩,
   ⟨none, .mov 8 (.k (.int .i64 0))⟩])
  (.block 0 (.loop [0, 3, 7, 8]
   r272L0)))
 (.seq (.reg [⟨none, .mov 4 (.k (.int .i64 (-1)))⟩])
 (.ret)))⟩
/-- The functions of this text, with their numbers. -/
def tLibslicesIndeximplFinimplFin : List (Nat × RF) := [(272, r272)]
end Go.Proofs.Ytlfepembgjjejaa.A
/- The compact code of some functions: spec.l01In, spec.l01New, spec.l01Below, spec.l01Size, spec.l01PickInt, spec.l01Once, spec.l01Byte, spec.l01Big, spec.l01Has. -/
namespace Go.Proofs.Ytlfepembgjjejaa.A
open Go
/-- spec.l01In -/
def r5 : RF :=
 ⟨3, [.tmp 6],
 .seq (.reg [⟨none, .mov 6 (.k (.bool false))⟩])
 (.seq (.reg [⟨none, .mov 7 (.t 1)⟩,
  ⟨none, .mov 8 (.t 0)⟩,
  ⟨none, .bin 9 .leq (.t 7) (.t 8)⟩,
  ⟨none, .mov 10 (.t 9)⟩,
  ⟨some (10, true), .mov 11 (.t 0)⟩,
  ⟨some (10, true), .mov 12 (.t 2)⟩,
  ⟨some (10, true), .bin 13 .leq (.t 11) (.t 12)⟩,
  ⟨none, .pick 14 (.t 10) (.t 13) (.k (.bool false))⟩,
  ⟨none, .mov 6 (.t 14)⟩])
 (.ret))⟩
/-- A loop of spec.l01New. -/
def r194L0 : RC :=
 .seq (.seq (.reg [⟨none, .mov 8 (.t 4)⟩,
      ⟨none, .mov 9 (.t 0)⟩,
      ⟨none, .len 10 (.t 9)⟩,
      ⟨none, .bin 11 .lss (.t 8) (.t 10)⟩,
      ⟨none, .mov 12 (.t 11)⟩,
      ⟨some (12, true), .mov 13 (.t 4)⟩,
      ⟨some (12, true), .bin 14 .lss (.t 13) (.k (.int .i64 4000))⟩,
      ⟨none, .pick 15 (.t 12) (.t 14) (.k (.bool false))⟩])
     (.cond (.t 15)
     (.skip)
     (.exit 0)))
    (.seq (.block 1 (.reg [⟨none, .mov 18 (.t 3)⟩,
      ⟨none, .bin 19 .mul (.t 18) (.k (.int .i64 149))⟩,
      ⟨none, .mov 20 (.t 0)⟩,
      ⟨none, .mov 21 (.t 4)⟩,
      ⟨none, .idx 22 19 (.t 20) (.t 21)⟩,
      ⟨none, .load 23 22 1 false⟩,
      ⟨none, .conv 24 .i64 (.t 23)⟩,
      ⟨none, .bin 25 .add (.t 19) (.t 24)⟩,
      ⟨none, .bin 26 .add (.t 25) (.k (.int .i64 11))⟩,
      ⟨none, .bin 27 .and (.t 26) (.k (.int .i64 1073741823))⟩,
      ⟨none, .mov 3 (.t 27)⟩]))
    (.reg [⟨none, .mov 16 (.t 4)⟩,
    ⟨none, .bin 17 .add (.t 16) (.k (.int .i64 1))⟩,
    ⟨none, .mov 4 (.t 17)⟩]))
/-- spec.l01New -/
def r194 : RF :=
 ⟨1, [.tmp 2],
 .seq (.reg [⟨none, .mov 2 (.k (.nilp))⟩])
 (.seq (.reg [⟨none, .mov 5 (.t 0)⟩,
  ⟨none, .len 6 (.t 5)⟩,
  ⟨none, .bin 7 .add (.k (.int .i64 138138)) (.t 6)⟩,
  ⟨none, .mov 3 (.t 7)⟩])
 (.seq (.seq (.reg [⟨none, .mov 4 (.k (.int .i64 0))⟩])
  (.block 0 (.loop [0, 3, 4]
   r194L0)))
 (.seq (.reg [⟨none, .mov 28 (.t 0)⟩,
  ⟨none, .mov 29 (.t 3)⟩,
  ⟨none, .build 30 [.nil, .int .i64 0, .int .i64 0] [(0, 1, (.t 28)), (2, 1, (.t 29))]⟩,
  ⟨none, .newb 31 (.t 30)⟩,
  ⟨none, .mov 2 (.t 31)⟩])
 (.ret))))⟩
/-- spec.l01Below -/
def r236 : RF :=
 ⟨2, [.tmp 4],
 .seq (.reg [⟨none, .mov 4 (.k (.int .i64 0))⟩])
 (.seq (.seq (.reg [⟨none, .mov 8 (.t 1)⟩,
   ⟨none, .bin 9 .leq (.t 8) (.k (.int .i64 0))⟩])
  (.cond (.t 9)
  (.seq (.reg [⟨none, .mov 4 (.k (.int .i64 0))⟩])
   (.ret))
  (.skip)))
 (.seq (.seq (.reg [⟨none, .mov 10 (.t 1)⟩,
   ⟨none, .bin 11 .leq (.t 10) (.k (.int .i64 256))⟩])
  (.cond (.t 11)
  (.seq (.reg [⟨none, .mov 12 (.t 0)⟩,
    ⟨none, .call (some 13) 263 [(.t 12)] false⟩,
    ⟨none, .mov 14 (.t 1)⟩,
    ⟨none, .bin 15 .rem (.t 13) (.t 14)⟩,
    ⟨none, .mov 4 (.t 15)⟩])
   (.ret))
  (.skip)))
 (.seq (.reg [⟨none, .mov 16 (.t 0)⟩,
  ⟨none, .call (some 17) 263 [(.t 16)] false⟩,
  ⟨none, .mov 5 (.t 17)⟩])
 (.seq (.reg [⟨none, .mov 18 (.t 0)⟩,
  ⟨none, .call (some 19) 263 [(.t 18)] false⟩,
  ⟨none, .mov 6 (.t 19)⟩])
 (.seq (.reg [⟨none, .mov 20 (.t 0)⟩,
  ⟨none, .call (some 21) 263 [(.t 20)] false⟩,
  ⟨none, .mov 7 (.t 21)⟩])
 (.seq (.reg [⟨none, .mov 22 (.t 5)⟩,
  ⟨none, .bin 23 .mul (.t 22) (.k (.int .i64 65536))⟩,
  ⟨none, .mov 24 (.t 6)⟩,
  ⟨none, .bin 25 .mul (.t 24) (.k (.int .i64 256))⟩,
  ⟨none, .bin 26 .add (.t 23) (.t 25)⟩,
  ⟨none, .mov 27 (.t 7)⟩,
  ⟨none, .bin 28 .add (.t 26) (.t 27)⟩,
  ⟨none, .mov 29 (.t 1)⟩,
  ⟨none, .bin 30 .rem (.t 28) (.t 29)⟩,
  ⟨none, .mov 4 (.t 30)⟩])
 (.ret)))))))⟩
/-- spec.l01Size -/
def r238 : RF :=
 ⟨2, [.tmp 4],
 .seq (.reg [⟨none, .mov 4 (.k (.int .i64 0))⟩])
 (.seq (.reg [⟨none, .mov 6 (.t 0)⟩,
  ⟨none, .len 7 (.t 6)⟩,
  ⟨none, .bin 8 .quo (.t 7) (.k (.int .i64 16))⟩,
  ⟨none, .bin 9 .add (.k (.int .i64 2)) (.t 8)⟩,
  ⟨none, .mov 5 (.t 9)⟩])
 (.seq (.seq (.reg [⟨none, .mov 10 (.t 5)⟩,
   ⟨none, .mov 11 (.t 1)⟩,
   ⟨none, .bin 12 .gtr (.t 10) (.t 11)⟩])
  (.cond (.t 12)
  (.seq (.reg [⟨none, .mov 13 (.t 1)⟩,
    ⟨none, .mov 4 (.t 13)⟩])
   (.ret))
  (.skip)))
 (.seq (.reg [⟨none, .mov 14 (.t 5)⟩,
  ⟨none, .mov 4 (.t 14)⟩])
 (.ret))))⟩
/-- spec.l01PickInt -/
def r239 : RF :=
 ⟨2, [.tmp 4],
 .seq (.reg [⟨none, .mov 4 (.k (.int .i64 0))⟩])
 (.seq (.reg [⟨none, .mov 5 (.t 1)⟩,
  ⟨none, .mov 6 (.t 0)⟩,
  ⟨none, .mov 7 (.t 1)⟩,
  ⟨none, .len 8 (.t 7)⟩,
  ⟨none, .call (some 9) 236 [(.t 6), (.t 8)] false⟩,
  ⟨none, .idx 10 15 (.t 5) (.t 9)⟩,
  ⟨none, .load 11 10 1 false⟩,
  ⟨none, .mov 4 (.t 11)⟩])
 (.ret))⟩
/-- spec.l01Once -/
def r240 : RF :=
 ⟨2, [.tmp 4],
 .seq (.reg [⟨none, .mov 4 (.k (.bool false))⟩])
 (.seq (.reg [⟨none, .mov 5 (.t 0)⟩,
  ⟨none, .mov 6 (.t 1)⟩,
  ⟨none, .call (some 7) 236 [(.t 5), (.t 6)] false⟩,
  ⟨none, .bin 8 .eql (.t 7) (.k (.int .i64 0))⟩,
  ⟨none, .mov 4 (.t 8)⟩])
 (.ret))⟩
/-- spec.l01Byte -/
def r263 : RF :=
 ⟨1, [.tmp 2],
 .seq (.reg [⟨none, .mov 2 (.k (.int .i64 0))⟩])
 (.seq (.reg [⟨none, .mov 4 (.t 0)⟩,
  ⟨none, .mov 5 (.t 0)⟩,
  ⟨none, .nilc 6 (.t 5)⟩,
  ⟨none, .fad 7 6 2⟩,
  ⟨none, .load 8 7 1 false⟩,
  ⟨none, .bin 9 .mul (.t 8) (.k (.int .i64 6364136223846793005))⟩,
  ⟨none, .bin 10 .add (.t 9) (.k (.int .i64 1442695040888963407))⟩,
  ⟨none, .nilc 11 (.t 4)⟩,
  ⟨none, .fad 12 11 2⟩,
  ⟨none, .store 12 1 (.t 10)⟩])
 (.seq (.reg [⟨none, .chk []⟩,
  ⟨none, .mov 13 (.t 0)⟩,
  ⟨none, .nilc 14 (.t 13)⟩,
  ⟨none, .mov 18 (.t 0)⟩,
  ⟨none, .nilc 19 (.t 18)⟩,
  ⟨none, .fad 15 14 2⟩,
  ⟨none, .load 16 15 1 false⟩,
  ⟨none, .bin 17 .shr (.t 16) (.k (.int .u64 33))⟩,
  ⟨none, .fad 20 19 2⟩,
  ⟨none, .load 21 20 1 false⟩,
  ⟨none, .bin 22 .shr (.t 21) (.k (.int .u64 45))⟩,
  ⟨none, .bin 23 .xor (.t 17) (.t 22)⟩,
  ⟨none, .bin 24 .and (.t 23) (.k (.int .i64 255))⟩,
  ⟨none, .mov 3 (.t 24)⟩])
 (.seq (.seq (.reg [⟨none, .chk []⟩,
   ⟨none, .mov 25 (.t 0)⟩,
   ⟨none, .nilc 26 (.t 25)⟩,
   ⟨none, .mov 29 (.t 0)⟩,
   ⟨none, .nilc 30 (.t 29)⟩,
   ⟨none, .fad 27 26 1⟩,
   ⟨none, .load 28 27 1 false⟩,
   ⟨none, .fad 31 30 0⟩,
   ⟨none, .load 32 31 1 false⟩,
   ⟨none, .len 33 (.t 32)⟩,
   ⟨none, .bin 34 .lss (.t 28) (.t 33)⟩])
  (.cond (.t 34)
  (.seq (.reg [⟨none, .chk []⟩,
    ⟨none, .mov 35 (.t 3)⟩,
    ⟨none, .mov 36 (.t 0)⟩,
    ⟨none, .nilc 37 (.t 36)⟩,
    ⟨none, .mov 40 (.t 0)⟩,
    ⟨none, .nilc 41 (.t 40)⟩,
    ⟨none, .fad 38 37 0⟩,
    ⟨none, .load 39 38 1 false⟩,
    ⟨none, .fad 42 41 1⟩,
    ⟨none, .load 43 42 1 false⟩,
    ⟨none, .idx 44 19 (.t 39) (.t 43)⟩,
    ⟨none, .load 45 44 1 false⟩,
    ⟨none, .conv 46 .i64 (.t 45)⟩,
    ⟨none, .bin 47 .add (.t 35) (.t 46)⟩,
    ⟨none, .bin 48 .and (.t 47) (.k (.int .i64 255))⟩,
    ⟨none, .mov 3 (.t 48)⟩])
   (.reg [⟨none, .mov 49 (.t 0)⟩,
   ⟨none, .mov 50 (.t 0)⟩,
   ⟨none, .nilc 51 (.t 50)⟩,
   ⟨none, .fad 52 51 1⟩,
   ⟨none, .load 53 52 1 false⟩,
   ⟨none, .bin 54 .add (.t 53) (.k (.int .i64 1))⟩,
   ⟨none, .nilc 55 (.t 49)⟩,
   ⟨none, .fad 56 55 1⟩,
   ⟨none, .store 56 1 (.t 54)⟩]))
  (.skip)))
 (.seq (.reg [⟨none, .mov 57 (.t 3)⟩,
  ⟨none, .mov 2 (.t 57)⟩])
 (.ret)))))⟩
/-- A loop of spec.l01Big. -/
def r264L0 : RC :=
 .seq (.seq (.reg [⟨none, .mov 28 (.t 4)⟩,
      ⟨none, .bin 29 .lss (.t 28) (.k (.int .i64 8))⟩])
     (.cond (.t 29)
     (.skip)
     (.exit 1)))
    (.seq (.block 2 (.reg [⟨none, .mov 32 (.t 3)⟩,
      ⟨none, .bin 33 .mul (.t 32) (.k (.int .u64 256))⟩,
      ⟨none, .mov 34 (.t 0)⟩,
      ⟨none, .call (some 35) 236 [(.t 34), (.k (.int .i64 256))] false⟩,
      ⟨none, .conv 36 .u64 (.t 35)⟩,
      ⟨none, .bin 37 .add (.t 33) (.t 36)⟩,
      ⟨none, .mov 3 (.t 37)⟩]))
    (.reg [⟨none, .mov 30 (.t 4)⟩,
    ⟨none, .bin 31 .add (.t 30) (.k (.int .i64 1))⟩,
    ⟨none, .mov 4 (.t 31)⟩]))
/-- spec.l01Big -/
def r264 : RF :=
 ⟨1, [.tmp 2],
 .seq (.reg [⟨none, .mov 2 (.k (.int .u64 0))⟩])
 (.seq (.reg [⟨none, .mov 3 (.k (.int .u64 0))⟩])
 (.seq (.seq (.reg [⟨none, .mov 5 (.t 0)⟩,
   ⟨none, .call (some 6) 236 [(.t 5), (.k (.int .i64 8))] false⟩])
  (.block 0 (.seq (.reg [⟨none, .bin 8 .eql (.t 6) (.k (.int .i64 0))⟩,
    ⟨none, .mov 7 (.t 8)⟩])
   (.cond (.t 7)
   (.seq (.reg [⟨none, .mov 2 (.k (.int .u64 0))⟩])
    (.ret))
   (.seq (.reg [⟨none, .bin 10 .eql (.t 6) (.k (.int .i64 1))⟩,
     ⟨none, .mov 9 (.t 10)⟩])
    (.cond (.t 9)
    (.seq (.reg [⟨none, .mov 2 (.k (.int .u64 18446744073709551615))⟩])
     (.ret))
    (.seq (.reg [⟨none, .bin 12 .eql (.t 6) (.k (.int .i64 2))⟩,
      ⟨none, .mov 11 (.t 12)⟩])
     (.cond (.t 11)
     (.seq (.reg [⟨none, .mov 13 (.t 0)⟩,
       ⟨none, .call (some 14) 236 [(.t 13), (.k (.int .i64 300))] false⟩,
       ⟨none, .conv 15 .u64 (.t 14)⟩,
       ⟨none, .mov 2 (.t 15)⟩])
      (.ret))
     (.seq (.reg [⟨none, .bin 17 .eql (.t 6) (.k (.int .i64 3))⟩,
       ⟨none, .mov 16 (.t 17)⟩])
      (.cond (.t 16)
      (.seq (.reg [⟨none, .mov 18 (.t 0)⟩,
        ⟨none, .call (some 19) 236 [(.t 18), (.k (.int .i64 300))] false⟩,
        ⟨none, .conv 20 .u64 (.t 19)⟩,
        ⟨none, .bin 21 .sub (.k (.int .u64 18446744073709551615)) (.t 20)⟩,
        ⟨none, .mov 2 (.t 21)⟩])
       (.ret))
      (.seq (.reg [⟨none, .bin 23 .eql (.t 6) (.k (.int .i64 4))⟩,
        ⟨none, .mov 22 (.t 23)⟩])
       (.cond (.t 22)
       (.seq (.reg [⟨none, .mov 24 (.t 0)⟩,
         ⟨none, .call (some 25) 236 [(.t 24), (.k (.int .i64 64))] false⟩,
         ⟨none, .conv 26 .u64 (.t 25)⟩,
         ⟨none, .bin 27 .shl (.k (.int .u64 1)) (.t 26)⟩,
         ⟨none, .mov 2 (.t 27)⟩])
        (.ret))
       (.skip)))))))))))))
 (.seq (.seq (.reg [⟨none, .mov 4 (.k (.int .i64 0))⟩])
  (.block 1 (.loop [0, 3, 4]
   r264L0)))
 (.seq (.reg [⟨none, .mov 38 (.t 3)⟩,
  ⟨none, .mov 39 (.t 0)⟩,
  ⟨none, .call (some 40) 236 [(.t 39), (.k (.int .i64 64))] false⟩,
  ⟨none, .conv 41 .u64 (.t 40)⟩,
  ⟨none, .bin 42 .shr (.t 38) (.t 41)⟩,
  ⟨none, .mov 2 (.t 42)⟩])
 (.ret)))))⟩
/-- A loop of spec.l01Has. -/
def r377L0 : RC :=
 .seq (.seq (.reg [⟨none, .mov 6 (.t 5)⟩,
      ⟨none, .mov 7 (.t 0)⟩,
      ⟨none, .len 8 (.t 7)⟩,
      ⟨none, .bin 9 .lss (.t 6) (.t 8)⟩])
     (.cond (.t 9)
     (.skip)
     (.exit 0)))
    (.seq (.block 1 (.seq (.reg [⟨none, .mov 12 (.t 0)⟩,
       ⟨none, .mov 13 (.t 5)⟩,
       ⟨none, .idx 14 15 (.t 12) (.t 13)⟩,
       ⟨none, .load 15 14 1 false⟩,
       ⟨none, .mov 16 (.t 1)⟩,
       ⟨none, .bin 17 .eql (.t 15) (.t 16)⟩])
      (.cond (.t 17)
      (.seq (.reg [⟨none, .mov 4 (.k (.bool true))⟩])
       (.ret))
      (.skip))))
    (.reg [⟨none, .mov 10 (.t 5)⟩,
    ⟨none, .bin 11 .add (.t 10) (.k (.int .i64 1))⟩,
    ⟨none, .mov 5 (.t 11)⟩]))
/-- spec.l01Has -/
def r377 : RF :=
 ⟨2, [.tmp 4],
 .seq (.reg [⟨none, .mov 4 (.k (.bool false))⟩])
 (.seq (.seq (.reg [⟨none, .mov 5 (.k (.int .i64 0))⟩])
  (.block 0 (.loop [0, 1, 5]
   r377L0)))
 (.seq (.reg [⟨none, .mov 4 (.k (.bool false))⟩])
 (.ret)))⟩
/-- The functions of this text, with their numbers. -/
def tS01d : List (Nat × RF) := [(5, r5), (194, r194), (236, r236), (238, r238), (239, r239), (240, r240), (263, r263), (264, r264), (377, r377)]
end Go.Proofs.Ytlfepembgjjejaa.A
/- The compact code of some functions: spec.l10DrawId, spec.l10DrawAmount, spec.BookOk, spec.TotalOf, spec.l10Copy, spec.OpenAccount, spec.CloseAccount, spec.Deposit, spec.Withdraw, spec.MoveMoney, spec.l10Find, spec.l10Of, spec.l10With. -/
namespace Go.Proofs.Ytlfepembgjjejaa.A
open Go
/-- spec.l10DrawId -/
def r235 : RF :=
 ⟨1, [.tmp 2],
 .seq (.reg [⟨none, .mov 2 (.k (.int .u64 0))⟩])
 (.seq (.reg [⟨none, .lit 3 13 8 [.int .u64 0] [(0, (.k (.int .u64 0))), (1, (.k (.int .u64 1))), (2, (.k (.int .u64 2))), (3, (.k (.int .u64 5))), (4, (.k (.int .u64 9))), (5, (.k (.int .u64 100))), (6, (.k (.int .u64 9223372036854775808))), (7, (.k (.int .u64 18446744073709551615)))]⟩,
  ⟨none, .mov 4 (.t 0)⟩,
  ⟨none, .call (some 5) 236 [(.t 4), (.k (.int .i64 8))] false⟩,
  ⟨none, .idx 6 13 (.t 3) (.t 5)⟩,
  ⟨none, .load 7 6 1 false⟩,
  ⟨none, .mov 2 (.t 7)⟩])
 (.ret))⟩
/-- spec.l10DrawAmount -/
def r237 : RF :=
 ⟨1, [.tmp 2],
 .seq (.reg [⟨none, .mov 2 (.k (.int .u64 0))⟩])
 (.seq (.seq (.reg [⟨none, .mov 3 (.t 0)⟩,
   ⟨none, .call (some 4) 240 [(.t 3), (.k (.int .i64 5))] false⟩])
  (.cond (.t 4)
  (.seq (.reg [⟨none, .mov 5 (.t 0)⟩,
    ⟨none, .call (some 6) 264 [(.t 5)] false⟩,
    ⟨none, .mov 2 (.t 6)⟩])
   (.ret))
  (.skip)))
 (.seq (.reg [⟨none, .mov 7 (.t 0)⟩,
  ⟨none, .call (some 8) 236 [(.t 7), (.k (.int .i64 60))] false⟩,
  ⟨none, .conv 9 .u64 (.t 8)⟩,
  ⟨none, .mov 2 (.t 9)⟩])
 (.ret)))⟩
/-- A loop of spec.BookOk. -/
def r241L0 : RC :=
 .seq (.seq (.reg [⟨none, .mov 9 (.t 3)⟩,
      ⟨none, .fad 10 1 0⟩,
      ⟨none, .load 11 10 1 false⟩,
      ⟨none, .len 12 (.t 11)⟩,
      ⟨none, .bin 13 .lss (.t 9) (.t 12)⟩])
     (.cond (.t 13)
     (.skip)
     (.exit 0)))
    (.seq (.block 1 (.seq (.reg [⟨none, .fad 16 1 0⟩,
       ⟨none, .load 17 16 1 false⟩,
       ⟨none, .mov 18 (.t 3)⟩,
       ⟨none, .idx 19 11 (.t 17) (.t 18)⟩,
       ⟨none, .load 20 19 5 true⟩,
       ⟨none, .loc 4 [.int .u64 0, .int .u64 0, .int .u64 0, .int .u64 0, .int .i64 0]⟩,
       ⟨none, .store 4 5 (.t 20)⟩])
      (.seq (.seq (.reg [⟨none, .chk []⟩,
        ⟨none, .mov 21 (.t 3)⟩,
        ⟨none, .bin 22 .gtr (.t 21) (.k (.int .i64 0))⟩,
        ⟨none, .mov 23 (.t 22)⟩,
        ⟨some (23, true), .mov 26 (.t 3)⟩,
        ⟨some (23, true), .bin 27 .sub (.t 26) (.k (.int .i64 1))⟩,
        ⟨some (23, true), .fad 24 1 0⟩,
        ⟨some (23, true), .load 25 24 1 false⟩,
        ⟨some (23, true), .idx 28 11 (.t 25) (.t 27)⟩,
        ⟨some (23, true), .fad 29 28 0⟩,
        ⟨some (23, true), .load 30 29 1 false⟩,
        ⟨some (23, true), .fad 31 4 0⟩,
        ⟨some (23, true), .load 32 31 1 false⟩,
        ⟨some (23, true), .bin 33 .geq (.t 30) (.t 32)⟩,
        ⟨none, .pick 34 (.t 23) (.t 33) (.k (.bool false))⟩,
        ⟨none, .mov 35 (.t 34)⟩,
        ⟨some (35, false), .fad 36 4 4⟩,
        ⟨some (35, false), .load 37 36 1 false⟩,
        ⟨some (35, false), .bin 38 .lss (.t 37) (.k (.int .i64 0))⟩,
        ⟨none, .pick 39 (.t 35) (.k (.bool true)) (.t 38)⟩,
        ⟨none, .mov 40 (.t 39)⟩,
        ⟨some (40, false), .fad 41 4 4⟩,
        ⟨some (40, false), .load 42 41 1 false⟩,
        ⟨some (40, false), .bin 43 .eql (.t 42) (.k (.int .i64 0))⟩,
        ⟨some (40, false), .mov 44 (.t 43)⟩,
        ⟨some (44, true), .fad 45 4 2⟩,
        ⟨some (44, true), .load 46 45 1 false⟩,
        ⟨some (44, true), .bin 47 .neq (.t 46) (.k (.int .u64 0))⟩,
        ⟨some (44, true), .mov 48 (.t 47)⟩,
        ⟨some (48, false), .fad 49 4 3⟩,
        ⟨some (48, false), .load 50 49 1 false⟩,
        ⟨some (48, false), .bin 51 .neq (.t 50) (.k (.int .u64 0))⟩,
        ⟨some (44, true), .pick 52 (.t 48) (.k (.bool true)) (.t 51)⟩,
        ⟨some (40, false), .pick 53 (.t 44) (.t 52) (.k (.bool false))⟩,
        ⟨none, .pick 54 (.t 40) (.k (.bool true)) (.t 53)⟩])
       (.cond (.t 54)
       (.seq (.reg [⟨none, .mov 2 (.k (.bool false))⟩])
        (.ret))
       (.skip)))
      (.seq (.reg [⟨none, .fad 55 4 2⟩,
       ⟨none, .load 56 55 1 false⟩,
       ⟨none, .fad 57 4 1⟩,
       ⟨none, .load 58 57 1 false⟩,
       ⟨none, .bin 59 .sub (.k (.int .u64 18446744073709551615)) (.t 58)⟩,
       ⟨none, .bin 60 .gtr (.t 56) (.t 59)⟩,
       ⟨none, .mov 61 (.t 60)⟩,
       ⟨some (61, false), .fad 62 4 3⟩,
       ⟨some (61, false), .load 63 62 1 false⟩,
       ⟨some (61, false), .fad 64 4 1⟩,
       ⟨some (61, false), .load 65 64 1 false⟩,
       ⟨some (61, false), .bin 66 .sub (.k (.int .u64 18446744073709551615)) (.t 65)⟩,
       ⟨some (61, false), .fad 67 4 2⟩,
       ⟨some (61, false), .load 68 67 1 false⟩,
       ⟨some (61, false), .bin 69 .sub (.t 66) (.t 68)⟩,
       ⟨some (61, false), .bin 70 .gtr (.t 63) (.t 69)⟩,
       ⟨none, .pick 71 (.t 61) (.k (.bool true)) (.t 70)⟩])
      (.cond (.t 71)
      (.seq (.reg [⟨none, .mov 2 (.k (.bool false))⟩])
       (.ret))
      (.skip))))))
    (.reg [⟨none, .mov 14 (.t 3)⟩,
    ⟨none, .bin 15 .add (.t 14) (.k (.int .i64 1))⟩,
    ⟨none, .mov 3 (.t 15)⟩]))
/-- spec.BookOk -/
def r241 : RF :=
 ⟨1, [.tmp 2],
 .seq (.reg [⟨none, .locb 1 (.t 0)⟩,
  ⟨none, .mov 2 (.k (.bool false))⟩])
 (.seq (.seq (.reg [⟨none, .fad 5 1 0⟩,
   ⟨none, .load 6 5 1 false⟩,
   ⟨none, .len 7 (.t 6)⟩,
   ⟨none, .bin 8 .gtr (.t 7) (.k (.int .i64 40))⟩])
  (.cond (.t 8)
  (.seq (.reg [⟨none, .mov 2 (.k (.bool false))⟩])
   (.ret))
  (.skip)))
 (.seq (.seq (.reg [⟨none, .mov 3 (.k (.int .i64 0))⟩])
  (.block 0 (.loop [1, 3]
   r241L0)))
 (.seq (.reg [⟨none, .mov 2 (.k (.bool true))⟩])
 (.ret))))⟩
/-- A loop of spec.TotalOf. -/
def r245L0 : RC :=
 .seq (.seq (.reg [⟨none, .mov 11 (.t 6)⟩,
      ⟨none, .fad 12 1 0⟩,
      ⟨none, .load 13 12 1 false⟩,
      ⟨none, .len 14 (.t 13)⟩,
      ⟨none, .bin 15 .lss (.t 11) (.t 14)⟩])
     (.cond (.t 15)
     (.skip)
     (.exit 0)))
    (.seq (.block 1 (.seq (.reg [⟨none, .chk []⟩,
       ⟨none, .mov 20 (.t 6)⟩,
       ⟨none, .mov 26 (.t 6)⟩,
       ⟨none, .fad 18 1 0⟩,
       ⟨none, .load 19 18 1 false⟩,
       ⟨none, .idx 21 11 (.t 19) (.t 20)⟩,
       ⟨none, .fad 22 21 1⟩,
       ⟨none, .load 23 22 1 false⟩,
       ⟨none, .fad 24 1 0⟩,
       ⟨none, .load 25 24 1 false⟩,
       ⟨none, .idx 27 11 (.t 25) (.t 26)⟩,
       ⟨none, .fad 28 27 2⟩,
       ⟨none, .load 29 28 1 false⟩,
       ⟨none, .bin 30 .add (.t 23) (.t 29)⟩,
       ⟨none, .mov 7 (.t 30)⟩])
      (.seq (.seq (.reg [⟨none, .mov 31 (.t 7)⟩,
        ⟨none, .mov 32 (.t 5)⟩,
        ⟨none, .bin 33 .sub (.k (.int .u64 18446744073709551615)) (.t 32)⟩,
        ⟨none, .bin 34 .gtr (.t 31) (.t 33)⟩])
       (.cond (.t 34)
       (.reg [⟨none, .mov 35 (.t 4)⟩,
        ⟨none, .bin 36 .add (.t 35) (.k (.int .u64 1))⟩,
        ⟨none, .mov 4 (.t 36)⟩])
       (.skip)))
      (.reg [⟨none, .mov 37 (.t 5)⟩,
      ⟨none, .mov 38 (.t 7)⟩,
      ⟨none, .bin 39 .add (.t 37) (.t 38)⟩,
      ⟨none, .mov 5 (.t 39)⟩]))))
    (.reg [⟨none, .mov 16 (.t 6)⟩,
    ⟨none, .bin 17 .add (.t 16) (.k (.int .i64 1))⟩,
    ⟨none, .mov 6 (.t 17)⟩]))
/-- spec.TotalOf -/
def r245 : RF :=
 ⟨1, [.tmp 2, .tmp 3],
 .seq (.reg [⟨none, .locb 1 (.t 0)⟩,
  ⟨none, .mov 2 (.k (.int .u64 0))⟩,
  ⟨none, .mov 3 (.k (.int .u64 0))⟩])
 (.seq (.reg [⟨none, .mov 4 (.k (.int .u64 0))⟩,
  ⟨none, .mov 5 (.k (.int .u64 0))⟩])
 (.seq (.seq (.reg [⟨none, .load 8 1 1 true⟩,
   ⟨none, .call (some 9) 241 [(.t 8)] false⟩,
   ⟨none, .not 10 (.t 9)⟩])
  (.cond (.t 10)
  (.seq (.reg [⟨none, .mov 2 (.k (.int .u64 0))⟩,
    ⟨none, .mov 3 (.k (.int .u64 0))⟩])
   (.ret))
  (.skip)))
 (.seq (.seq (.reg [⟨none, .mov 6 (.k (.int .i64 0))⟩])
  (.block 0 (.loop [1, 4, 5, 6]
   r245L0)))
 (.seq (.reg [⟨none, .mov 40 (.t 4)⟩,
  ⟨none, .mov 41 (.t 5)⟩,
  ⟨none, .mov 2 (.t 40)⟩,
  ⟨none, .mov 3 (.t 41)⟩])
 (.ret)))))⟩
/-- A loop of spec.l10Copy. -/
def r259L0 : RC :=
 .seq (.seq (.reg [⟨none, .mov 6 (.t 4)⟩,
      ⟨none, .fad 7 1 0⟩,
      ⟨none, .load 8 7 1 false⟩,
      ⟨none, .len 9 (.t 8)⟩,
      ⟨none, .bin 10 .lss (.t 6) (.t 9)⟩])
     (.cond (.t 10)
     (.skip)
     (.exit 0)))
    (.seq (.block 1 (.reg [⟨none, .chk []⟩,
      ⟨none, .mov 17 (.t 4)⟩,
      ⟨none, .fad 13 3 0⟩,
      ⟨none, .load 14 13 1 false⟩,
      ⟨none, .fad 15 1 0⟩,
      ⟨none, .load 16 15 1 false⟩,
      ⟨none, .idx 18 11 (.t 16) (.t 17)⟩,
      ⟨none, .load 19 18 5 true⟩,
      ⟨none, .lit 20 11 1 [.int .u64 0, .int .u64 0, .int .u64 0, .int .u64 0, .int .i64 0] [(0, (.t 19))]⟩,
      ⟨none, .app 21 11 40 (.t 14) (.t 20)⟩,
      ⟨none, .fad 22 3 0⟩,
      ⟨none, .store 22 1 (.t 21)⟩]))
    (.reg [⟨none, .mov 11 (.t 4)⟩,
    ⟨none, .bin 12 .add (.t 11) (.k (.int .i64 1))⟩,
    ⟨none, .mov 4 (.t 12)⟩]))
/-- spec.l10Copy -/
def r259 : RF :=
 ⟨1, [.cell 2 1 true],
 .seq (.reg [⟨none, .locb 1 (.t 0)⟩,
  ⟨none, .loc 2 [.nil]⟩])
 (.seq (.reg [⟨none, .build 5 [.nil] []⟩,
  ⟨none, .loc 3 [.nil]⟩,
  ⟨none, .store 3 1 (.t 5)⟩])
 (.seq (.seq (.reg [⟨none, .mov 4 (.k (.int .i64 0))⟩])
  (.block 0 (.loop [1, 2, 3, 4]
   r259L0)))
 (.seq (.reg [⟨none, .load 23 3 1 true⟩,
  ⟨none, .store 2 1 (.t 23)⟩])
 (.ret))))⟩
/-- A loop of spec.OpenAccount. -/
def r323L0 : RC :=
 .seq (.seq (.reg [⟨none, .mov 27 (.t 8)⟩,
      ⟨none, .fad 28 2 0⟩,
      ⟨none, .load 29 28 1 false⟩,
      ⟨none, .len 30 (.t 29)⟩,
      ⟨none, .bin 31 .lss (.t 27) (.t 30)⟩])
     (.cond (.t 31)
     (.skip)
     (.exit 0)))
    (.seq (.block 1 (.seq (.seq (.reg [⟨none, .mov 34 (.t 7)⟩,
        ⟨none, .not 35 (.t 34)⟩,
        ⟨none, .mov 36 (.t 35)⟩,
        ⟨some (36, true), .fad 37 2 0⟩,
        ⟨some (36, true), .load 38 37 1 false⟩,
        ⟨some (36, true), .mov 39 (.t 8)⟩,
        ⟨some (36, true), .idx 40 11 (.t 38) (.t 39)⟩,
        ⟨some (36, true), .fad 41 40 0⟩,
        ⟨some (36, true), .load 42 41 1 false⟩,
        ⟨some (36, true), .mov 43 (.t 1)⟩,
        ⟨some (36, true), .bin 44 .gtr (.t 42) (.t 43)⟩,
        ⟨none, .pick 45 (.t 36) (.t 44) (.k (.bool false))⟩])
       (.cond (.t 45)
       (.seq (.reg [⟨none, .fad 46 6 0⟩,
         ⟨none, .load 47 46 1 false⟩,
         ⟨none, .mov 48 (.t 1)⟩,
         ⟨none, .build 49 [.int .u64 0, .int .u64 0, .int .u64 0, .int .u64 0, .int .i64 0] [(0, 1, (.t 48))]⟩,
         ⟨none, .lit 50 11 1 [.int .u64 0, .int .u64 0, .int .u64 0, .int .u64 0, .int .i64 0] [(0, (.t 49))]⟩,
         ⟨none, .app 51 11 40 (.t 47) (.t 50)⟩,
         ⟨none, .fad 52 6 0⟩,
         ⟨none, .store 52 1 (.t 51)⟩])
        (.reg [⟨none, .mov 7 (.k (.bool true))⟩]))
       (.skip)))
      (.reg [⟨none, .chk []⟩,
      ⟨none, .mov 57 (.t 8)⟩,
      ⟨none, .fad 53 6 0⟩,
      ⟨none, .load 54 53 1 false⟩,
      ⟨none, .fad 55 2 0⟩,
      ⟨none, .load 56 55 1 false⟩,
      ⟨none, .idx 58 11 (.t 56) (.t 57)⟩,
      ⟨none, .load 59 58 5 true⟩,
      ⟨none, .lit 60 11 1 [.int .u64 0, .int .u64 0, .int .u64 0, .int .u64 0, .int .i64 0] [(0, (.t 59))]⟩,
      ⟨none, .app 61 11 40 (.t 54) (.t 60)⟩,
      ⟨none, .fad 62 6 0⟩,
      ⟨none, .store 62 1 (.t 61)⟩])))
    (.reg [⟨none, .mov 32 (.t 8)⟩,
    ⟨none, .bin 33 .add (.t 32) (.k (.int .i64 1))⟩,
    ⟨none, .mov 8 (.t 33)⟩]))
/-- spec.OpenAccount -/
def r323 : RF :=
 ⟨2, [.cell 4 1 true, .tmp 5],
 .seq (.reg [⟨none, .locb 2 (.t 0)⟩,
  ⟨none, .loc 4 [.nil]⟩,
  ⟨none, .mov 5 (.k (.int .i64 0))⟩])
 (.seq (.seq (.reg [⟨none, .load 9 2 1 true⟩,
   ⟨none, .call (some 10) 241 [(.t 9)] false⟩,
   ⟨none, .not 11 (.t 10)⟩])
  (.cond (.t 11)
  (.seq (.reg [⟨none, .load 12 2 1 true⟩,
    ⟨none, .call (some 13) 259 [(.t 12)] false⟩,
    ⟨none, .store 4 1 (.t 13)⟩,
    ⟨none, .mov 5 (.k (.int .i64 1))⟩])
   (.ret))
  (.skip)))
 (.seq (.seq (.reg [⟨none, .load 14 2 1 true⟩,
   ⟨none, .mov 15 (.t 1)⟩,
   ⟨none, .call (some 16) 328 [(.t 14), (.t 15)] false⟩,
   ⟨none, .bin 17 .geq (.t 16) (.k (.int .i64 0))⟩])
  (.cond (.t 17)
  (.seq (.reg [⟨none, .load 18 2 1 true⟩,
    ⟨none, .call (some 19) 259 [(.t 18)] false⟩,
    ⟨none, .store 4 1 (.t 19)⟩,
    ⟨none, .mov 5 (.k (.int .i64 3))⟩])
   (.ret))
  (.skip)))
 (.seq (.seq (.reg [⟨none, .fad 20 2 0⟩,
   ⟨none, .load 21 20 1 false⟩,
   ⟨none, .len 22 (.t 21)⟩,
   ⟨none, .bin 23 .eql (.t 22) (.k (.int .i64 40))⟩])
  (.cond (.t 23)
  (.seq (.reg [⟨none, .load 24 2 1 true⟩,
    ⟨none, .call (some 25) 259 [(.t 24)] false⟩,
    ⟨none, .store 4 1 (.t 25)⟩,
    ⟨none, .mov 5 (.k (.int .i64 1))⟩])
   (.ret))
  (.skip)))
 (.seq (.reg [⟨none, .build 26 [.nil] []⟩,
  ⟨none, .loc 6 [.nil]⟩,
  ⟨none, .store 6 1 (.t 26)⟩])
 (.seq (.reg [⟨none, .mov 7 (.k (.bool false))⟩])
 (.seq (.seq (.reg [⟨none, .mov 8 (.k (.int .i64 0))⟩])
  (.block 0 (.loop [1, 2, 4, 6, 7, 8]
   r323L0)))
 (.seq (.seq (.reg [⟨none, .mov 63 (.t 7)⟩,
   ⟨none, .not 64 (.t 63)⟩])
  (.cond (.t 64)
  (.reg [⟨none, .fad 65 6 0⟩,
   ⟨none, .load 66 65 1 false⟩,
   ⟨none, .mov 67 (.t 1)⟩,
   ⟨none, .build 68 [.int .u64 0, .int .u64 0, .int .u64 0, .int .u64 0, .int .i64 0] [(0, 1, (.t 67))]⟩,
   ⟨none, .lit 69 11 1 [.int .u64 0, .int .u64 0, .int .u64 0, .int .u64 0, .int .i64 0] [(0, (.t 68))]⟩,
   ⟨none, .app 70 11 40 (.t 66) (.t 69)⟩,
   ⟨none, .fad 71 6 0⟩,
   ⟨none, .store 71 1 (.t 70)⟩])
  (.skip)))
 (.seq (.reg [⟨none, .load 72 6 1 true⟩,
  ⟨none, .store 4 1 (.t 72)⟩,
  ⟨none, .mov 5 (.k (.int .i64 0))⟩])
 (.ret)))))))))⟩
/-- A loop of spec.CloseAccount. -/
def r324L0 : RC :=
 .seq (.seq (.reg [⟨none, .mov 35 (.t 9)⟩,
      ⟨none, .fad 36 2 0⟩,
      ⟨none, .load 37 36 1 false⟩,
      ⟨none, .len 38 (.t 37)⟩,
      ⟨none, .bin 39 .lss (.t 35) (.t 38)⟩])
     (.cond (.t 39)
     (.skip)
     (.exit 1)))
    (.seq (.block 2 (.seq (.reg [⟨none, .fad 42 2 0⟩,
       ⟨none, .load 43 42 1 false⟩,
       ⟨none, .mov 44 (.t 9)⟩,
       ⟨none, .idx 45 11 (.t 43) (.t 44)⟩,
       ⟨none, .fad 46 45 0⟩,
       ⟨none, .load 47 46 1 false⟩,
       ⟨none, .mov 48 (.t 1)⟩,
       ⟨none, .bin 49 .neq (.t 47) (.t 48)⟩])
      (.cond (.t 49)
      (.reg [⟨none, .chk []⟩,
       ⟨none, .mov 54 (.t 9)⟩,
       ⟨none, .fad 50 8 0⟩,
       ⟨none, .load 51 50 1 false⟩,
       ⟨none, .fad 52 2 0⟩,
       ⟨none, .load 53 52 1 false⟩,
       ⟨none, .idx 55 11 (.t 53) (.t 54)⟩,
       ⟨none, .load 56 55 5 true⟩,
       ⟨none, .lit 57 11 1 [.int .u64 0, .int .u64 0, .int .u64 0, .int .u64 0, .int .i64 0] [(0, (.t 56))]⟩,
       ⟨none, .app 58 11 40 (.t 51) (.t 57)⟩,
       ⟨none, .fad 59 8 0⟩,
       ⟨none, .store 59 1 (.t 58)⟩])
      (.skip))))
    (.reg [⟨none, .mov 40 (.t 9)⟩,
    ⟨none, .bin 41 .add (.t 40) (.k (.int .i64 1))⟩,
    ⟨none, .mov 9 (.t 41)⟩]))
/-- spec.CloseAccount -/
def r324 : RF :=
 ⟨2, [.cell 4 1 true, .tmp 5],
 .seq (.reg [⟨none, .locb 2 (.t 0)⟩,
  ⟨none, .loc 4 [.nil]⟩,
  ⟨none, .mov 5 (.k (.int .i64 0))⟩])
 (.seq (.reg [⟨none, .load 11 2 1 true⟩,
  ⟨none, .mov 12 (.t 1)⟩,
  ⟨none, .call (some 13) 335 [(.t 11), (.t 12), (.k (.int .i64 1))] false⟩,
  ⟨none, .mov 10 (.t 13)⟩,
  ⟨none, .ext 14 (.t 10) 0⟩,
  ⟨none, .ext 15 (.t 10) 1⟩,
  ⟨none, .loc 6 [.int .u64 0, .int .u64 0, .int .u64 0, .int .u64 0, .int .i64 0]⟩,
  ⟨none, .store 6 5 (.t 14)⟩,
  ⟨none, .mov 7 (.t 15)⟩])
 (.seq (.block 0 (.seq (.reg [⟨none, .mov 17 (.t 7)⟩,
    ⟨none, .bin 18 .neq (.t 17) (.k (.int .i64 0))⟩,
    ⟨none, .mov 16 (.t 18)⟩])
   (.cond (.t 16)
   (.seq (.reg [⟨none, .load 19 2 1 true⟩,
     ⟨none, .call (some 20) 259 [(.t 19)] false⟩,
     ⟨none, .mov 21 (.t 7)⟩,
     ⟨none, .store 4 1 (.t 20)⟩,
     ⟨none, .mov 5 (.t 21)⟩])
    (.ret))
   (.seq (.reg [⟨none, .fad 23 6 4⟩,
     ⟨none, .load 24 23 1 false⟩,
     ⟨none, .bin 25 .neq (.t 24) (.k (.int .i64 0))⟩,
     ⟨none, .mov 22 (.t 25)⟩])
    (.cond (.t 22)
    (.seq (.reg [⟨none, .load 26 2 1 true⟩,
      ⟨none, .call (some 27) 259 [(.t 26)] false⟩,
      ⟨none, .store 4 1 (.t 27)⟩,
      ⟨none, .mov 5 (.k (.int .i64 6))⟩])
     (.ret))
    (.seq (.reg [⟨none, .fad 29 6 1⟩,
      ⟨none, .load 30 29 1 false⟩,
      ⟨none, .bin 31 .neq (.t 30) (.k (.int .u64 0))⟩,
      ⟨none, .mov 28 (.t 31)⟩])
     (.cond (.t 28)
     (.seq (.reg [⟨none, .load 32 2 1 true⟩,
       ⟨none, .call (some 33) 259 [(.t 32)] false⟩,
       ⟨none, .store 4 1 (.t 33)⟩,
       ⟨none, .mov 5 (.k (.int .i64 4))⟩])
      (.ret))
     (.skip))))))))
 (.seq (.reg [⟨none, .build 34 [.nil] []⟩,
  ⟨none, .loc 8 [.nil]⟩,
  ⟨none, .store 8 1 (.t 34)⟩])
 (.seq (.seq (.reg [⟨none, .mov 9 (.k (.int .i64 0))⟩])
  (.block 1 (.loop [1, 2, 4, 8, 9]
   r324L0)))
 (.seq (.reg [⟨none, .load 60 8 1 true⟩,
  ⟨none, .store 4 1 (.t 60)⟩,
  ⟨none, .mov 5 (.k (.int .i64 0))⟩])
 (.ret))))))⟩
/-- spec.Deposit -/
def r325 : RF :=
 ⟨3, [.cell 6 1 true, .tmp 7],
 .seq (.reg [⟨none, .locb 3 (.t 0)⟩,
  ⟨none, .loc 6 [.nil]⟩,
  ⟨none, .mov 7 (.k (.int .i64 0))⟩])
 (.seq (.reg [⟨none, .load 11 3 1 true⟩,
  ⟨none, .mov 12 (.t 1)⟩,
  ⟨none, .call (some 13) 335 [(.t 11), (.t 12), (.k (.int .i64 1))] false⟩,
  ⟨none, .mov 10 (.t 13)⟩,
  ⟨none, .ext 14 (.t 10) 0⟩,
  ⟨none, .ext 15 (.t 10) 1⟩,
  ⟨none, .loc 8 [.int .u64 0, .int .u64 0, .int .u64 0, .int .u64 0, .int .i64 0]⟩,
  ⟨none, .store 8 5 (.t 14)⟩,
  ⟨none, .mov 9 (.t 15)⟩])
 (.seq (.block 0 (.seq (.reg [⟨none, .mov 17 (.t 9)⟩,
    ⟨none, .bin 18 .neq (.t 17) (.k (.int .i64 0))⟩,
    ⟨none, .mov 16 (.t 18)⟩])
   (.cond (.t 16)
   (.seq (.reg [⟨none, .load 19 3 1 true⟩,
     ⟨none, .call (some 20) 259 [(.t 19)] false⟩,
     ⟨none, .mov 21 (.t 9)⟩,
     ⟨none, .store 6 1 (.t 20)⟩,
     ⟨none, .mov 7 (.t 21)⟩])
    (.ret))
   (.seq (.reg [⟨none, .fad 23 8 4⟩,
     ⟨none, .load 24 23 1 false⟩,
     ⟨none, .bin 25 .neq (.t 24) (.k (.int .i64 0))⟩,
     ⟨none, .mov 22 (.t 25)⟩])
    (.cond (.t 22)
    (.seq (.reg [⟨none, .load 26 3 1 true⟩,
      ⟨none, .call (some 27) 259 [(.t 26)] false⟩,
      ⟨none, .store 6 1 (.t 27)⟩,
      ⟨none, .mov 7 (.k (.int .i64 6))⟩])
     (.ret))
    (.seq (.reg [⟨none, .mov 29 (.t 2)⟩,
      ⟨none, .fad 30 8 1⟩,
      ⟨none, .load 31 30 1 false⟩,
      ⟨none, .bin 32 .sub (.k (.int .u64 18446744073709551615)) (.t 31)⟩,
      ⟨none, .bin 33 .gtr (.t 29) (.t 32)⟩,
      ⟨none, .mov 28 (.t 33)⟩])
     (.cond (.t 28)
     (.seq (.reg [⟨none, .load 34 3 1 true⟩,
       ⟨none, .call (some 35) 259 [(.t 34)] false⟩,
       ⟨none, .store 6 1 (.t 35)⟩,
       ⟨none, .mov 7 (.k (.int .i64 5))⟩])
      (.ret))
     (.skip))))))))
 (.seq (.reg [⟨none, .fad 36 8 1⟩,
  ⟨none, .load 37 36 1 false⟩,
  ⟨none, .mov 38 (.t 2)⟩,
  ⟨none, .bin 39 .add (.t 37) (.t 38)⟩,
  ⟨none, .fad 40 8 1⟩,
  ⟨none, .store 40 1 (.t 39)⟩])
 (.seq (.reg [⟨none, .load 41 3 1 true⟩,
  ⟨none, .load 42 8 5 true⟩,
  ⟨none, .call (some 43) 336 [(.t 41), (.t 42)] false⟩,
  ⟨none, .store 6 1 (.t 43)⟩,
  ⟨none, .mov 7 (.k (.int .i64 0))⟩])
 (.ret)))))⟩
/-- spec.Withdraw -/
def r326 : RF :=
 ⟨3, [.cell 6 1 true, .tmp 7],
 .seq (.reg [⟨none, .locb 3 (.t 0)⟩,
  ⟨none, .loc 6 [.nil]⟩,
  ⟨none, .mov 7 (.k (.int .i64 0))⟩])
 (.seq (.reg [⟨none, .load 11 3 1 true⟩,
  ⟨none, .mov 12 (.t 1)⟩,
  ⟨none, .call (some 13) 335 [(.t 11), (.t 12), (.k (.int .i64 1))] false⟩,
  ⟨none, .mov 10 (.t 13)⟩,
  ⟨none, .ext 14 (.t 10) 0⟩,
  ⟨none, .ext 15 (.t 10) 1⟩,
  ⟨none, .loc 8 [.int .u64 0, .int .u64 0, .int .u64 0, .int .u64 0, .int .i64 0]⟩,
  ⟨none, .store 8 5 (.t 14)⟩,
  ⟨none, .mov 9 (.t 15)⟩])
 (.seq (.block 0 (.seq (.reg [⟨none, .mov 17 (.t 9)⟩,
    ⟨none, .bin 18 .neq (.t 17) (.k (.int .i64 0))⟩,
    ⟨none, .mov 16 (.t 18)⟩])
   (.cond (.t 16)
   (.seq (.reg [⟨none, .load 19 3 1 true⟩,
     ⟨none, .call (some 20) 259 [(.t 19)] false⟩,
     ⟨none, .mov 21 (.t 9)⟩,
     ⟨none, .store 6 1 (.t 20)⟩,
     ⟨none, .mov 7 (.t 21)⟩])
    (.ret))
   (.seq (.reg [⟨none, .fad 23 8 4⟩,
     ⟨none, .load 24 23 1 false⟩,
     ⟨none, .bin 25 .neq (.t 24) (.k (.int .i64 0))⟩,
     ⟨none, .mov 22 (.t 25)⟩])
    (.cond (.t 22)
    (.seq (.reg [⟨none, .load 26 3 1 true⟩,
      ⟨none, .call (some 27) 259 [(.t 26)] false⟩,
      ⟨none, .store 6 1 (.t 27)⟩,
      ⟨none, .mov 7 (.k (.int .i64 6))⟩])
     (.ret))
    (.seq (.reg [⟨none, .mov 29 (.t 2)⟩,
      ⟨none, .fad 30 8 1⟩,
      ⟨none, .load 31 30 1 false⟩,
      ⟨none, .bin 32 .gtr (.t 29) (.t 31)⟩,
      ⟨none, .mov 28 (.t 32)⟩])
     (.cond (.t 28)
     (.seq (.reg [⟨none, .load 33 3 1 true⟩,
       ⟨none, .call (some 34) 259 [(.t 33)] false⟩,
       ⟨none, .store 6 1 (.t 34)⟩,
       ⟨none, .mov 7 (.k (.int .i64 4))⟩])
      (.ret))
     (.skip))))))))
 (.seq (.reg [⟨none, .fad 35 8 1⟩,
  ⟨none, .load 36 35 1 false⟩,
  ⟨none, .mov 37 (.t 2)⟩,
  ⟨none, .bin 38 .sub (.t 36) (.t 37)⟩,
  ⟨none, .fad 39 8 1⟩,
  ⟨none, .store 39 1 (.t 38)⟩])
 (.seq (.reg [⟨none, .load 40 3 1 true⟩,
  ⟨none, .load 41 8 5 true⟩,
  ⟨none, .call (some 42) 336 [(.t 40), (.t 41)] false⟩,
  ⟨none, .store 6 1 (.t 42)⟩,
  ⟨none, .mov 7 (.k (.int .i64 0))⟩])
 (.ret)))))⟩
/-- spec.MoveMoney -/
def r327 : RF :=
 ⟨4, [.cell 8 1 true, .tmp 9],
 .seq (.reg [⟨none, .locb 4 (.t 0)⟩,
  ⟨none, .loc 8 [.nil]⟩,
  ⟨none, .mov 9 (.k (.int .i64 0))⟩])
 (.seq (.reg [⟨none, .load 15 4 1 true⟩,
  ⟨none, .mov 16 (.t 1)⟩,
  ⟨none, .call (some 17) 335 [(.t 15), (.t 16), (.k (.int .i64 1))] false⟩,
  ⟨none, .mov 14 (.t 17)⟩,
  ⟨none, .ext 18 (.t 14) 0⟩,
  ⟨none, .ext 19 (.t 14) 1⟩,
  ⟨none, .loc 10 [.int .u64 0, .int .u64 0, .int .u64 0, .int .u64 0, .int .i64 0]⟩,
  ⟨none, .store 10 5 (.t 18)⟩,
  ⟨none, .mov 11 (.t 19)⟩])
 (.seq (.reg [⟨none, .load 21 4 1 true⟩,
  ⟨none, .mov 22 (.t 2)⟩,
  ⟨none, .call (some 23) 335 [(.t 21), (.t 22), (.k (.int .i64 1))] false⟩,
  ⟨none, .mov 20 (.t 23)⟩,
  ⟨none, .ext 24 (.t 20) 0⟩,
  ⟨none, .ext 25 (.t 20) 1⟩,
  ⟨none, .loc 12 [.int .u64 0, .int .u64 0, .int .u64 0, .int .u64 0, .int .i64 0]⟩,
  ⟨none, .store 12 5 (.t 24)⟩,
  ⟨none, .mov 13 (.t 25)⟩])
 (.seq (.block 0 (.seq (.reg [⟨none, .mov 27 (.t 11)⟩,
    ⟨none, .bin 28 .eql (.t 27) (.k (.int .i64 1))⟩,
    ⟨none, .mov 29 (.t 28)⟩,
    ⟨some (29, false), .mov 30 (.t 1)⟩,
    ⟨some (29, false), .mov 31 (.t 2)⟩,
    ⟨some (29, false), .bin 32 .eql (.t 30) (.t 31)⟩,
    ⟨none, .pick 33 (.t 29) (.k (.bool true)) (.t 32)⟩,
    ⟨none, .mov 26 (.t 33)⟩])
   (.cond (.t 26)
   (.seq (.reg [⟨none, .load 34 4 1 true⟩,
     ⟨none, .call (some 35) 259 [(.t 34)] false⟩,
     ⟨none, .store 8 1 (.t 35)⟩,
     ⟨none, .mov 9 (.k (.int .i64 1))⟩])
    (.ret))
   (.seq (.reg [⟨none, .mov 37 (.t 11)⟩,
     ⟨none, .bin 38 .neq (.t 37) (.k (.int .i64 0))⟩,
     ⟨none, .mov 39 (.t 38)⟩,
     ⟨some (39, false), .mov 40 (.t 13)⟩,
     ⟨some (39, false), .bin 41 .neq (.t 40) (.k (.int .i64 0))⟩,
     ⟨none, .pick 42 (.t 39) (.k (.bool true)) (.t 41)⟩,
     ⟨none, .mov 36 (.t 42)⟩])
    (.cond (.t 36)
    (.seq (.reg [⟨none, .load 43 4 1 true⟩,
      ⟨none, .call (some 44) 259 [(.t 43)] false⟩,
      ⟨none, .store 8 1 (.t 44)⟩,
      ⟨none, .mov 9 (.k (.int .i64 2))⟩])
     (.ret))
    (.seq (.reg [⟨none, .fad 46 10 4⟩,
      ⟨none, .load 47 46 1 false⟩,
      ⟨none, .bin 48 .neq (.t 47) (.k (.int .i64 0))⟩,
      ⟨none, .mov 49 (.t 48)⟩,
      ⟨some (49, false), .fad 50 12 4⟩,
      ⟨some (49, false), .load 51 50 1 false⟩,
      ⟨some (49, false), .bin 52 .neq (.t 51) (.k (.int .i64 0))⟩,
      ⟨none, .pick 53 (.t 49) (.k (.bool true)) (.t 52)⟩,
      ⟨none, .mov 45 (.t 53)⟩])
     (.cond (.t 45)
     (.seq (.reg [⟨none, .load 54 4 1 true⟩,
       ⟨none, .call (some 55) 259 [(.t 54)] false⟩,
       ⟨none, .store 8 1 (.t 55)⟩,
       ⟨none, .mov 9 (.k (.int .i64 6))⟩])
      (.ret))
     (.seq (.reg [⟨none, .mov 57 (.t 3)⟩,
       ⟨none, .fad 58 10 1⟩,
       ⟨none, .load 59 58 1 false⟩,
       ⟨none, .bin 60 .gtr (.t 57) (.t 59)⟩,
       ⟨none, .mov 56 (.t 60)⟩])
      (.cond (.t 56)
      (.seq (.reg [⟨none, .load 61 4 1 true⟩,
        ⟨none, .call (some 62) 259 [(.t 61)] false⟩,
        ⟨none, .store 8 1 (.t 62)⟩,
        ⟨none, .mov 9 (.k (.int .i64 4))⟩])
       (.ret))
      (.seq (.reg [⟨none, .mov 64 (.t 3)⟩,
        ⟨none, .fad 65 12 1⟩,
        ⟨none, .load 66 65 1 false⟩,
        ⟨none, .bin 67 .sub (.k (.int .u64 18446744073709551615)) (.t 66)⟩,
        ⟨none, .bin 68 .gtr (.t 64) (.t 67)⟩,
        ⟨none, .mov 63 (.t 68)⟩])
       (.cond (.t 63)
       (.seq (.reg [⟨none, .load 69 4 1 true⟩,
         ⟨none, .call (some 70) 259 [(.t 69)] false⟩,
         ⟨none, .store 8 1 (.t 70)⟩,
         ⟨none, .mov 9 (.k (.int .i64 5))⟩])
        (.ret))
       (.skip))))))))))))
 (.seq (.reg [⟨none, .fad 71 10 1⟩,
  ⟨none, .load 72 71 1 false⟩,
  ⟨none, .mov 73 (.t 3)⟩,
  ⟨none, .bin 74 .sub (.t 72) (.t 73)⟩,
  ⟨none, .fad 75 10 1⟩,
  ⟨none, .store 75 1 (.t 74)⟩])
 (.seq (.reg [⟨none, .fad 76 12 1⟩,
  ⟨none, .load 77 76 1 false⟩,
  ⟨none, .mov 78 (.t 3)⟩,
  ⟨none, .bin 79 .add (.t 77) (.t 78)⟩,
  ⟨none, .fad 80 12 1⟩,
  ⟨none, .store 80 1 (.t 79)⟩])
 (.seq (.reg [⟨none, .chk []⟩,
  ⟨none, .load 81 4 1 true⟩,
  ⟨none, .load 82 10 5 true⟩,
  ⟨none, .load 84 12 5 true⟩,
  ⟨none, .call (some 83) 336 [(.t 81), (.t 82)] true⟩,
  ⟨none, .call (some 85) 336 [(.t 83), (.t 84)] true⟩,
  ⟨none, .store 8 1 (.t 85)⟩,
  ⟨none, .mov 9 (.k (.int .i64 0))⟩])
 (.ret)))))))⟩
/-- A loop of spec.l10Find. -/
def r328L0 : RC :=
 .seq (.seq (.reg [⟨none, .mov 6 (.t 5)⟩,
      ⟨none, .fad 7 2 0⟩,
      ⟨none, .load 8 7 1 false⟩,
      ⟨none, .len 9 (.t 8)⟩,
      ⟨none, .bin 10 .lss (.t 6) (.t 9)⟩])
     (.cond (.t 10)
     (.skip)
     (.exit 0)))
    (.seq (.block 1 (.seq (.reg [⟨none, .fad 13 2 0⟩,
       ⟨none, .load 14 13 1 false⟩,
       ⟨none, .mov 15 (.t 5)⟩,
       ⟨none, .idx 16 11 (.t 14) (.t 15)⟩,
       ⟨none, .fad 17 16 0⟩,
       ⟨none, .load 18 17 1 false⟩,
       ⟨none, .mov 19 (.t 1)⟩,
       ⟨none, .bin 20 .eql (.t 18) (.t 19)⟩])
      (.cond (.t 20)
      (.seq (.reg [⟨none, .mov 21 (.t 5)⟩,
        ⟨none, .mov 4 (.t 21)⟩])
       (.ret))
      (.skip))))
    (.reg [⟨none, .mov 11 (.t 5)⟩,
    ⟨none, .bin 12 .add (.t 11) (.k (.int .i64 1))⟩,
    ⟨none, .mov 5 (.t 12)⟩]))
/-- spec.l10Find -/
def r328 : RF :=
 ⟨2, [.tmp 4],
 .seq (.reg [⟨none, .locb 2 (.t 0)⟩,
  ⟨none, .mov 4 (.k (.int .i64 0))⟩])
 (.seq (.seq (.reg [⟨none, .mov 5 (.k (.int .i64 0))⟩])
  (.block 0 (.loop [1, 2, 5]
   r328L0)))
 (.seq (.reg [⟨none, .mov 4 (.k (.int .i64 (-1)))⟩])
 (.ret)))⟩
/-- spec.l10Of -/
def r335 : RF :=
 ⟨3, [.cell 6 5 true, .tmp 7],
 .seq (.reg [⟨none, .locb 3 (.t 0)⟩,
  ⟨none, .loc 6 [.int .u64 0, .int .u64 0, .int .u64 0, .int .u64 0, .int .i64 0]⟩,
  ⟨none, .mov 7 (.k (.int .i64 0))⟩])
 (.seq (.seq (.reg [⟨none, .load 9 3 1 true⟩,
   ⟨none, .call (some 10) 241 [(.t 9)] false⟩,
   ⟨none, .not 11 (.t 10)⟩,
   ⟨none, .mov 12 (.t 11)⟩,
   ⟨some (12, false), .mov 13 (.t 2)⟩,
   ⟨some (12, false), .bin 14 .lss (.t 13) (.k (.int .i64 1))⟩,
   ⟨none, .pick 15 (.t 12) (.k (.bool true)) (.t 14)⟩])
  (.cond (.t 15)
  (.seq (.reg [⟨none, .build 16 [.int .u64 0, .int .u64 0, .int .u64 0, .int .u64 0, .int .i64 0] []⟩,
    ⟨none, .store 6 5 (.t 16)⟩,
    ⟨none, .mov 7 (.k (.int .i64 1))⟩])
   (.ret))
  (.skip)))
 (.seq (.reg [⟨none, .load 17 3 1 true⟩,
  ⟨none, .mov 18 (.t 1)⟩,
  ⟨none, .call (some 19) 328 [(.t 17), (.t 18)] false⟩,
  ⟨none, .mov 8 (.t 19)⟩])
 (.seq (.seq (.reg [⟨none, .mov 20 (.t 8)⟩,
   ⟨none, .bin 21 .lss (.t 20) (.k (.int .i64 0))⟩])
  (.cond (.t 21)
  (.seq (.reg [⟨none, .build 22 [.int .u64 0, .int .u64 0, .int .u64 0, .int .u64 0, .int .i64 0] []⟩,
    ⟨none, .store 6 5 (.t 22)⟩,
    ⟨none, .mov 7 (.k (.int .i64 2))⟩])
   (.ret))
  (.skip)))
 (.seq (.reg [⟨none, .fad 23 3 0⟩,
  ⟨none, .load 24 23 1 false⟩,
  ⟨none, .mov 25 (.t 8)⟩,
  ⟨none, .idx 26 11 (.t 24) (.t 25)⟩,
  ⟨none, .load 27 26 5 true⟩,
  ⟨none, .store 6 5 (.t 27)⟩,
  ⟨none, .mov 7 (.k (.int .i64 0))⟩])
 (.ret)))))⟩
/-- A loop of spec.l10With. -/
def r336L0 : RC :=
 .seq (.seq (.reg [⟨none, .mov 9 (.t 6)⟩,
      ⟨none, .fad 10 5 0⟩,
      ⟨none, .load 11 10 1 false⟩,
      ⟨none, .len 12 (.t 11)⟩,
      ⟨none, .bin 13 .lss (.t 9) (.t 12)⟩])
     (.cond (.t 13)
     (.skip)
     (.exit 0)))
    (.seq (.block 1 (.seq (.reg [⟨none, .chk []⟩,
       ⟨none, .mov 18 (.t 6)⟩,
       ⟨none, .fad 16 5 0⟩,
       ⟨none, .load 17 16 1 false⟩,
       ⟨none, .idx 19 11 (.t 17) (.t 18)⟩,
       ⟨none, .fad 20 19 0⟩,
       ⟨none, .load 21 20 1 false⟩,
       ⟨none, .fad 22 3 0⟩,
       ⟨none, .load 23 22 1 false⟩,
       ⟨none, .bin 24 .eql (.t 21) (.t 23)⟩])
      (.cond (.t 24)
      (.reg [⟨none, .fad 25 5 0⟩,
       ⟨none, .load 26 25 1 false⟩,
       ⟨none, .mov 27 (.t 6)⟩,
       ⟨none, .load 28 3 5 true⟩,
       ⟨none, .idx 29 11 (.t 26) (.t 27)⟩,
       ⟨none, .store 29 5 (.t 28)⟩])
      (.skip))))
    (.reg [⟨none, .mov 14 (.t 6)⟩,
    ⟨none, .bin 15 .add (.t 14) (.k (.int .i64 1))⟩,
    ⟨none, .mov 6 (.t 15)⟩]))
/-- spec.l10With -/
def r336 : RF :=
 ⟨2, [.cell 4 1 true],
 .seq (.reg [⟨none, .locb 2 (.t 0)⟩,
  ⟨none, .locb 3 (.t 1)⟩,
  ⟨none, .loc 4 [.nil]⟩])
 (.seq (.reg [⟨none, .load 7 2 1 true⟩,
  ⟨none, .call (some 8) 259 [(.t 7)] false⟩,
  ⟨none, .loc 5 [.nil]⟩,
  ⟨none, .store 5 1 (.t 8)⟩])
 (.seq (.seq (.reg [⟨none, .mov 6 (.k (.int .i64 0))⟩])
  (.block 0 (.loop [3, 4, 5, 6]
   r336L0)))
 (.seq (.reg [⟨none, .load 30 5 1 true⟩,
  ⟨none, .store 4 1 (.t 30)⟩])
 (.ret))))⟩
/-- The functions of this text, with their numbers. -/
def tS10 : List (Nat × RF) := [(235, r235), (237, r237), (241, r241), (245, r245), (259, r259), (323, r323), (324, r324), (325, r325), (326, r326), (327, r327), (328, r328), (335, r335), (336, r336)]
end Go.Proofs.Ytlfepembgjjejaa.A
/- The compact code of some functions: spec.StoreOk, spec.StoreTotal, spec.ExportShard, spec.l13Shard, spec.l13Add, spec.l13At, spec.l13Find, spec.l13CopyShard, spec.l13Before, spec.l13Has, spec.RenewStore, spec.RetireShard, spec.FreezeShard, spec.InstallShard, spec.CutShard, spec.l13Next, spec.l13Copy, spec.l13Renew, spec.l13Within, spec.JoinShard, spec.l13AddFin. -/
namespace Go.Proofs.Ytlfepembgjjejaa.A
open Go
/-- A loop of spec.StoreOk. -/
def r156L0 : RC :=
 .seq (.seq (.reg [⟨none, .mov 21 (.t 3)⟩,
      ⟨none, .fad 22 1 2⟩,
      ⟨none, .load 23 22 1 false⟩,
      ⟨none, .len 24 (.t 23)⟩,
      ⟨none, .bin 25 .lss (.t 21) (.t 24)⟩])
     (.cond (.t 25)
     (.skip)
     (.exit 0)))
    (.seq (.block 1 (.seq (.reg [⟨none, .fad 28 1 2⟩,
       ⟨none, .load 29 28 1 false⟩,
       ⟨none, .mov 30 (.t 3)⟩,
       ⟨none, .idx 31 16 (.t 29) (.t 30)⟩,
       ⟨none, .load 32 31 6 true⟩,
       ⟨none, .loc 4 [.int .u64 0, .int .u64 0, .int .i64 0, .int .i64 0, .nil, .nil]⟩,
       ⟨none, .store 4 6 (.t 32)⟩])
      (.seq (.reg [⟨none, .chk []⟩,
       ⟨none, .load 33 4 6 true⟩,
       ⟨none, .call (some 34) 204 [(.t 33)] true⟩,
       ⟨none, .not 35 (.t 34)⟩,
       ⟨none, .mov 36 (.t 35)⟩,
       ⟨some (36, false), .fad 37 4 3⟩,
       ⟨some (36, false), .load 38 37 1 false⟩,
       ⟨some (36, false), .fad 39 1 1⟩,
       ⟨some (36, false), .load 40 39 1 false⟩,
       ⟨some (36, false), .bin 41 .gtr (.t 38) (.t 40)⟩,
       ⟨none, .pick 42 (.t 36) (.k (.bool true)) (.t 41)⟩,
       ⟨none, .mov 43 (.t 42)⟩,
       ⟨some (43, false), .mov 44 (.t 3)⟩,
       ⟨some (43, false), .bin 45 .gtr (.t 44) (.k (.int .i64 0))⟩,
       ⟨some (43, false), .mov 46 (.t 45)⟩,
       ⟨some (46, true), .mov 49 (.t 3)⟩,
       ⟨some (46, true), .bin 50 .sub (.t 49) (.k (.int .i64 1))⟩,
       ⟨some (46, true), .fad 47 1 2⟩,
       ⟨some (46, true), .load 48 47 1 false⟩,
       ⟨some (46, true), .idx 51 16 (.t 48) (.t 50)⟩,
       ⟨some (46, true), .fad 52 51 1⟩,
       ⟨some (46, true), .load 53 52 1 false⟩,
       ⟨some (46, true), .fad 54 4 0⟩,
       ⟨some (46, true), .load 55 54 1 false⟩,
       ⟨some (46, true), .bin 56 .geq (.t 53) (.t 55)⟩,
       ⟨some (43, false), .pick 57 (.t 46) (.t 56) (.k (.bool false))⟩,
       ⟨none, .pick 58 (.t 43) (.k (.bool true)) (.t 57)⟩])
      (.cond (.t 58)
      (.seq (.reg [⟨none, .mov 2 (.k (.bool false))⟩])
       (.ret))
      (.skip)))))
    (.reg [⟨none, .mov 26 (.t 3)⟩,
    ⟨none, .bin 27 .add (.t 26) (.k (.int .i64 1))⟩,
    ⟨none, .mov 3 (.t 27)⟩]))
/-- spec.StoreOk -/
def r156 : RF :=
 ⟨1, [.tmp 2],
 .seq (.reg [⟨none, .locb 1 (.t 0)⟩,
  ⟨none, .mov 2 (.k (.bool false))⟩])
 (.seq (.seq (.reg [⟨none, .fad 5 1 0⟩,
   ⟨none, .load 6 5 1 false⟩,
   ⟨none, .call (some 7) 5 [(.t 6), (.k (.int .i64 0)), (.k (.int .i64 99))] false⟩,
   ⟨none, .not 8 (.t 7)⟩,
   ⟨none, .mov 9 (.t 8)⟩,
   ⟨some (9, false), .fad 10 1 1⟩,
   ⟨some (9, false), .load 11 10 1 false⟩,
   ⟨some (9, false), .call (some 12) 5 [(.t 11), (.k (.int .i64 0)), (.k (.int .i64 1000000))] false⟩,
   ⟨some (9, false), .not 13 (.t 12)⟩,
   ⟨none, .pick 14 (.t 9) (.k (.bool true)) (.t 13)⟩,
   ⟨none, .mov 15 (.t 14)⟩,
   ⟨some (15, false), .fad 16 1 2⟩,
   ⟨some (15, false), .load 17 16 1 false⟩,
   ⟨some (15, false), .len 18 (.t 17)⟩,
   ⟨some (15, false), .bin 19 .gtr (.t 18) (.k (.int .i64 8))⟩,
   ⟨none, .pick 20 (.t 15) (.k (.bool true)) (.t 19)⟩])
  (.cond (.t 20)
  (.seq (.reg [⟨none, .mov 2 (.k (.bool false))⟩])
   (.ret))
  (.skip)))
 (.seq (.seq (.reg [⟨none, .mov 3 (.k (.int .i64 0))⟩])
  (.block 0 (.loop [1, 3]
   r156L0)))
 (.seq (.reg [⟨none, .mov 2 (.k (.bool true))⟩])
 (.ret))))⟩
/-- A loop of spec.StoreTotal. -/
def r163L0 : RC :=
 .seq (.seq (.reg [⟨none, .mov 10 (.t 6)⟩,
      ⟨none, .fad 11 1 2⟩,
      ⟨none, .load 12 11 1 false⟩,
      ⟨none, .len 13 (.t 12)⟩,
      ⟨none, .bin 14 .lss (.t 10) (.t 13)⟩])
     (.cond (.t 14)
     (.skip)
     (.exit 0)))
    (.seq (.block 1 (.reg [⟨none, .mov 18 (.t 4)⟩,
      ⟨none, .mov 19 (.t 5)⟩,
      ⟨none, .fad 20 1 2⟩,
      ⟨none, .load 21 20 1 false⟩,
      ⟨none, .mov 22 (.t 6)⟩,
      ⟨none, .idx 23 16 (.t 21) (.t 22)⟩,
      ⟨none, .fad 24 23 4⟩,
      ⟨none, .load 25 24 1 true⟩,
      ⟨none, .call (some 26) 208 [(.t 18), (.t 19), (.t 25)] false⟩,
      ⟨none, .mov 17 (.t 26)⟩,
      ⟨none, .ext 27 (.t 17) 0⟩,
      ⟨none, .ext 28 (.t 17) 1⟩,
      ⟨none, .mov 4 (.t 27)⟩,
      ⟨none, .mov 5 (.t 28)⟩]))
    (.reg [⟨none, .mov 15 (.t 6)⟩,
    ⟨none, .bin 16 .add (.t 15) (.k (.int .i64 1))⟩,
    ⟨none, .mov 6 (.t 16)⟩]))
/-- spec.StoreTotal -/
def r163 : RF :=
 ⟨1, [.tmp 2, .tmp 3],
 .seq (.reg [⟨none, .locb 1 (.t 0)⟩,
  ⟨none, .mov 2 (.k (.int .u64 0))⟩,
  ⟨none, .mov 3 (.k (.int .u64 0))⟩])
 (.seq (.reg [⟨none, .mov 4 (.k (.int .u64 0))⟩,
  ⟨none, .mov 5 (.k (.int .u64 0))⟩])
 (.seq (.seq (.reg [⟨none, .load 7 1 3 true⟩,
   ⟨none, .call (some 8) 156 [(.t 7)] false⟩,
   ⟨none, .not 9 (.t 8)⟩])
  (.cond (.t 9)
  (.seq (.reg [⟨none, .mov 2 (.k (.int .u64 0))⟩,
    ⟨none, .mov 3 (.k (.int .u64 0))⟩])
   (.ret))
  (.skip)))
 (.seq (.seq (.reg [⟨none, .mov 6 (.k (.int .i64 0))⟩])
  (.block 0 (.loop [1, 4, 5, 6]
   r163L0)))
 (.seq (.reg [⟨none, .mov 29 (.t 4)⟩,
  ⟨none, .mov 30 (.t 5)⟩,
  ⟨none, .mov 2 (.t 29)⟩,
  ⟨none, .mov 3 (.t 30)⟩])
 (.ret)))))⟩
/-- spec.ExportShard -/
def r189 : RF :=
 ⟨2, [.cell 4 6 true, .tmp 5],
 .seq (.reg [⟨none, .locb 2 (.t 0)⟩,
  ⟨none, .loc 4 [.int .u64 0, .int .u64 0, .int .i64 0, .int .i64 0, .nil, .nil]⟩,
  ⟨none, .mov 5 (.k (.bool false))⟩])
 (.seq (.reg [⟨none, .load 7 2 3 true⟩,
  ⟨none, .mov 8 (.t 1)⟩,
  ⟨none, .call (some 9) 210 [(.t 7), (.t 8), (.k (.int .i64 1))] false⟩,
  ⟨none, .mov 6 (.t 9)⟩])
 (.seq (.seq (.reg [⟨none, .load 10 2 3 true⟩,
   ⟨none, .call (some 11) 156 [(.t 10)] false⟩,
   ⟨none, .not 12 (.t 11)⟩,
   ⟨none, .mov 13 (.t 12)⟩,
   ⟨some (13, false), .mov 14 (.t 6)⟩,
   ⟨some (13, false), .bin 15 .lss (.t 14) (.k (.int .i64 0))⟩,
   ⟨none, .pick 16 (.t 13) (.k (.bool true)) (.t 15)⟩])
  (.cond (.t 16)
  (.seq (.reg [⟨none, .build 17 [.int .u64 0, .int .u64 0, .int .i64 0, .int .i64 0, .nil, .nil] []⟩,
    ⟨none, .store 4 6 (.t 17)⟩,
    ⟨none, .mov 5 (.k (.bool false))⟩])
   (.ret))
  (.skip)))
 (.seq (.reg [⟨none, .fad 18 2 2⟩,
  ⟨none, .load 19 18 1 false⟩,
  ⟨none, .mov 20 (.t 6)⟩,
  ⟨none, .idx 21 16 (.t 19) (.t 20)⟩,
  ⟨none, .load 22 21 6 true⟩,
  ⟨none, .call (some 23) 228 [(.t 22)] false⟩,
  ⟨none, .store 4 6 (.t 23)⟩,
  ⟨none, .mov 5 (.k (.bool true))⟩])
 (.ret))))⟩
/-- A loop of spec.l13Shard. -/
def r204L0 : RC :=
 .seq (.seq (.reg [⟨none, .mov 80 (.t 5)⟩,
      ⟨none, .fad 81 1 4⟩,
      ⟨none, .fad 82 81 0⟩,
      ⟨none, .load 83 82 1 false⟩,
      ⟨none, .len 84 (.t 83)⟩,
      ⟨none, .bin 85 .lss (.t 80) (.t 84)⟩])
     (.cond (.t 85)
     (.skip)
     (.exit 2)))
    (.seq (.block 3 (.seq (.reg [⟨none, .fad 88 1 4⟩,
       ⟨none, .fad 89 88 0⟩,
       ⟨none, .load 90 89 1 false⟩,
       ⟨none, .mov 91 (.t 5)⟩,
       ⟨none, .idx 92 11 (.t 90) (.t 91)⟩,
       ⟨none, .load 93 92 5 true⟩,
       ⟨none, .loc 6 [.int .u64 0, .int .u64 0, .int .u64 0, .int .u64 0, .int .i64 0]⟩,
       ⟨none, .store 6 5 (.t 93)⟩])
      (.seq (.reg [⟨none, .fad 94 6 0⟩,
       ⟨none, .load 95 94 1 false⟩,
       ⟨none, .fad 96 1 0⟩,
       ⟨none, .load 97 96 1 false⟩,
       ⟨none, .bin 98 .lss (.t 95) (.t 97)⟩,
       ⟨none, .mov 99 (.t 98)⟩,
       ⟨some (99, false), .fad 100 6 0⟩,
       ⟨some (99, false), .load 101 100 1 false⟩,
       ⟨some (99, false), .fad 102 1 1⟩,
       ⟨some (99, false), .load 103 102 1 false⟩,
       ⟨some (99, false), .bin 104 .gtr (.t 101) (.t 103)⟩,
       ⟨none, .pick 105 (.t 99) (.k (.bool true)) (.t 104)⟩,
       ⟨none, .mov 106 (.t 105)⟩,
       ⟨some (106, false), .fad 107 1 5⟩,
       ⟨some (106, false), .load 108 107 1 false⟩,
       ⟨some (106, false), .fad 109 6 4⟩,
       ⟨some (106, false), .load 110 109 1 false⟩,
       ⟨some (106, false), .fad 111 6 0⟩,
       ⟨some (106, false), .load 112 111 1 false⟩,
       ⟨some (106, false), .build 113 [.int .i64 0, .int .u64 0] [(0, 1, (.t 110)), (1, 1, (.t 112))]⟩,
       ⟨some (106, false), .call (some 114) 243 [(.t 108), (.t 113)] false⟩,
       ⟨none, .pick 115 (.t 106) (.k (.bool true)) (.t 114)⟩])
      (.cond (.t 115)
      (.seq (.reg [⟨none, .mov 2 (.k (.bool false))⟩])
       (.ret))
      (.skip)))))
    (.reg [⟨none, .mov 86 (.t 5)⟩,
    ⟨none, .bin 87 .add (.t 86) (.k (.int .i64 1))⟩,
    ⟨none, .mov 5 (.t 87)⟩]))
/-- A loop of spec.l13Shard. -/
def r204L1 : RC :=
 .seq (.seq (.reg [⟨none, .mov 36 (.t 3)⟩,
      ⟨none, .fad 37 1 5⟩,
      ⟨none, .load 38 37 1 false⟩,
      ⟨none, .len 39 (.t 38)⟩,
      ⟨none, .bin 40 .lss (.t 36) (.t 39)⟩])
     (.cond (.t 40)
     (.skip)
     (.exit 0)))
    (.seq (.block 1 (.seq (.reg [⟨none, .fad 43 1 5⟩,
       ⟨none, .load 44 43 1 false⟩,
       ⟨none, .mov 45 (.t 3)⟩,
       ⟨none, .idx 46 9 (.t 44) (.t 45)⟩,
       ⟨none, .load 47 46 2 true⟩,
       ⟨none, .loc 4 [.int .i64 0, .int .u64 0]⟩,
       ⟨none, .store 4 2 (.t 47)⟩])
      (.seq (.reg [⟨none, .chk []⟩,
       ⟨none, .fad 48 4 0⟩,
       ⟨none, .load 49 48 1 false⟩,
       ⟨none, .bin 50 .lss (.t 49) (.k (.int .i64 1))⟩,
       ⟨none, .mov 51 (.t 50)⟩,
       ⟨some (51, false), .fad 52 4 1⟩,
       ⟨some (51, false), .load 53 52 1 false⟩,
       ⟨some (51, false), .fad 54 1 0⟩,
       ⟨some (51, false), .load 55 54 1 false⟩,
       ⟨some (51, false), .bin 56 .lss (.t 53) (.t 55)⟩,
       ⟨none, .pick 57 (.t 51) (.k (.bool true)) (.t 56)⟩,
       ⟨none, .mov 58 (.t 57)⟩,
       ⟨some (58, false), .fad 59 4 1⟩,
       ⟨some (58, false), .load 60 59 1 false⟩,
       ⟨some (58, false), .fad 61 1 1⟩,
       ⟨some (58, false), .load 62 61 1 false⟩,
       ⟨some (58, false), .bin 63 .gtr (.t 60) (.t 62)⟩,
       ⟨none, .pick 64 (.t 58) (.k (.bool true)) (.t 63)⟩,
       ⟨none, .mov 65 (.t 64)⟩,
       ⟨some (65, false), .mov 66 (.t 3)⟩,
       ⟨some (65, false), .bin 67 .gtr (.t 66) (.k (.int .i64 0))⟩,
       ⟨some (65, false), .mov 68 (.t 67)⟩,
       ⟨some (68, true), .mov 71 (.t 3)⟩,
       ⟨some (68, true), .bin 72 .sub (.t 71) (.k (.int .i64 1))⟩,
       ⟨some (68, true), .fad 69 1 5⟩,
       ⟨some (68, true), .load 70 69 1 false⟩,
       ⟨some (68, true), .idx 73 9 (.t 70) (.t 72)⟩,
       ⟨some (68, true), .load 74 73 2 true⟩,
       ⟨some (68, true), .load 75 4 2 true⟩,
       ⟨some (68, true), .call (some 76) 242 [(.t 74), (.t 75)] true⟩,
       ⟨some (68, true), .not 77 (.t 76)⟩,
       ⟨some (65, false), .pick 78 (.t 68) (.t 77) (.k (.bool false))⟩,
       ⟨none, .pick 79 (.t 65) (.k (.bool true)) (.t 78)⟩])
      (.cond (.t 79)
      (.seq (.reg [⟨none, .mov 2 (.k (.bool false))⟩])
       (.ret))
      (.skip)))))
    (.reg [⟨none, .mov 41 (.t 3)⟩,
    ⟨none, .bin 42 .add (.t 41) (.k (.int .i64 1))⟩,
    ⟨none, .mov 3 (.t 42)⟩]))
/-- spec.l13Shard -/
def r204 : RF :=
 ⟨1, [.tmp 2],
 .seq (.reg [⟨none, .locb 1 (.t 0)⟩,
  ⟨none, .mov 2 (.k (.bool false))⟩])
 (.seq (.seq (.reg [⟨none, .fad 7 1 0⟩,
   ⟨none, .load 8 7 1 false⟩,
   ⟨none, .fad 9 1 1⟩,
   ⟨none, .load 10 9 1 false⟩,
   ⟨none, .bin 11 .gtr (.t 8) (.t 10)⟩,
   ⟨none, .mov 12 (.t 11)⟩,
   ⟨some (12, false), .fad 13 1 2⟩,
   ⟨some (12, false), .load 14 13 1 false⟩,
   ⟨some (12, false), .call (some 15) 5 [(.t 14), (.k (.int .i64 0)), (.k (.int .i64 1))] false⟩,
   ⟨some (12, false), .not 16 (.t 15)⟩,
   ⟨none, .pick 17 (.t 12) (.k (.bool true)) (.t 16)⟩,
   ⟨none, .mov 18 (.t 17)⟩,
   ⟨some (18, false), .fad 19 1 3⟩,
   ⟨some (18, false), .load 20 19 1 false⟩,
   ⟨some (18, false), .call (some 21) 5 [(.t 20), (.k (.int .i64 1)), (.k (.int .i64 1000000))] false⟩,
   ⟨some (18, false), .not 22 (.t 21)⟩,
   ⟨none, .pick 23 (.t 18) (.k (.bool true)) (.t 22)⟩,
   ⟨none, .mov 24 (.t 23)⟩,
   ⟨some (24, false), .fad 25 1 4⟩,
   ⟨some (24, false), .load 26 25 1 true⟩,
   ⟨some (24, false), .call (some 27) 241 [(.t 26)] false⟩,
   ⟨some (24, false), .not 28 (.t 27)⟩,
   ⟨none, .pick 29 (.t 24) (.k (.bool true)) (.t 28)⟩,
   ⟨none, .mov 30 (.t 29)⟩,
   ⟨some (30, false), .fad 31 1 5⟩,
   ⟨some (30, false), .load 32 31 1 false⟩,
   ⟨some (30, false), .len 33 (.t 32)⟩,
   ⟨some (30, false), .bin 34 .gtr (.t 33) (.k (.int .i64 60))⟩,
   ⟨none, .pick 35 (.t 30) (.k (.bool true)) (.t 34)⟩])
  (.cond (.t 35)
  (.seq (.reg [⟨none, .mov 2 (.k (.bool false))⟩])
   (.ret))
  (.skip)))
 (.seq (.seq (.reg [⟨none, .mov 3 (.k (.int .i64 0))⟩])
  (.block 0 (.loop [1, 3]
   r204L1)))
 (.seq (.seq (.reg [⟨none, .mov 5 (.k (.int .i64 0))⟩])
  (.block 2 (.loop [1, 5]
   r204L0)))
 (.seq (.reg [⟨none, .mov 2 (.k (.bool true))⟩])
 (.ret)))))⟩
/-- spec.l13Add -/
def r208 : RF :=
 ⟨3, [.tmp 6, .tmp 7],
 .seq (.reg [⟨none, .locb 5 (.t 2)⟩,
  ⟨none, .mov 6 (.k (.int .u64 0))⟩,
  ⟨none, .mov 7 (.k (.int .u64 0))⟩])
 (.seq (.reg [⟨none, .load 11 5 1 true⟩,
  ⟨none, .call (some 12) 245 [(.t 11)] false⟩,
  ⟨none, .mov 10 (.t 12)⟩,
  ⟨none, .ext 13 (.t 10) 0⟩,
  ⟨none, .ext 14 (.t 10) 1⟩,
  ⟨none, .mov 8 (.t 13)⟩,
  ⟨none, .mov 9 (.t 14)⟩])
 (.seq (.seq (.reg [⟨none, .mov 15 (.t 9)⟩,
   ⟨none, .mov 16 (.t 1)⟩,
   ⟨none, .bin 17 .sub (.k (.int .u64 18446744073709551615)) (.t 16)⟩,
   ⟨none, .bin 18 .gtr (.t 15) (.t 17)⟩])
  (.cond (.t 18)
  (.reg [⟨none, .mov 19 (.t 0)⟩,
   ⟨none, .bin 20 .add (.t 19) (.k (.int .u64 1))⟩,
   ⟨none, .mov 0 (.t 20)⟩])
  (.skip)))
 (.seq (.reg [⟨none, .mov 21 (.t 0)⟩,
  ⟨none, .mov 22 (.t 8)⟩,
  ⟨none, .bin 23 .add (.t 21) (.t 22)⟩,
  ⟨none, .mov 24 (.t 1)⟩,
  ⟨none, .mov 25 (.t 9)⟩,
  ⟨none, .bin 26 .add (.t 24) (.t 25)⟩,
  ⟨none, .mov 6 (.t 23)⟩,
  ⟨none, .mov 7 (.t 26)⟩])
 (.ret))))⟩
/-- A loop of spec.l13At. -/
def r210L0 : RC :=
 .seq (.seq (.reg [⟨none, .mov 8 (.t 7)⟩,
      ⟨none, .fad 9 3 2⟩,
      ⟨none, .load 10 9 1 false⟩,
      ⟨none, .len 11 (.t 10)⟩,
      ⟨none, .bin 12 .lss (.t 8) (.t 11)⟩])
     (.cond (.t 12)
     (.skip)
     (.exit 0)))
    (.seq (.block 1 (.seq (.reg [⟨none, .fad 15 3 2⟩,
       ⟨none, .load 16 15 1 false⟩,
       ⟨none, .mov 17 (.t 7)⟩,
       ⟨none, .idx 18 16 (.t 16) (.t 17)⟩,
       ⟨none, .fad 19 18 0⟩,
       ⟨none, .load 20 19 1 false⟩,
       ⟨none, .mov 21 (.t 1)⟩,
       ⟨none, .bin 22 .eql (.t 20) (.t 21)⟩,
       ⟨none, .mov 23 (.t 22)⟩,
       ⟨some (23, true), .fad 24 3 2⟩,
       ⟨some (23, true), .load 25 24 1 false⟩,
       ⟨some (23, true), .mov 26 (.t 7)⟩,
       ⟨some (23, true), .idx 27 16 (.t 25) (.t 26)⟩,
       ⟨some (23, true), .fad 28 27 2⟩,
       ⟨some (23, true), .load 29 28 1 false⟩,
       ⟨some (23, true), .mov 30 (.t 2)⟩,
       ⟨some (23, true), .bin 31 .eql (.t 29) (.t 30)⟩,
       ⟨none, .pick 32 (.t 23) (.t 31) (.k (.bool false))⟩])
      (.cond (.t 32)
      (.seq (.reg [⟨none, .mov 33 (.t 7)⟩,
        ⟨none, .mov 6 (.t 33)⟩])
       (.ret))
      (.skip))))
    (.reg [⟨none, .mov 13 (.t 7)⟩,
    ⟨none, .bin 14 .add (.t 13) (.k (.int .i64 1))⟩,
    ⟨none, .mov 7 (.t 14)⟩]))
/-- spec.l13At -/
def r210 : RF :=
 ⟨3, [.tmp 6],
 .seq (.reg [⟨none, .locb 3 (.t 0)⟩,
  ⟨none, .mov 6 (.k (.int .i64 0))⟩])
 (.seq (.seq (.reg [⟨none, .mov 7 (.k (.int .i64 0))⟩])
  (.block 0 (.loop [1, 2, 3, 7]
   r210L0)))
 (.seq (.reg [⟨none, .mov 6 (.k (.int .i64 (-1)))⟩])
 (.ret)))⟩
/-- A loop of spec.l13Find. -/
def r211L0 : RC :=
 .seq (.seq (.reg [⟨none, .mov 6 (.t 5)⟩,
      ⟨none, .fad 7 2 2⟩,
      ⟨none, .load 8 7 1 false⟩,
      ⟨none, .len 9 (.t 8)⟩,
      ⟨none, .bin 10 .lss (.t 6) (.t 9)⟩])
     (.cond (.t 10)
     (.skip)
     (.exit 0)))
    (.seq (.block 1 (.seq (.reg [⟨none, .fad 13 2 2⟩,
       ⟨none, .load 14 13 1 false⟩,
       ⟨none, .mov 15 (.t 5)⟩,
       ⟨none, .idx 16 16 (.t 14) (.t 15)⟩,
       ⟨none, .fad 17 16 0⟩,
       ⟨none, .load 18 17 1 false⟩,
       ⟨none, .mov 19 (.t 1)⟩,
       ⟨none, .bin 20 .leq (.t 18) (.t 19)⟩,
       ⟨none, .mov 21 (.t 20)⟩,
       ⟨some (21, true), .mov 22 (.t 1)⟩,
       ⟨some (21, true), .fad 23 2 2⟩,
       ⟨some (21, true), .load 24 23 1 false⟩,
       ⟨some (21, true), .mov 25 (.t 5)⟩,
       ⟨some (21, true), .idx 26 16 (.t 24) (.t 25)⟩,
       ⟨some (21, true), .fad 27 26 1⟩,
       ⟨some (21, true), .load 28 27 1 false⟩,
       ⟨some (21, true), .bin 29 .leq (.t 22) (.t 28)⟩,
       ⟨none, .pick 30 (.t 21) (.t 29) (.k (.bool false))⟩])
      (.cond (.t 30)
      (.seq (.reg [⟨none, .mov 31 (.t 5)⟩,
        ⟨none, .mov 4 (.t 31)⟩])
       (.ret))
      (.skip))))
    (.reg [⟨none, .mov 11 (.t 5)⟩,
    ⟨none, .bin 12 .add (.t 11) (.k (.int .i64 1))⟩,
    ⟨none, .mov 5 (.t 12)⟩]))
/-- spec.l13Find -/
def r211 : RF :=
 ⟨2, [.tmp 4],
 .seq (.reg [⟨none, .locb 2 (.t 0)⟩,
  ⟨none, .mov 4 (.k (.int .i64 0))⟩])
 (.seq (.seq (.reg [⟨none, .mov 5 (.k (.int .i64 0))⟩])
  (.block 0 (.loop [1, 2, 5]
   r211L0)))
 (.seq (.reg [⟨none, .mov 4 (.k (.int .i64 (-1)))⟩])
 (.ret)))⟩
/-- A loop of spec.l13CopyShard. -/
def r228L0 : RC :=
 .seq (.seq (.reg [⟨none, .mov 10 (.t 4)⟩,
      ⟨none, .fad 11 1 5⟩,
      ⟨none, .load 12 11 1 false⟩,
      ⟨none, .len 13 (.t 12)⟩,
      ⟨none, .bin 14 .lss (.t 10) (.t 13)⟩])
     (.cond (.t 14)
     (.skip)
     (.exit 0)))
    (.seq (.block 1 (.reg [⟨none, .mov 17 (.t 3)⟩,
      ⟨none, .fad 18 1 5⟩,
      ⟨none, .load 19 18 1 false⟩,
      ⟨none, .mov 20 (.t 4)⟩,
      ⟨none, .idx 21 9 (.t 19) (.t 20)⟩,
      ⟨none, .load 22 21 2 true⟩,
      ⟨none, .lit 23 9 1 [.int .i64 0, .int .u64 0] [(0, (.t 22))]⟩,
      ⟨none, .app 24 9 16 (.t 17) (.t 23)⟩,
      ⟨none, .mov 3 (.t 24)⟩]))
    (.reg [⟨none, .mov 15 (.t 4)⟩,
    ⟨none, .bin 16 .add (.t 15) (.k (.int .i64 1))⟩,
    ⟨none, .mov 4 (.t 16)⟩]))
/-- spec.l13CopyShard -/
def r228 : RF :=
 ⟨1, [.cell 2 6 true],
 .seq (.reg [⟨none, .locb 1 (.t 0)⟩,
  ⟨none, .loc 2 [.int .u64 0, .int .u64 0, .int .i64 0, .int .i64 0, .nil, .nil]⟩])
 (.seq (.reg [⟨none, .fad 5 1 4⟩,
  ⟨none, .load 6 5 1 true⟩,
  ⟨none, .call (some 7) 259 [(.t 6)] false⟩,
  ⟨none, .fad 8 1 4⟩,
  ⟨none, .store 8 1 (.t 7)⟩])
 (.seq (.reg [⟨none, .lit 9 9 0 [.int .i64 0, .int .u64 0] []⟩,
  ⟨none, .mov 3 (.t 9)⟩])
 (.seq (.seq (.reg [⟨none, .mov 4 (.k (.int .i64 0))⟩])
  (.block 0 (.loop [1, 2, 3, 4]
   r228L0)))
 (.seq (.reg [⟨none, .mov 25 (.t 3)⟩,
  ⟨none, .fad 26 1 5⟩,
  ⟨none, .store 26 1 (.t 25)⟩])
 (.seq (.reg [⟨none, .load 27 1 6 true⟩,
  ⟨none, .store 2 6 (.t 27)⟩])
 (.ret))))))⟩
/-- spec.l13Before -/
def r242 : RF :=
 ⟨2, [.tmp 4],
 .seq (.reg [⟨none, .locb 2 (.t 0)⟩,
  ⟨none, .locb 3 (.t 1)⟩,
  ⟨none, .mov 4 (.k (.bool false))⟩])
 (.seq (.reg [⟨none, .fad 5 2 0⟩,
  ⟨none, .load 6 5 1 false⟩,
  ⟨none, .fad 7 3 0⟩,
  ⟨none, .load 8 7 1 false⟩,
  ⟨none, .bin 9 .lss (.t 6) (.t 8)⟩,
  ⟨none, .mov 10 (.t 9)⟩,
  ⟨some (10, false), .fad 11 2 0⟩,
  ⟨some (10, false), .load 12 11 1 false⟩,
  ⟨some (10, false), .fad 13 3 0⟩,
  ⟨some (10, false), .load 14 13 1 false⟩,
  ⟨some (10, false), .bin 15 .eql (.t 12) (.t 14)⟩,
  ⟨some (10, false), .mov 16 (.t 15)⟩,
  ⟨some (16, true), .fad 17 2 1⟩,
  ⟨some (16, true), .load 18 17 1 false⟩,
  ⟨some (16, true), .fad 19 3 1⟩,
  ⟨some (16, true), .load 20 19 1 false⟩,
  ⟨some (16, true), .bin 21 .lss (.t 18) (.t 20)⟩,
  ⟨some (10, false), .pick 22 (.t 16) (.t 21) (.k (.bool false))⟩,
  ⟨none, .pick 23 (.t 10) (.k (.bool true)) (.t 22)⟩,
  ⟨none, .mov 4 (.t 23)⟩])
 (.ret))⟩
/-- A loop of spec.l13Has. -/
def r243L0 : RC :=
 .seq (.seq (.reg [⟨none, .mov 6 (.t 5)⟩,
      ⟨none, .mov 7 (.t 0)⟩,
      ⟨none, .len 8 (.t 7)⟩,
      ⟨none, .bin 9 .lss (.t 6) (.t 8)⟩])
     (.cond (.t 9)
     (.skip)
     (.exit 0)))
    (.seq (.block 1 (.seq (.reg [⟨none, .chk []⟩,
       ⟨none, .mov 12 (.t 0)⟩,
       ⟨none, .mov 13 (.t 5)⟩,
       ⟨none, .idx 14 9 (.t 12) (.t 13)⟩,
       ⟨none, .load 15 14 2 true⟩,
       ⟨none, .load 16 3 2 true⟩,
       ⟨none, .eqs 17 false [.i .i64, .i .u64] (.t 15) (.t 16)⟩])
      (.cond (.t 17)
      (.seq (.reg [⟨none, .mov 4 (.k (.bool true))⟩])
       (.ret))
      (.skip))))
    (.reg [⟨none, .mov 10 (.t 5)⟩,
    ⟨none, .bin 11 .add (.t 10) (.k (.int .i64 1))⟩,
    ⟨none, .mov 5 (.t 11)⟩]))
/-- spec.l13Has -/
def r243 : RF :=
 ⟨2, [.tmp 4],
 .seq (.reg [⟨none, .locb 3 (.t 1)⟩,
  ⟨none, .mov 4 (.k (.bool false))⟩])
 (.seq (.seq (.reg [⟨none, .mov 5 (.k (.int .i64 0))⟩])
  (.block 0 (.loop [0, 3, 5]
   r243L0)))
 (.seq (.reg [⟨none, .mov 4 (.k (.bool false))⟩])
 (.ret)))⟩
/-- spec.RenewStore -/
def r290 : RF :=
 ⟨2, [.cell 4 3 true, .tmp 5],
 .seq (.reg [⟨none, .locb 2 (.t 0)⟩,
  ⟨none, .loc 4 [.int .i64 0, .int .i64 0, .nil]⟩,
  ⟨none, .mov 5 (.k (.bool false))⟩])
 (.seq (.seq (.reg [⟨none, .load 6 2 3 true⟩,
   ⟨none, .mov 7 (.t 1)⟩,
   ⟨none, .call (some 8) 316 [(.t 6), (.t 7)] false⟩,
   ⟨none, .not 9 (.t 8)⟩])
  (.cond (.t 9)
  (.seq (.reg [⟨none, .load 10 2 3 true⟩,
    ⟨none, .call (some 11) 317 [(.t 10)] false⟩,
    ⟨none, .store 4 3 (.t 11)⟩,
    ⟨none, .mov 5 (.k (.bool false))⟩])
   (.ret))
  (.skip)))
 (.seq (.reg [⟨none, .load 12 2 3 true⟩,
  ⟨none, .mov 13 (.t 1)⟩,
  ⟨none, .call (some 14) 318 [(.t 12), (.t 13)] false⟩,
  ⟨none, .store 4 3 (.t 14)⟩,
  ⟨none, .mov 5 (.k (.bool true))⟩])
 (.ret)))⟩
/-- A loop of spec.RetireShard. -/
def r297L0 : RC :=
 .seq (.seq (.reg [⟨none, .mov 38 (.t 10)⟩,
      ⟨none, .fad 39 3 2⟩,
      ⟨none, .load 40 39 1 false⟩,
      ⟨none, .len 41 (.t 40)⟩,
      ⟨none, .bin 42 .lss (.t 38) (.t 41)⟩])
     (.cond (.t 42)
     (.skip)
     (.exit 0)))
    (.seq (.block 1 (.seq (.reg [⟨none, .mov 45 (.t 10)⟩,
       ⟨none, .mov 46 (.t 8)⟩,
       ⟨none, .bin 47 .neq (.t 45) (.t 46)⟩])
      (.cond (.t 47)
      (.reg [⟨none, .chk []⟩,
       ⟨none, .mov 52 (.t 10)⟩,
       ⟨none, .fad 48 9 2⟩,
       ⟨none, .load 49 48 1 false⟩,
       ⟨none, .fad 50 3 2⟩,
       ⟨none, .load 51 50 1 false⟩,
       ⟨none, .idx 53 16 (.t 51) (.t 52)⟩,
       ⟨none, .load 54 53 6 true⟩,
       ⟨none, .call (some 55) 228 [(.t 54)] true⟩,
       ⟨none, .lit 56 16 1 [.int .u64 0, .int .u64 0, .int .i64 0, .int .i64 0, .nil, .nil] [(0, (.t 55))]⟩,
       ⟨none, .app 57 16 80 (.t 49) (.t 56)⟩,
       ⟨none, .fad 58 9 2⟩,
       ⟨none, .store 58 1 (.t 57)⟩])
      (.skip))))
    (.reg [⟨none, .mov 43 (.t 10)⟩,
    ⟨none, .bin 44 .add (.t 43) (.k (.int .i64 1))⟩,
    ⟨none, .mov 10 (.t 44)⟩]))
/-- spec.RetireShard -/
def r297 : RF :=
 ⟨3, [.cell 6 3 true, .tmp 7],
 .seq (.reg [⟨none, .locb 3 (.t 0)⟩,
  ⟨none, .loc 6 [.int .i64 0, .int .i64 0, .nil]⟩,
  ⟨none, .mov 7 (.k (.bool false))⟩])
 (.seq (.reg [⟨none, .load 11 3 3 true⟩,
  ⟨none, .mov 12 (.t 1)⟩,
  ⟨none, .call (some 13) 210 [(.t 11), (.t 12), (.k (.int .i64 1))] false⟩,
  ⟨none, .mov 8 (.t 13)⟩])
 (.seq (.seq (.reg [⟨none, .load 14 3 3 true⟩,
   ⟨none, .call (some 15) 156 [(.t 14)] false⟩,
   ⟨none, .not 16 (.t 15)⟩,
   ⟨none, .mov 17 (.t 16)⟩,
   ⟨some (17, false), .mov 18 (.t 8)⟩,
   ⟨some (17, false), .bin 19 .lss (.t 18) (.k (.int .i64 0))⟩,
   ⟨none, .pick 20 (.t 17) (.k (.bool true)) (.t 19)⟩,
   ⟨none, .mov 21 (.t 20)⟩,
   ⟨some (21, false), .fad 22 3 2⟩,
   ⟨some (21, false), .load 23 22 1 false⟩,
   ⟨some (21, false), .mov 24 (.t 8)⟩,
   ⟨some (21, false), .idx 25 16 (.t 23) (.t 24)⟩,
   ⟨some (21, false), .fad 26 25 3⟩,
   ⟨some (21, false), .load 27 26 1 false⟩,
   ⟨some (21, false), .mov 28 (.t 2)⟩,
   ⟨some (21, false), .bin 29 .neq (.t 27) (.t 28)⟩,
   ⟨none, .pick 30 (.t 21) (.k (.bool true)) (.t 29)⟩])
  (.cond (.t 30)
  (.seq (.reg [⟨none, .load 31 3 3 true⟩,
    ⟨none, .call (some 32) 317 [(.t 31)] false⟩,
    ⟨none, .store 6 3 (.t 32)⟩,
    ⟨none, .mov 7 (.k (.bool false))⟩])
   (.ret))
  (.skip)))
 (.seq (.reg [⟨none, .fad 33 3 0⟩,
  ⟨none, .load 34 33 1 false⟩,
  ⟨none, .fad 35 3 1⟩,
  ⟨none, .load 36 35 1 false⟩,
  ⟨none, .build 37 [.int .i64 0, .int .i64 0, .nil] [(0, 1, (.t 34)), (1, 1, (.t 36))]⟩,
  ⟨none, .loc 9 [.int .i64 0, .int .i64 0, .nil]⟩,
  ⟨none, .store 9 3 (.t 37)⟩])
 (.seq (.seq (.reg [⟨none, .mov 10 (.k (.int .i64 0))⟩])
  (.block 0 (.loop [3, 6, 8, 9, 10]
   r297L0)))
 (.seq (.reg [⟨none, .load 59 9 3 true⟩,
  ⟨none, .store 6 3 (.t 59)⟩,
  ⟨none, .mov 7 (.k (.bool true))⟩])
 (.ret))))))⟩
/-- spec.FreezeShard -/
def r300 : RF :=
 ⟨3, [.cell 6 3 true, .tmp 7],
 .seq (.reg [⟨none, .locb 3 (.t 0)⟩,
  ⟨none, .loc 6 [.int .i64 0, .int .i64 0, .nil]⟩,
  ⟨none, .mov 7 (.k (.bool false))⟩])
 (.seq (.reg [⟨none, .load 10 3 3 true⟩,
  ⟨none, .call (some 11) 317 [(.t 10)] false⟩,
  ⟨none, .loc 8 [.int .i64 0, .int .i64 0, .nil]⟩,
  ⟨none, .store 8 3 (.t 11)⟩])
 (.seq (.reg [⟨none, .load 12 3 3 true⟩,
  ⟨none, .mov 13 (.t 1)⟩,
  ⟨none, .call (some 14) 210 [(.t 12), (.t 13), (.k (.int .i64 0))] false⟩,
  ⟨none, .mov 9 (.t 14)⟩])
 (.seq (.seq (.reg [⟨none, .load 15 3 3 true⟩,
   ⟨none, .mov 16 (.t 2)⟩,
   ⟨none, .call (some 17) 316 [(.t 15), (.t 16)] false⟩,
   ⟨none, .not 18 (.t 17)⟩,
   ⟨none, .mov 19 (.t 18)⟩,
   ⟨some (19, false), .mov 20 (.t 9)⟩,
   ⟨some (19, false), .bin 21 .lss (.t 20) (.k (.int .i64 0))⟩,
   ⟨none, .pick 22 (.t 19) (.k (.bool true)) (.t 21)⟩])
  (.cond (.t 22)
  (.seq (.reg [⟨none, .load 23 8 3 true⟩,
    ⟨none, .store 6 3 (.t 23)⟩,
    ⟨none, .mov 7 (.k (.bool false))⟩])
   (.ret))
  (.skip)))
 (.seq (.reg [⟨none, .fad 24 8 2⟩,
  ⟨none, .load 25 24 1 false⟩,
  ⟨none, .mov 26 (.t 9)⟩,
  ⟨none, .idx 27 16 (.t 25) (.t 26)⟩,
  ⟨none, .fad 28 27 2⟩,
  ⟨none, .store 28 1 (.k (.int .i64 1))⟩])
 (.seq (.reg [⟨none, .fad 29 8 2⟩,
  ⟨none, .load 30 29 1 false⟩,
  ⟨none, .mov 31 (.t 9)⟩,
  ⟨none, .mov 32 (.t 2)⟩,
  ⟨none, .idx 33 16 (.t 30) (.t 31)⟩,
  ⟨none, .fad 34 33 3⟩,
  ⟨none, .store 34 1 (.t 32)⟩])
 (.seq (.reg [⟨none, .load 35 8 3 true⟩,
  ⟨none, .mov 36 (.t 2)⟩,
  ⟨none, .call (some 37) 318 [(.t 35), (.t 36)] false⟩,
  ⟨none, .store 6 3 (.t 37)⟩,
  ⟨none, .mov 7 (.k (.bool true))⟩])
 (.ret)))))))⟩
/-- A loop of spec.InstallShard. -/
def r308L0 : RC :=
 .seq (.seq (.reg [⟨none, .mov 79 (.t 12)⟩,
      ⟨none, .fad 80 3 2⟩,
      ⟨none, .load 81 80 1 false⟩,
      ⟨none, .len 82 (.t 81)⟩,
      ⟨none, .bin 83 .lss (.t 79) (.t 82)⟩])
     (.cond (.t 83)
     (.skip)
     (.exit 2)))
    (.seq (.block 3 (.seq (.seq (.reg [⟨none, .chk []⟩,
        ⟨none, .mov 86 (.t 11)⟩,
        ⟨none, .not 87 (.t 86)⟩,
        ⟨none, .mov 88 (.t 87)⟩,
        ⟨some (88, true), .mov 91 (.t 12)⟩,
        ⟨some (88, true), .fad 89 3 2⟩,
        ⟨some (88, true), .load 90 89 1 false⟩,
        ⟨some (88, true), .idx 92 16 (.t 90) (.t 91)⟩,
        ⟨some (88, true), .fad 93 92 0⟩,
        ⟨some (88, true), .load 94 93 1 false⟩,
        ⟨some (88, true), .fad 95 10 0⟩,
        ⟨some (88, true), .load 96 95 1 false⟩,
        ⟨some (88, true), .bin 97 .gtr (.t 94) (.t 96)⟩,
        ⟨none, .pick 98 (.t 88) (.t 97) (.k (.bool false))⟩])
       (.cond (.t 98)
       (.seq (.reg [⟨none, .fad 99 9 2⟩,
         ⟨none, .load 100 99 1 false⟩,
         ⟨none, .load 101 10 6 true⟩,
         ⟨none, .lit 102 16 1 [.int .u64 0, .int .u64 0, .int .i64 0, .int .i64 0, .nil, .nil] [(0, (.t 101))]⟩,
         ⟨none, .app 103 16 80 (.t 100) (.t 102)⟩,
         ⟨none, .fad 104 9 2⟩,
         ⟨none, .store 104 1 (.t 103)⟩])
        (.reg [⟨none, .mov 11 (.k (.bool true))⟩]))
       (.skip)))
      (.reg [⟨none, .chk []⟩,
      ⟨none, .mov 109 (.t 12)⟩,
      ⟨none, .fad 105 9 2⟩,
      ⟨none, .load 106 105 1 false⟩,
      ⟨none, .fad 107 3 2⟩,
      ⟨none, .load 108 107 1 false⟩,
      ⟨none, .idx 110 16 (.t 108) (.t 109)⟩,
      ⟨none, .load 111 110 6 true⟩,
      ⟨none, .call (some 112) 228 [(.t 111)] true⟩,
      ⟨none, .lit 113 16 1 [.int .u64 0, .int .u64 0, .int .i64 0, .int .i64 0, .nil, .nil] [(0, (.t 112))]⟩,
      ⟨none, .app 114 16 80 (.t 106) (.t 113)⟩,
      ⟨none, .fad 115 9 2⟩,
      ⟨none, .store 115 1 (.t 114)⟩])))
    (.reg [⟨none, .mov 84 (.t 12)⟩,
    ⟨none, .bin 85 .add (.t 84) (.k (.int .i64 1))⟩,
    ⟨none, .mov 12 (.t 85)⟩]))
/-- A loop of spec.InstallShard. -/
def r308L1 : RC :=
 .seq (.seq (.reg [⟨none, .mov 41 (.t 8)⟩,
      ⟨none, .fad 42 3 2⟩,
      ⟨none, .load 43 42 1 false⟩,
      ⟨none, .len 44 (.t 43)⟩,
      ⟨none, .bin 45 .lss (.t 41) (.t 44)⟩])
     (.cond (.t 45)
     (.skip)
     (.exit 0)))
    (.seq (.block 1 (.seq (.reg [⟨none, .chk []⟩,
       ⟨none, .mov 50 (.t 8)⟩,
       ⟨none, .fad 48 3 2⟩,
       ⟨none, .load 49 48 1 false⟩,
       ⟨none, .idx 51 16 (.t 49) (.t 50)⟩,
       ⟨none, .fad 52 51 0⟩,
       ⟨none, .load 53 52 1 false⟩,
       ⟨none, .fad 54 4 1⟩,
       ⟨none, .load 55 54 1 false⟩,
       ⟨none, .bin 56 .leq (.t 53) (.t 55)⟩,
       ⟨none, .mov 57 (.t 56)⟩,
       ⟨some (57, true), .mov 62 (.t 8)⟩,
       ⟨some (57, true), .fad 58 4 0⟩,
       ⟨some (57, true), .load 59 58 1 false⟩,
       ⟨some (57, true), .fad 60 3 2⟩,
       ⟨some (57, true), .load 61 60 1 false⟩,
       ⟨some (57, true), .idx 63 16 (.t 61) (.t 62)⟩,
       ⟨some (57, true), .fad 64 63 1⟩,
       ⟨some (57, true), .load 65 64 1 false⟩,
       ⟨some (57, true), .bin 66 .leq (.t 59) (.t 65)⟩,
       ⟨none, .pick 67 (.t 57) (.t 66) (.k (.bool false))⟩])
      (.cond (.t 67)
      (.seq (.reg [⟨none, .load 68 3 3 true⟩,
        ⟨none, .call (some 69) 317 [(.t 68)] false⟩,
        ⟨none, .store 6 3 (.t 69)⟩,
        ⟨none, .mov 7 (.k (.bool false))⟩])
       (.ret))
      (.skip))))
    (.reg [⟨none, .mov 46 (.t 8)⟩,
    ⟨none, .bin 47 .add (.t 46) (.k (.int .i64 1))⟩,
    ⟨none, .mov 8 (.t 47)⟩]))
/-- spec.InstallShard -/
def r308 : RF :=
 ⟨3, [.cell 6 3 true, .tmp 7],
 .seq (.reg [⟨none, .locb 3 (.t 0)⟩,
  ⟨none, .locb 4 (.t 1)⟩,
  ⟨none, .loc 6 [.int .i64 0, .int .i64 0, .nil]⟩,
  ⟨none, .mov 7 (.k (.bool false))⟩])
 (.seq (.seq (.reg [⟨none, .load 13 3 3 true⟩,
   ⟨none, .mov 14 (.t 2)⟩,
   ⟨none, .call (some 15) 316 [(.t 13), (.t 14)] false⟩,
   ⟨none, .not 16 (.t 15)⟩,
   ⟨none, .mov 17 (.t 16)⟩,
   ⟨some (17, false), .load 18 4 6 true⟩,
   ⟨some (17, false), .call (some 19) 204 [(.t 18)] false⟩,
   ⟨some (17, false), .not 20 (.t 19)⟩,
   ⟨none, .pick 21 (.t 17) (.k (.bool true)) (.t 20)⟩,
   ⟨none, .mov 22 (.t 21)⟩,
   ⟨some (22, false), .fad 23 4 2⟩,
   ⟨some (22, false), .load 24 23 1 false⟩,
   ⟨some (22, false), .bin 25 .neq (.t 24) (.k (.int .i64 1))⟩,
   ⟨none, .pick 26 (.t 22) (.k (.bool true)) (.t 25)⟩,
   ⟨none, .mov 27 (.t 26)⟩,
   ⟨some (27, false), .mov 28 (.t 2)⟩,
   ⟨some (27, false), .fad 29 4 3⟩,
   ⟨some (27, false), .load 30 29 1 false⟩,
   ⟨some (27, false), .bin 31 .leq (.t 28) (.t 30)⟩,
   ⟨none, .pick 32 (.t 27) (.k (.bool true)) (.t 31)⟩,
   ⟨none, .mov 33 (.t 32)⟩,
   ⟨some (33, false), .fad 34 3 2⟩,
   ⟨some (33, false), .load 35 34 1 false⟩,
   ⟨some (33, false), .len 36 (.t 35)⟩,
   ⟨some (33, false), .bin 37 .eql (.t 36) (.k (.int .i64 8))⟩,
   ⟨none, .pick 38 (.t 33) (.k (.bool true)) (.t 37)⟩])
  (.cond (.t 38)
  (.seq (.reg [⟨none, .load 39 3 3 true⟩,
    ⟨none, .call (some 40) 317 [(.t 39)] false⟩,
    ⟨none, .store 6 3 (.t 40)⟩,
    ⟨none, .mov 7 (.k (.bool false))⟩])
   (.ret))
  (.skip)))
 (.seq (.seq (.reg [⟨none, .mov 8 (.k (.int .i64 0))⟩])
  (.block 0 (.loop [2, 3, 4, 6, 8]
   r308L1)))
 (.seq (.reg [⟨none, .fad 70 3 0⟩,
  ⟨none, .load 71 70 1 false⟩,
  ⟨none, .mov 72 (.t 2)⟩,
  ⟨none, .build 73 [.int .i64 0, .int .i64 0, .nil] [(0, 1, (.t 71)), (1, 1, (.t 72))]⟩,
  ⟨none, .loc 9 [.int .i64 0, .int .i64 0, .nil]⟩,
  ⟨none, .store 9 3 (.t 73)⟩])
 (.seq (.reg [⟨none, .load 74 4 6 true⟩,
  ⟨none, .call (some 75) 228 [(.t 74)] false⟩,
  ⟨none, .loc 10 [.int .u64 0, .int .u64 0, .int .i64 0, .int .i64 0, .nil, .nil]⟩,
  ⟨none, .store 10 6 (.t 75)⟩])
 (.seq (.reg [⟨none, .fad 76 10 2⟩,
  ⟨none, .store 76 1 (.k (.int .i64 0))⟩])
 (.seq (.reg [⟨none, .mov 77 (.t 2)⟩,
  ⟨none, .fad 78 10 3⟩,
  ⟨none, .store 78 1 (.t 77)⟩])
 (.seq (.reg [⟨none, .mov 11 (.k (.bool false))⟩])
 (.seq (.seq (.reg [⟨none, .mov 12 (.k (.int .i64 0))⟩])
  (.block 2 (.loop [2, 3, 6, 9, 10, 11, 12]
   r308L0)))
 (.seq (.seq (.reg [⟨none, .mov 116 (.t 11)⟩,
   ⟨none, .not 117 (.t 116)⟩])
  (.cond (.t 117)
  (.reg [⟨none, .fad 118 9 2⟩,
   ⟨none, .load 119 118 1 false⟩,
   ⟨none, .load 120 10 6 true⟩,
   ⟨none, .lit 121 16 1 [.int .u64 0, .int .u64 0, .int .i64 0, .int .i64 0, .nil, .nil] [(0, (.t 120))]⟩,
   ⟨none, .app 122 16 80 (.t 119) (.t 121)⟩,
   ⟨none, .fad 123 9 2⟩,
   ⟨none, .store 123 1 (.t 122)⟩])
  (.skip)))
 (.seq (.reg [⟨none, .load 124 9 3 true⟩,
  ⟨none, .mov 125 (.t 2)⟩,
  ⟨none, .call (some 126) 318 [(.t 124), (.t 125)] false⟩,
  ⟨none, .store 6 3 (.t 126)⟩,
  ⟨none, .mov 7 (.k (.bool true))⟩])
 (.ret)))))))))))⟩
/-- A loop of spec.CutShard. -/
def r311L0 : RC :=
 .seq (.seq (.reg [⟨none, .mov 54 (.t 10)⟩,
      ⟨none, .fad 55 3 2⟩,
      ⟨none, .load 56 55 1 false⟩,
      ⟨none, .len 57 (.t 56)⟩,
      ⟨none, .bin 58 .lss (.t 54) (.t 57)⟩])
     (.cond (.t 58)
     (.skip)
     (.exit 0)))
    (.seq (.block 1 (.seq (.reg [⟨none, .fad 61 3 2⟩,
       ⟨none, .load 62 61 1 false⟩,
       ⟨none, .mov 63 (.t 10)⟩,
       ⟨none, .idx 64 16 (.t 62) (.t 63)⟩,
       ⟨none, .load 65 64 6 true⟩,
       ⟨none, .loc 11 [.int .u64 0, .int .u64 0, .int .i64 0, .int .i64 0, .nil, .nil]⟩,
       ⟨none, .store 11 6 (.t 65)⟩])
      (.seq (.reg [⟨none, .mov 66 (.t 10)⟩,
       ⟨none, .mov 67 (.t 8)⟩,
       ⟨none, .bin 68 .eql (.t 66) (.t 67)⟩])
      (.cond (.t 68)
      (.seq (.reg [⟨none, .chk []⟩,
        ⟨none, .mov 74 (.t 1)⟩,
        ⟨none, .bin 75 .sub (.t 74) (.k (.int .u64 1))⟩,
        ⟨none, .mov 76 (.t 2)⟩,
        ⟨none, .fad 69 9 2⟩,
        ⟨none, .load 70 69 1 false⟩,
        ⟨none, .load 71 11 6 true⟩,
        ⟨none, .fad 72 11 0⟩,
        ⟨none, .load 73 72 1 false⟩,
        ⟨none, .call (some 77) 333 [(.t 71), (.t 73), (.t 75), (.t 76)] true⟩,
        ⟨none, .lit 78 16 1 [.int .u64 0, .int .u64 0, .int .i64 0, .int .i64 0, .nil, .nil] [(0, (.t 77))]⟩,
        ⟨none, .app 79 16 80 (.t 70) (.t 78)⟩,
        ⟨none, .fad 80 9 2⟩,
        ⟨none, .store 80 1 (.t 79)⟩])
       (.reg [⟨none, .chk []⟩,
       ⟨none, .mov 84 (.t 1)⟩,
       ⟨none, .mov 87 (.t 2)⟩,
       ⟨none, .fad 81 9 2⟩,
       ⟨none, .load 82 81 1 false⟩,
       ⟨none, .load 83 11 6 true⟩,
       ⟨none, .fad 85 11 1⟩,
       ⟨none, .load 86 85 1 false⟩,
       ⟨none, .call (some 88) 333 [(.t 83), (.t 84), (.t 86), (.t 87)] true⟩,
       ⟨none, .lit 89 16 1 [.int .u64 0, .int .u64 0, .int .i64 0, .int .i64 0, .nil, .nil] [(0, (.t 88))]⟩,
       ⟨none, .app 90 16 80 (.t 82) (.t 89)⟩,
       ⟨none, .fad 91 9 2⟩,
       ⟨none, .store 91 1 (.t 90)⟩]))
      (.reg [⟨none, .chk []⟩,
       ⟨none, .fad 92 9 2⟩,
       ⟨none, .load 93 92 1 false⟩,
       ⟨none, .load 94 11 6 true⟩,
       ⟨none, .call (some 95) 228 [(.t 94)] true⟩,
       ⟨none, .lit 96 16 1 [.int .u64 0, .int .u64 0, .int .i64 0, .int .i64 0, .nil, .nil] [(0, (.t 95))]⟩,
       ⟨none, .app 97 16 80 (.t 93) (.t 96)⟩,
       ⟨none, .fad 98 9 2⟩,
       ⟨none, .store 98 1 (.t 97)⟩])))))
    (.reg [⟨none, .mov 59 (.t 10)⟩,
    ⟨none, .bin 60 .add (.t 59) (.k (.int .i64 1))⟩,
    ⟨none, .mov 10 (.t 60)⟩]))
/-- spec.CutShard -/
def r311 : RF :=
 ⟨3, [.cell 6 3 true, .tmp 7],
 .seq (.reg [⟨none, .locb 3 (.t 0)⟩,
  ⟨none, .loc 6 [.int .i64 0, .int .i64 0, .nil]⟩,
  ⟨none, .mov 7 (.k (.bool false))⟩])
 (.seq (.reg [⟨none, .load 12 3 3 true⟩,
  ⟨none, .mov 13 (.t 1)⟩,
  ⟨none, .call (some 14) 211 [(.t 12), (.t 13)] false⟩,
  ⟨none, .mov 8 (.t 14)⟩])
 (.seq (.seq (.reg [⟨none, .load 15 3 3 true⟩,
   ⟨none, .mov 16 (.t 2)⟩,
   ⟨none, .call (some 17) 316 [(.t 15), (.t 16)] false⟩,
   ⟨none, .not 18 (.t 17)⟩,
   ⟨none, .mov 19 (.t 18)⟩,
   ⟨some (19, false), .mov 20 (.t 8)⟩,
   ⟨some (19, false), .bin 21 .lss (.t 20) (.k (.int .i64 0))⟩,
   ⟨none, .pick 22 (.t 19) (.k (.bool true)) (.t 21)⟩,
   ⟨none, .mov 23 (.t 22)⟩,
   ⟨some (23, false), .fad 24 3 2⟩,
   ⟨some (23, false), .load 25 24 1 false⟩,
   ⟨some (23, false), .mov 26 (.t 8)⟩,
   ⟨some (23, false), .idx 27 16 (.t 25) (.t 26)⟩,
   ⟨some (23, false), .fad 28 27 0⟩,
   ⟨some (23, false), .load 29 28 1 false⟩,
   ⟨some (23, false), .mov 30 (.t 1)⟩,
   ⟨some (23, false), .bin 31 .eql (.t 29) (.t 30)⟩,
   ⟨none, .pick 32 (.t 23) (.k (.bool true)) (.t 31)⟩,
   ⟨none, .mov 33 (.t 32)⟩,
   ⟨some (33, false), .fad 34 3 2⟩,
   ⟨some (33, false), .load 35 34 1 false⟩,
   ⟨some (33, false), .mov 36 (.t 8)⟩,
   ⟨some (33, false), .idx 37 16 (.t 35) (.t 36)⟩,
   ⟨some (33, false), .fad 38 37 2⟩,
   ⟨some (33, false), .load 39 38 1 false⟩,
   ⟨some (33, false), .bin 40 .neq (.t 39) (.k (.int .i64 0))⟩,
   ⟨none, .pick 41 (.t 33) (.k (.bool true)) (.t 40)⟩,
   ⟨none, .mov 42 (.t 41)⟩,
   ⟨some (42, false), .fad 43 3 2⟩,
   ⟨some (42, false), .load 44 43 1 false⟩,
   ⟨some (42, false), .len 45 (.t 44)⟩,
   ⟨some (42, false), .bin 46 .eql (.t 45) (.k (.int .i64 8))⟩,
   ⟨none, .pick 47 (.t 42) (.k (.bool true)) (.t 46)⟩])
  (.cond (.t 47)
  (.seq (.reg [⟨none, .load 48 3 3 true⟩,
    ⟨none, .call (some 49) 317 [(.t 48)] false⟩,
    ⟨none, .store 6 3 (.t 49)⟩,
    ⟨none, .mov 7 (.k (.bool false))⟩])
   (.ret))
  (.skip)))
 (.seq (.reg [⟨none, .fad 50 3 0⟩,
  ⟨none, .load 51 50 1 false⟩,
  ⟨none, .mov 52 (.t 2)⟩,
  ⟨none, .build 53 [.int .i64 0, .int .i64 0, .nil] [(0, 1, (.t 51)), (1, 1, (.t 52))]⟩,
  ⟨none, .loc 9 [.int .i64 0, .int .i64 0, .nil]⟩,
  ⟨none, .store 9 3 (.t 53)⟩])
 (.seq (.seq (.reg [⟨none, .mov 10 (.k (.int .i64 0))⟩])
  (.block 0 (.loop [1, 2, 3, 6, 8, 9, 10]
   r311L0)))
 (.seq (.reg [⟨none, .load 99 9 3 true⟩,
  ⟨none, .mov 100 (.t 2)⟩,
  ⟨none, .call (some 101) 318 [(.t 99), (.t 100)] false⟩,
  ⟨none, .store 6 3 (.t 101)⟩,
  ⟨none, .mov 7 (.k (.bool true))⟩])
 (.ret))))))⟩
/-- spec.l13Next -/
def r316 : RF :=
 ⟨2, [.tmp 4],
 .seq (.reg [⟨none, .locb 2 (.t 0)⟩,
  ⟨none, .mov 4 (.k (.bool false))⟩])
 (.seq (.reg [⟨none, .load 5 2 3 true⟩,
  ⟨none, .call (some 6) 156 [(.t 5)] false⟩,
  ⟨none, .mov 7 (.t 6)⟩,
  ⟨some (7, true), .mov 8 (.t 1)⟩,
  ⟨some (7, true), .fad 9 2 1⟩,
  ⟨some (7, true), .load 10 9 1 false⟩,
  ⟨some (7, true), .bin 11 .add (.t 10) (.k (.int .i64 1))⟩,
  ⟨some (7, true), .call (some 12) 5 [(.t 8), (.t 11), (.k (.int .i64 1000000))] false⟩,
  ⟨none, .pick 13 (.t 7) (.t 12) (.k (.bool false))⟩,
  ⟨none, .mov 4 (.t 13)⟩])
 (.ret))⟩
/-- A loop of spec.l13Copy. -/
def r317L0 : RC :=
 .seq (.seq (.reg [⟨none, .mov 10 (.t 4)⟩,
      ⟨none, .fad 11 1 2⟩,
      ⟨none, .load 12 11 1 false⟩,
      ⟨none, .len 13 (.t 12)⟩,
      ⟨none, .bin 14 .lss (.t 10) (.t 13)⟩])
     (.cond (.t 14)
     (.skip)
     (.exit 0)))
    (.seq (.block 1 (.reg [⟨none, .chk []⟩,
      ⟨none, .mov 21 (.t 4)⟩,
      ⟨none, .fad 17 3 2⟩,
      ⟨none, .load 18 17 1 false⟩,
      ⟨none, .fad 19 1 2⟩,
      ⟨none, .load 20 19 1 false⟩,
      ⟨none, .idx 22 16 (.t 20) (.t 21)⟩,
      ⟨none, .load 23 22 6 true⟩,
      ⟨none, .call (some 24) 228 [(.t 23)] true⟩,
      ⟨none, .lit 25 16 1 [.int .u64 0, .int .u64 0, .int .i64 0, .int .i64 0, .nil, .nil] [(0, (.t 24))]⟩,
      ⟨none, .app 26 16 80 (.t 18) (.t 25)⟩,
      ⟨none, .fad 27 3 2⟩,
      ⟨none, .store 27 1 (.t 26)⟩]))
    (.reg [⟨none, .mov 15 (.t 4)⟩,
    ⟨none, .bin 16 .add (.t 15) (.k (.int .i64 1))⟩,
    ⟨none, .mov 4 (.t 16)⟩]))
/-- spec.l13Copy -/
def r317 : RF :=
 ⟨1, [.cell 2 3 true],
 .seq (.reg [⟨none, .locb 1 (.t 0)⟩,
  ⟨none, .loc 2 [.int .i64 0, .int .i64 0, .nil]⟩])
 (.seq (.reg [⟨none, .fad 5 1 0⟩,
  ⟨none, .load 6 5 1 false⟩,
  ⟨none, .fad 7 1 1⟩,
  ⟨none, .load 8 7 1 false⟩,
  ⟨none, .build 9 [.int .i64 0, .int .i64 0, .nil] [(0, 1, (.t 6)), (1, 1, (.t 8))]⟩,
  ⟨none, .loc 3 [.int .i64 0, .int .i64 0, .nil]⟩,
  ⟨none, .store 3 3 (.t 9)⟩])
 (.seq (.seq (.reg [⟨none, .mov 4 (.k (.int .i64 0))⟩])
  (.block 0 (.loop [1, 2, 3, 4]
   r317L0)))
 (.seq (.reg [⟨none, .load 28 3 3 true⟩,
  ⟨none, .store 2 3 (.t 28)⟩])
 (.ret))))⟩
/-- A loop of spec.l13Renew. -/
def r318L0 : RC :=
 .seq (.seq (.reg [⟨none, .mov 11 (.t 6)⟩,
      ⟨none, .fad 12 5 2⟩,
      ⟨none, .load 13 12 1 false⟩,
      ⟨none, .len 14 (.t 13)⟩,
      ⟨none, .bin 15 .lss (.t 11) (.t 14)⟩])
     (.cond (.t 15)
     (.skip)
     (.exit 0)))
    (.seq (.block 1 (.seq (.reg [⟨none, .fad 18 5 2⟩,
       ⟨none, .load 19 18 1 false⟩,
       ⟨none, .mov 20 (.t 6)⟩,
       ⟨none, .idx 21 16 (.t 19) (.t 20)⟩,
       ⟨none, .fad 22 21 2⟩,
       ⟨none, .load 23 22 1 false⟩,
       ⟨none, .bin 24 .eql (.t 23) (.k (.int .i64 0))⟩])
      (.cond (.t 24)
      (.reg [⟨none, .fad 25 5 2⟩,
       ⟨none, .load 26 25 1 false⟩,
       ⟨none, .mov 27 (.t 6)⟩,
       ⟨none, .mov 28 (.t 1)⟩,
       ⟨none, .idx 29 16 (.t 26) (.t 27)⟩,
       ⟨none, .fad 30 29 3⟩,
       ⟨none, .store 30 1 (.t 28)⟩])
      (.skip))))
    (.reg [⟨none, .mov 16 (.t 6)⟩,
    ⟨none, .bin 17 .add (.t 16) (.k (.int .i64 1))⟩,
    ⟨none, .mov 6 (.t 17)⟩]))
/-- spec.l13Renew -/
def r318 : RF :=
 ⟨2, [.cell 4 3 true],
 .seq (.reg [⟨none, .locb 2 (.t 0)⟩,
  ⟨none, .loc 4 [.int .i64 0, .int .i64 0, .nil]⟩])
 (.seq (.reg [⟨none, .load 7 2 3 true⟩,
  ⟨none, .call (some 8) 317 [(.t 7)] false⟩,
  ⟨none, .loc 5 [.int .i64 0, .int .i64 0, .nil]⟩,
  ⟨none, .store 5 3 (.t 8)⟩])
 (.seq (.reg [⟨none, .mov 9 (.t 1)⟩,
  ⟨none, .fad 10 5 1⟩,
  ⟨none, .store 10 1 (.t 9)⟩])
 (.seq (.seq (.reg [⟨none, .mov 6 (.k (.int .i64 0))⟩])
  (.block 0 (.loop [1, 4, 5, 6]
   r318L0)))
 (.seq (.reg [⟨none, .load 31 5 3 true⟩,
  ⟨none, .store 4 3 (.t 31)⟩])
 (.ret)))))⟩
/-- A loop of spec.l13Within. -/
def r333L0 : RC :=
 .seq (.seq (.reg [⟨none, .mov 59 (.t 11)⟩,
      ⟨none, .fad 60 4 5⟩,
      ⟨none, .load 61 60 1 false⟩,
      ⟨none, .len 62 (.t 61)⟩,
      ⟨none, .bin 63 .lss (.t 59) (.t 62)⟩])
     (.cond (.t 63)
     (.skip)
     (.exit 2)))
    (.seq (.block 3 (.seq (.reg [⟨none, .fad 66 4 5⟩,
       ⟨none, .load 67 66 1 false⟩,
       ⟨none, .mov 68 (.t 11)⟩,
       ⟨none, .idx 69 9 (.t 67) (.t 68)⟩,
       ⟨none, .fad 70 69 1⟩,
       ⟨none, .load 71 70 1 false⟩,
       ⟨none, .mov 72 (.t 1)⟩,
       ⟨none, .bin 73 .geq (.t 71) (.t 72)⟩,
       ⟨none, .mov 74 (.t 73)⟩,
       ⟨some (74, true), .fad 75 4 5⟩,
       ⟨some (74, true), .load 76 75 1 false⟩,
       ⟨some (74, true), .mov 77 (.t 11)⟩,
       ⟨some (74, true), .idx 78 9 (.t 76) (.t 77)⟩,
       ⟨some (74, true), .fad 79 78 1⟩,
       ⟨some (74, true), .load 80 79 1 false⟩,
       ⟨some (74, true), .mov 81 (.t 2)⟩,
       ⟨some (74, true), .bin 82 .leq (.t 80) (.t 81)⟩,
       ⟨none, .pick 83 (.t 74) (.t 82) (.k (.bool false))⟩])
      (.cond (.t 83)
      (.reg [⟨none, .chk []⟩,
       ⟨none, .mov 88 (.t 11)⟩,
       ⟨none, .fad 84 9 5⟩,
       ⟨none, .load 85 84 1 false⟩,
       ⟨none, .fad 86 4 5⟩,
       ⟨none, .load 87 86 1 false⟩,
       ⟨none, .idx 89 9 (.t 87) (.t 88)⟩,
       ⟨none, .load 90 89 2 true⟩,
       ⟨none, .lit 91 9 1 [.int .i64 0, .int .u64 0] [(0, (.t 90))]⟩,
       ⟨none, .app 92 9 16 (.t 85) (.t 91)⟩,
       ⟨none, .fad 93 9 5⟩,
       ⟨none, .store 93 1 (.t 92)⟩])
      (.skip))))
    (.reg [⟨none, .mov 64 (.t 11)⟩,
    ⟨none, .bin 65 .add (.t 64) (.k (.int .i64 1))⟩,
    ⟨none, .mov 11 (.t 65)⟩]))
/-- A loop of spec.l13Within. -/
def r333L1 : RC :=
 .seq (.seq (.reg [⟨none, .mov 18 (.t 10)⟩,
      ⟨none, .fad 19 4 4⟩,
      ⟨none, .fad 20 19 0⟩,
      ⟨none, .load 21 20 1 false⟩,
      ⟨none, .len 22 (.t 21)⟩,
      ⟨none, .bin 23 .lss (.t 18) (.t 22)⟩])
     (.cond (.t 23)
     (.skip)
     (.exit 0)))
    (.seq (.block 1 (.seq (.reg [⟨none, .fad 26 4 4⟩,
       ⟨none, .fad 27 26 0⟩,
       ⟨none, .load 28 27 1 false⟩,
       ⟨none, .mov 29 (.t 10)⟩,
       ⟨none, .idx 30 11 (.t 28) (.t 29)⟩,
       ⟨none, .fad 31 30 0⟩,
       ⟨none, .load 32 31 1 false⟩,
       ⟨none, .mov 33 (.t 1)⟩,
       ⟨none, .bin 34 .geq (.t 32) (.t 33)⟩,
       ⟨none, .mov 35 (.t 34)⟩,
       ⟨some (35, true), .fad 36 4 4⟩,
       ⟨some (35, true), .fad 37 36 0⟩,
       ⟨some (35, true), .load 38 37 1 false⟩,
       ⟨some (35, true), .mov 39 (.t 10)⟩,
       ⟨some (35, true), .idx 40 11 (.t 38) (.t 39)⟩,
       ⟨some (35, true), .fad 41 40 0⟩,
       ⟨some (35, true), .load 42 41 1 false⟩,
       ⟨some (35, true), .mov 43 (.t 2)⟩,
       ⟨some (35, true), .bin 44 .leq (.t 42) (.t 43)⟩,
       ⟨none, .pick 45 (.t 35) (.t 44) (.k (.bool false))⟩])
      (.cond (.t 45)
      (.reg [⟨none, .chk []⟩,
       ⟨none, .mov 52 (.t 10)⟩,
       ⟨none, .fad 46 9 4⟩,
       ⟨none, .fad 47 46 0⟩,
       ⟨none, .load 48 47 1 false⟩,
       ⟨none, .fad 49 4 4⟩,
       ⟨none, .fad 50 49 0⟩,
       ⟨none, .load 51 50 1 false⟩,
       ⟨none, .idx 53 11 (.t 51) (.t 52)⟩,
       ⟨none, .load 54 53 5 true⟩,
       ⟨none, .lit 55 11 1 [.int .u64 0, .int .u64 0, .int .u64 0, .int .u64 0, .int .i64 0] [(0, (.t 54))]⟩,
       ⟨none, .app 56 11 40 (.t 48) (.t 55)⟩,
       ⟨none, .fad 57 9 4⟩,
       ⟨none, .fad 58 57 0⟩,
       ⟨none, .store 58 1 (.t 56)⟩])
      (.skip))))
    (.reg [⟨none, .mov 24 (.t 10)⟩,
    ⟨none, .bin 25 .add (.t 24) (.k (.int .i64 1))⟩,
    ⟨none, .mov 10 (.t 25)⟩]))
/-- spec.l13Within -/
def r333 : RF :=
 ⟨4, [.cell 8 6 true],
 .seq (.reg [⟨none, .locb 4 (.t 0)⟩,
  ⟨none, .loc 8 [.int .u64 0, .int .u64 0, .int .i64 0, .int .i64 0, .nil, .nil]⟩])
 (.seq (.reg [⟨none, .mov 12 (.t 1)⟩,
  ⟨none, .mov 13 (.t 2)⟩,
  ⟨none, .fad 14 4 2⟩,
  ⟨none, .load 15 14 1 false⟩,
  ⟨none, .mov 16 (.t 3)⟩,
  ⟨none, .build 17 [.int .u64 0, .int .u64 0, .int .i64 0, .int .i64 0, .nil, .nil] [(0, 1, (.t 12)), (1, 1, (.t 13)), (2, 1, (.t 15)), (3, 1, (.t 16))]⟩,
  ⟨none, .loc 9 [.int .u64 0, .int .u64 0, .int .i64 0, .int .i64 0, .nil, .nil]⟩,
  ⟨none, .store 9 6 (.t 17)⟩])
 (.seq (.seq (.reg [⟨none, .mov 10 (.k (.int .i64 0))⟩])
  (.block 0 (.loop [1, 2, 4, 8, 9, 10]
   r333L1)))
 (.seq (.seq (.reg [⟨none, .mov 11 (.k (.int .i64 0))⟩])
  (.block 2 (.loop [1, 2, 4, 8, 9, 11]
   r333L0)))
 (.seq (.reg [⟨none, .load 94 9 6 true⟩,
  ⟨none, .store 8 6 (.t 94)⟩])
 (.ret)))))⟩
/-- A loop of spec.JoinShard. -/
def r364L0 : RC :=
 .seq (.seq (.reg [⟨none, .mov 132 (.t 15)⟩,
      ⟨none, .fad 133 3 2⟩,
      ⟨none, .load 134 133 1 false⟩,
      ⟨none, .len 135 (.t 134)⟩,
      ⟨none, .bin 136 .lss (.t 132) (.t 135)⟩])
     (.cond (.t 136)
     (.skip)
     (.exit 4)))
    (.seq (.block 5 (.seq (.reg [⟨none, .mov 139 (.t 15)⟩,
       ⟨none, .mov 140 (.t 8)⟩,
       ⟨none, .bin 141 .sub (.t 140) (.k (.int .i64 1))⟩,
       ⟨none, .bin 142 .eql (.t 139) (.t 141)⟩])
      (.cond (.t 142)
      (.reg [⟨none, .fad 143 14 2⟩,
       ⟨none, .load 144 143 1 false⟩,
       ⟨none, .load 145 11 6 true⟩,
       ⟨none, .lit 146 16 1 [.int .u64 0, .int .u64 0, .int .i64 0, .int .i64 0, .nil, .nil] [(0, (.t 145))]⟩,
       ⟨none, .app 147 16 80 (.t 144) (.t 146)⟩,
       ⟨none, .fad 148 14 2⟩,
       ⟨none, .store 148 1 (.t 147)⟩])
      (.seq (.reg [⟨none, .mov 149 (.t 15)⟩,
        ⟨none, .mov 150 (.t 8)⟩,
        ⟨none, .bin 151 .neq (.t 149) (.t 150)⟩])
       (.cond (.t 151)
       (.reg [⟨none, .chk []⟩,
        ⟨none, .mov 156 (.t 15)⟩,
        ⟨none, .fad 152 14 2⟩,
        ⟨none, .load 153 152 1 false⟩,
        ⟨none, .fad 154 3 2⟩,
        ⟨none, .load 155 154 1 false⟩,
        ⟨none, .idx 157 16 (.t 155) (.t 156)⟩,
        ⟨none, .load 158 157 6 true⟩,
        ⟨none, .call (some 159) 228 [(.t 158)] true⟩,
        ⟨none, .lit 160 16 1 [.int .u64 0, .int .u64 0, .int .i64 0, .int .i64 0, .nil, .nil] [(0, (.t 159))]⟩,
        ⟨none, .app 161 16 80 (.t 153) (.t 160)⟩,
        ⟨none, .fad 162 14 2⟩,
        ⟨none, .store 162 1 (.t 161)⟩])
       (.skip))))))
    (.reg [⟨none, .mov 137 (.t 15)⟩,
    ⟨none, .bin 138 .add (.t 137) (.k (.int .i64 1))⟩,
    ⟨none, .mov 15 (.t 138)⟩]))
/-- A loop of spec.JoinShard. -/
def r364L1 : RC :=
 .seq (.seq (.reg [⟨none, .mov 112 (.t 13)⟩,
      ⟨none, .fad 113 10 5⟩,
      ⟨none, .load 114 113 1 false⟩,
      ⟨none, .len 115 (.t 114)⟩,
      ⟨none, .bin 116 .lss (.t 112) (.t 115)⟩])
     (.cond (.t 116)
     (.skip)
     (.exit 2)))
    (.seq (.block 3 (.reg [⟨none, .chk []⟩,
      ⟨none, .mov 123 (.t 13)⟩,
      ⟨none, .fad 119 11 5⟩,
      ⟨none, .load 120 119 1 false⟩,
      ⟨none, .fad 121 10 5⟩,
      ⟨none, .load 122 121 1 false⟩,
      ⟨none, .idx 124 9 (.t 122) (.t 123)⟩,
      ⟨none, .load 125 124 2 true⟩,
      ⟨none, .call (some 126) 374 [(.t 120), (.t 125)] true⟩,
      ⟨none, .fad 127 11 5⟩,
      ⟨none, .store 127 1 (.t 126)⟩]))
    (.reg [⟨none, .mov 117 (.t 13)⟩,
    ⟨none, .bin 118 .add (.t 117) (.k (.int .i64 1))⟩,
    ⟨none, .mov 13 (.t 118)⟩]))
/-- A loop of spec.JoinShard. -/
def r364L2 : RC :=
 .seq (.seq (.reg [⟨none, .mov 91 (.t 12)⟩,
      ⟨none, .fad 92 10 4⟩,
      ⟨none, .fad 93 92 0⟩,
      ⟨none, .load 94 93 1 false⟩,
      ⟨none, .len 95 (.t 94)⟩,
      ⟨none, .bin 96 .lss (.t 91) (.t 95)⟩])
     (.cond (.t 96)
     (.skip)
     (.exit 0)))
    (.seq (.block 1 (.reg [⟨none, .chk []⟩,
      ⟨none, .mov 105 (.t 12)⟩,
      ⟨none, .fad 99 11 4⟩,
      ⟨none, .fad 100 99 0⟩,
      ⟨none, .load 101 100 1 false⟩,
      ⟨none, .fad 102 10 4⟩,
      ⟨none, .fad 103 102 0⟩,
      ⟨none, .load 104 103 1 false⟩,
      ⟨none, .idx 106 11 (.t 104) (.t 105)⟩,
      ⟨none, .load 107 106 5 true⟩,
      ⟨none, .lit 108 11 1 [.int .u64 0, .int .u64 0, .int .u64 0, .int .u64 0, .int .i64 0] [(0, (.t 107))]⟩,
      ⟨none, .app 109 11 40 (.t 101) (.t 108)⟩,
      ⟨none, .fad 110 11 4⟩,
      ⟨none, .fad 111 110 0⟩,
      ⟨none, .store 111 1 (.t 109)⟩]))
    (.reg [⟨none, .mov 97 (.t 12)⟩,
    ⟨none, .bin 98 .add (.t 97) (.k (.int .i64 1))⟩,
    ⟨none, .mov 12 (.t 98)⟩]))
/-- spec.JoinShard -/
def r364 : RF :=
 ⟨3, [.cell 6 3 true, .tmp 7],
 .seq (.reg [⟨none, .locb 3 (.t 0)⟩,
  ⟨none, .loc 6 [.int .i64 0, .int .i64 0, .nil]⟩,
  ⟨none, .mov 7 (.k (.bool false))⟩])
 (.seq (.reg [⟨none, .load 16 3 3 true⟩,
  ⟨none, .mov 17 (.t 1)⟩,
  ⟨none, .call (some 18) 210 [(.t 16), (.t 17), (.k (.int .i64 0))] false⟩,
  ⟨none, .mov 8 (.t 18)⟩])
 (.seq (.seq (.reg [⟨none, .load 19 3 3 true⟩,
   ⟨none, .mov 20 (.t 2)⟩,
   ⟨none, .call (some 21) 316 [(.t 19), (.t 20)] false⟩,
   ⟨none, .not 22 (.t 21)⟩,
   ⟨none, .mov 23 (.t 22)⟩,
   ⟨some (23, false), .mov 24 (.t 8)⟩,
   ⟨some (23, false), .bin 25 .lss (.t 24) (.k (.int .i64 1))⟩,
   ⟨none, .pick 26 (.t 23) (.k (.bool true)) (.t 25)⟩,
   ⟨none, .mov 27 (.t 26)⟩,
   ⟨some (27, false), .fad 28 3 2⟩,
   ⟨some (27, false), .load 29 28 1 false⟩,
   ⟨some (27, false), .mov 30 (.t 8)⟩,
   ⟨some (27, false), .bin 31 .sub (.t 30) (.k (.int .i64 1))⟩,
   ⟨some (27, false), .idx 32 16 (.t 29) (.t 31)⟩,
   ⟨some (27, false), .fad 33 32 2⟩,
   ⟨some (27, false), .load 34 33 1 false⟩,
   ⟨some (27, false), .bin 35 .neq (.t 34) (.k (.int .i64 0))⟩,
   ⟨none, .pick 36 (.t 27) (.k (.bool true)) (.t 35)⟩,
   ⟨none, .mov 37 (.t 36)⟩,
   ⟨some (37, false), .fad 38 3 2⟩,
   ⟨some (37, false), .load 39 38 1 false⟩,
   ⟨some (37, false), .mov 40 (.t 8)⟩,
   ⟨some (37, false), .bin 41 .sub (.t 40) (.k (.int .i64 1))⟩,
   ⟨some (37, false), .idx 42 16 (.t 39) (.t 41)⟩,
   ⟨some (37, false), .fad 43 42 1⟩,
   ⟨some (37, false), .load 44 43 1 false⟩,
   ⟨some (37, false), .mov 45 (.t 1)⟩,
   ⟨some (37, false), .bin 46 .sub (.t 45) (.k (.int .u64 1))⟩,
   ⟨some (37, false), .bin 47 .neq (.t 44) (.t 46)⟩,
   ⟨none, .pick 48 (.t 37) (.k (.bool true)) (.t 47)⟩])
  (.cond (.t 48)
  (.seq (.reg [⟨none, .load 49 3 3 true⟩,
    ⟨none, .call (some 50) 317 [(.t 49)] false⟩,
    ⟨none, .store 6 3 (.t 50)⟩,
    ⟨none, .mov 7 (.k (.bool false))⟩])
   (.ret))
  (.skip)))
 (.seq (.reg [⟨none, .chk [9, 10]⟩,
  ⟨none, .own [9]⟩,
  ⟨none, .loc 9 [.int .u64 0, .int .u64 0, .int .i64 0, .int .i64 0, .nil, .nil]⟩,
  ⟨none, .loc 10 [.int .u64 0, .int .u64 0, .int .i64 0, .int .i64 0, .nil, .nil]⟩,
  ⟨none, .mov 53 (.t 8)⟩,
  ⟨none, .bin 54 .sub (.t 53) (.k (.int .i64 1))⟩,
  ⟨none, .mov 59 (.t 8)⟩,
  ⟨none, .fad 51 3 2⟩,
  ⟨none, .load 52 51 1 false⟩,
  ⟨none, .idx 55 16 (.t 52) (.t 54)⟩,
  ⟨none, .load 56 55 6 true⟩,
  ⟨none, .fad 57 3 2⟩,
  ⟨none, .load 58 57 1 false⟩,
  ⟨none, .idx 60 16 (.t 58) (.t 59)⟩,
  ⟨none, .load 61 60 6 true⟩,
  ⟨none, .store 9 6 (.t 56)⟩,
  ⟨none, .store 10 6 (.t 61)⟩])
 (.seq (.seq (.reg [⟨none, .fad 62 9 4⟩,
   ⟨none, .fad 63 62 0⟩,
   ⟨none, .load 64 63 1 false⟩,
   ⟨none, .len 65 (.t 64)⟩,
   ⟨none, .fad 66 10 4⟩,
   ⟨none, .fad 67 66 0⟩,
   ⟨none, .load 68 67 1 false⟩,
   ⟨none, .len 69 (.t 68)⟩,
   ⟨none, .bin 70 .add (.t 65) (.t 69)⟩,
   ⟨none, .bin 71 .gtr (.t 70) (.k (.int .i64 40))⟩,
   ⟨none, .mov 72 (.t 71)⟩,
   ⟨some (72, false), .fad 73 9 5⟩,
   ⟨some (72, false), .load 74 73 1 false⟩,
   ⟨some (72, false), .len 75 (.t 74)⟩,
   ⟨some (72, false), .fad 76 10 5⟩,
   ⟨some (72, false), .load 77 76 1 false⟩,
   ⟨some (72, false), .len 78 (.t 77)⟩,
   ⟨some (72, false), .bin 79 .add (.t 75) (.t 78)⟩,
   ⟨some (72, false), .bin 80 .gtr (.t 79) (.k (.int .i64 60))⟩,
   ⟨none, .pick 81 (.t 72) (.k (.bool true)) (.t 80)⟩])
  (.cond (.t 81)
  (.seq (.reg [⟨none, .load 82 3 3 true⟩,
    ⟨none, .call (some 83) 317 [(.t 82)] false⟩,
    ⟨none, .store 6 3 (.t 83)⟩,
    ⟨none, .mov 7 (.k (.bool false))⟩])
   (.ret))
  (.skip)))
 (.seq (.reg [⟨none, .load 84 9 6 true⟩,
  ⟨none, .call (some 85) 228 [(.t 84)] false⟩,
  ⟨none, .loc 11 [.int .u64 0, .int .u64 0, .int .i64 0, .int .i64 0, .nil, .nil]⟩,
  ⟨none, .store 11 6 (.t 85)⟩])
 (.seq (.reg [⟨none, .fad 86 10 1⟩,
  ⟨none, .load 87 86 1 false⟩,
  ⟨none, .fad 88 11 1⟩,
  ⟨none, .store 88 1 (.t 87)⟩])
 (.seq (.reg [⟨none, .mov 89 (.t 2)⟩,
  ⟨none, .fad 90 11 3⟩,
  ⟨none, .store 90 1 (.t 89)⟩])
 (.seq (.seq (.reg [⟨none, .mov 12 (.k (.int .i64 0))⟩])
  (.block 0 (.loop [2, 3, 6, 8, 10, 11, 12]
   r364L2)))
 (.seq (.seq (.reg [⟨none, .mov 13 (.k (.int .i64 0))⟩])
  (.block 2 (.loop [2, 3, 6, 8, 10, 11, 13]
   r364L1)))
 (.seq (.reg [⟨none, .fad 128 3 0⟩,
  ⟨none, .load 129 128 1 false⟩,
  ⟨none, .mov 130 (.t 2)⟩,
  ⟨none, .build 131 [.int .i64 0, .int .i64 0, .nil] [(0, 1, (.t 129)), (1, 1, (.t 130))]⟩,
  ⟨none, .loc 14 [.int .i64 0, .int .i64 0, .nil]⟩,
  ⟨none, .store 14 3 (.t 131)⟩])
 (.seq (.seq (.reg [⟨none, .mov 15 (.k (.int .i64 0))⟩])
  (.block 4 (.loop [2, 3, 6, 8, 11, 14, 15]
   r364L0)))
 (.seq (.reg [⟨none, .load 163 14 3 true⟩,
  ⟨none, .mov 164 (.t 2)⟩,
  ⟨none, .call (some 165) 318 [(.t 163), (.t 164)] false⟩,
  ⟨none, .store 6 3 (.t 165)⟩,
  ⟨none, .mov 7 (.k (.bool true))⟩])
 (.ret)))))))))))))⟩
/-- A loop of spec.l13AddFin. -/
def r374L0 : RC :=
 .seq (.seq (.reg [⟨none, .mov 12 (.t 7)⟩,
      ⟨none, .mov 13 (.t 0)⟩,
      ⟨none, .len 14 (.t 13)⟩,
      ⟨none, .bin 15 .lss (.t 12) (.t 14)⟩])
     (.cond (.t 15)
     (.skip)
     (.exit 0)))
    (.seq (.block 1 (.seq (.seq (.reg [⟨none, .chk []⟩,
        ⟨none, .mov 18 (.t 6)⟩,
        ⟨none, .not 19 (.t 18)⟩,
        ⟨none, .mov 20 (.t 19)⟩,
        ⟨some (20, true), .mov 22 (.t 0)⟩,
        ⟨some (20, true), .mov 23 (.t 7)⟩,
        ⟨some (20, true), .idx 24 9 (.t 22) (.t 23)⟩,
        ⟨some (20, true), .load 21 3 2 true⟩,
        ⟨some (20, true), .load 25 24 2 true⟩,
        ⟨some (20, true), .call (some 26) 242 [(.t 21), (.t 25)] true⟩,
        ⟨none, .pick 27 (.t 20) (.t 26) (.k (.bool false))⟩])
       (.cond (.t 27)
       (.seq (.reg [⟨none, .mov 28 (.t 5)⟩,
         ⟨none, .load 29 3 2 true⟩,
         ⟨none, .lit 30 9 1 [.int .i64 0, .int .u64 0] [(0, (.t 29))]⟩,
         ⟨none, .app 31 9 16 (.t 28) (.t 30)⟩,
         ⟨none, .mov 5 (.t 31)⟩])
        (.reg [⟨none, .mov 6 (.k (.bool true))⟩]))
       (.skip)))
      (.reg [⟨none, .mov 32 (.t 5)⟩,
      ⟨none, .mov 33 (.t 0)⟩,
      ⟨none, .mov 34 (.t 7)⟩,
      ⟨none, .idx 35 9 (.t 33) (.t 34)⟩,
      ⟨none, .load 36 35 2 true⟩,
      ⟨none, .lit 37 9 1 [.int .i64 0, .int .u64 0] [(0, (.t 36))]⟩,
      ⟨none, .app 38 9 16 (.t 32) (.t 37)⟩,
      ⟨none, .mov 5 (.t 38)⟩])))
    (.reg [⟨none, .mov 16 (.t 7)⟩,
    ⟨none, .bin 17 .add (.t 16) (.k (.int .i64 1))⟩,
    ⟨none, .mov 7 (.t 17)⟩]))
/-- spec.l13AddFin -/
def r374 : RF :=
 ⟨2, [.tmp 4],
 .seq (.reg [⟨none, .locb 3 (.t 1)⟩,
  ⟨none, .mov 4 (.k (.nil))⟩])
 (.seq (.reg [⟨none, .lit 8 9 0 [.int .i64 0, .int .u64 0] []⟩,
  ⟨none, .mov 5 (.t 8)⟩])
 (.seq (.reg [⟨none, .mov 9 (.t 0)⟩,
  ⟨none, .load 10 3 2 true⟩,
  ⟨none, .call (some 11) 243 [(.t 9), (.t 10)] false⟩,
  ⟨none, .mov 6 (.t 11)⟩])
 (.seq (.seq (.reg [⟨none, .mov 7 (.k (.int .i64 0))⟩])
  (.block 0 (.loop [0, 3, 5, 6, 7]
   r374L0)))
 (.seq (.seq (.reg [⟨none, .mov 39 (.t 6)⟩,
   ⟨none, .not 40 (.t 39)⟩])
  (.cond (.t 40)
  (.reg [⟨none, .mov 41 (.t 5)⟩,
   ⟨none, .load 42 3 2 true⟩,
   ⟨none, .lit 43 9 1 [.int .i64 0, .int .u64 0] [(0, (.t 42))]⟩,
   ⟨none, .app 44 9 16 (.t 41) (.t 43)⟩,
   ⟨none, .mov 5 (.t 44)⟩])
  (.skip)))
 (.seq (.reg [⟨none, .mov 45 (.t 5)⟩,
  ⟨none, .mov 4 (.t 45)⟩])
 (.ret))))))⟩
/-- The functions of this text, with their numbers. -/
def tS13 : List (Nat × RF) := [(156, r156), (163, r163), (189, r189), (204, r204), (208, r208), (210, r210), (211, r211), (228, r228), (242, r242), (243, r243), (290, r290), (297, r297), (300, r300), (308, r308), (311, r311), (316, r316), (317, r317), (318, r318), (333, r333), (364, r364), (374, r374)]
end Go.Proofs.Ytlfepembgjjejaa.A
/- The compact code of some functions: laws.FnExactCutShard. -/
namespace Go.Proofs.Ytlfepembgjjejaa.A
open Go
/-- laws.FnExactCutShard -/
def r310 : RF :=
 ⟨3, [.tmp 6],
 .seq (.reg [⟨none, .locb 3 (.t 0)⟩,
  ⟨none, .mov 6 (.k (.bool false))⟩])
 (.seq (.reg [⟨none, .mov 7 (.k (.int .i64 1048576))⟩])
 (.seq (.reg [⟨none, .load 18 3 3 true⟩,
  ⟨none, .mov 19 (.t 7)⟩,
  ⟨none, .call (some 20) 154 [(.t 18), (.t 19)] false⟩,
  ⟨none, .mov 7 (.t 20)⟩])
 (.seq (.seq (.reg [⟨none, .mov 21 (.t 7)⟩,
   ⟨none, .bin 22 .lss (.t 21) (.k (.int .i64 0))⟩])
  (.cond (.t 22)
  (.seq (.reg [⟨none, .mov 6 (.k (.bool true))⟩])
   (.ret))
  (.skip)))
 (.seq (.reg [⟨none, .load 24 3 3 true⟩,
  ⟨none, .call (some 25) 155 [(.t 24)] false⟩,
  ⟨none, .mov 26 (.t 1)⟩,
  ⟨none, .mov 27 (.t 2)⟩,
  ⟨none, .call (some 28) 311 [(.t 25), (.t 26), (.t 27)] false⟩,
  ⟨none, .mov 23 (.t 28)⟩,
  ⟨none, .ext 29 (.t 23) 0⟩,
  ⟨none, .ext 30 (.t 23) 1⟩,
  ⟨none, .loc 8 [.int .i64 0, .int .i64 0, .nil]⟩,
  ⟨none, .store 8 3 (.t 29)⟩,
  ⟨none, .mov 9 (.t 30)⟩])
 (.seq (.reg [⟨none, .load 31 3 3 true⟩,
  ⟨none, .call (some 32) 155 [(.t 31)] false⟩,
  ⟨none, .loc 10 [.int .i64 0, .int .i64 0, .nil]⟩,
  ⟨none, .store 10 3 (.t 32)⟩])
 (.seq (.reg [⟨none, .load 34 10 3 true⟩,
  ⟨none, .mov 35 (.t 1)⟩,
  ⟨none, .mov 36 (.t 2)⟩,
  ⟨none, .call (some 37) 312 [(.t 34), (.t 35), (.t 36)] false⟩,
  ⟨none, .mov 33 (.t 37)⟩,
  ⟨none, .ext 38 (.t 33) 0⟩,
  ⟨none, .ext 39 (.t 33) 1⟩,
  ⟨none, .loc 11 [.int .i64 0, .int .i64 0, .nil]⟩,
  ⟨none, .store 11 3 (.t 38)⟩,
  ⟨none, .mov 12 (.t 39)⟩])
 (.seq (.seq (.reg [⟨none, .load 40 11 3 true⟩,
   ⟨none, .load 41 8 3 true⟩,
   ⟨none, .call (some 42) 158 [(.t 40), (.t 41)] false⟩,
   ⟨none, .not 43 (.t 42)⟩,
   ⟨none, .mov 44 (.t 43)⟩,
   ⟨some (44, false), .mov 45 (.t 12)⟩,
   ⟨some (44, false), .mov 46 (.t 9)⟩,
   ⟨some (44, false), .beq 47 true (.t 45) (.t 46)⟩,
   ⟨none, .pick 48 (.t 44) (.k (.bool true)) (.t 47)⟩])
  (.cond (.t 48)
  (.seq (.reg [⟨none, .mov 6 (.k (.bool false))⟩])
   (.ret))
  (.skip)))
 (.seq (.seq (.reg [⟨none, .chk []⟩,
   ⟨none, .load 49 10 3 true⟩,
   ⟨none, .load 50 3 3 true⟩,
   ⟨none, .call (some 51) 155 [(.t 50)] true⟩,
   ⟨none, .call (some 52) 158 [(.t 49), (.t 51)] true⟩,
   ⟨none, .not 53 (.t 52)⟩])
  (.cond (.t 53)
  (.seq (.reg [⟨none, .mov 6 (.k (.bool false))⟩])
   (.ret))
  (.skip)))
 (.seq (.reg [⟨none, .mov 13 (.k (.int .i64 1))⟩])
 (.seq (.reg [⟨none, .load 54 10 3 true⟩,
  ⟨none, .mov 55 (.t 13)⟩,
  ⟨none, .call (some 56) 191 [(.t 54), (.t 55)] false⟩,
  ⟨none, .mov 13 (.t 56)⟩])
 (.seq (.seq (.reg [⟨none, .mov 57 (.t 13)⟩,
   ⟨none, .bin 58 .lss (.t 57) (.k (.int .i64 0))⟩,
   ⟨none, .mov 59 (.t 58)⟩,
   ⟨some (59, false), .load 60 11 3 true⟩,
   ⟨some (59, false), .load 61 8 3 true⟩,
   ⟨some (59, false), .call (some 62) 158 [(.t 60), (.t 61)] false⟩,
   ⟨some (59, false), .not 63 (.t 62)⟩,
   ⟨none, .pick 64 (.t 59) (.k (.bool true)) (.t 63)⟩,
   ⟨none, .mov 65 (.t 64)⟩,
   ⟨some (65, false), .mov 66 (.t 12)⟩,
   ⟨some (65, false), .mov 67 (.t 9)⟩,
   ⟨some (65, false), .beq 68 true (.t 66) (.t 67)⟩,
   ⟨none, .pick 69 (.t 65) (.k (.bool true)) (.t 68)⟩])
  (.cond (.t 69)
  (.seq (.reg [⟨none, .mov 6 (.k (.bool false))⟩])
   (.ret))
  (.skip)))
 (.seq (.reg [⟨none, .mov 14 (.k (.int .i64 1))⟩])
 (.seq (.reg [⟨none, .load 70 11 3 true⟩,
  ⟨none, .mov 71 (.t 14)⟩,
  ⟨none, .call (some 72) 191 [(.t 70), (.t 71)] false⟩,
  ⟨none, .mov 14 (.t 72)⟩])
 (.seq (.reg [⟨none, .mov 15 (.k (.int .i64 1))⟩])
 (.seq (.reg [⟨none, .load 73 11 3 true⟩,
  ⟨none, .mov 74 (.t 15)⟩,
  ⟨none, .call (some 75) 292 [(.t 73), (.t 74)] false⟩,
  ⟨none, .mov 15 (.t 75)⟩])
 (.seq (.seq (.reg [⟨none, .mov 76 (.t 15)⟩,
   ⟨none, .bin 77 .lss (.t 76) (.k (.int .i64 0))⟩])
  (.cond (.t 77)
  (.seq (.reg [⟨none, .mov 6 (.k (.bool false))⟩])
   (.ret))
  (.skip)))
 (.seq (.seq (.reg [⟨none, .mov 78 (.t 15)⟩,
   ⟨none, .mov 79 (.t 14)⟩,
   ⟨none, .bin 80 .neq (.t 78) (.t 79)⟩])
  (.cond (.t 80)
  (.seq (.reg [⟨none, .mov 6 (.k (.bool false))⟩])
   (.ret))
  (.skip)))
 (.seq (.reg [⟨none, .load 82 3 3 true⟩,
  ⟨none, .call (some 83) 155 [(.t 82)] false⟩,
  ⟨none, .mov 84 (.t 1)⟩,
  ⟨none, .mov 85 (.t 2)⟩,
  ⟨none, .call (some 86) 312 [(.t 83), (.t 84), (.t 85)] false⟩,
  ⟨none, .mov 81 (.t 86)⟩,
  ⟨none, .ext 87 (.t 81) 0⟩,
  ⟨none, .ext 88 (.t 81) 1⟩,
  ⟨none, .loc 16 [.int .i64 0, .int .i64 0, .nil]⟩,
  ⟨none, .store 16 3 (.t 87)⟩,
  ⟨none, .mov 17 (.t 88)⟩])
 (.seq (.seq (.reg [⟨none, .load 89 16 3 true⟩,
   ⟨none, .load 90 8 3 true⟩,
   ⟨none, .call (some 91) 158 [(.t 89), (.t 90)] false⟩,
   ⟨none, .not 92 (.t 91)⟩,
   ⟨none, .mov 93 (.t 92)⟩,
   ⟨some (93, false), .mov 94 (.t 17)⟩,
   ⟨some (93, false), .mov 95 (.t 9)⟩,
   ⟨some (93, false), .beq 96 true (.t 94) (.t 95)⟩,
   ⟨none, .pick 97 (.t 93) (.k (.bool true)) (.t 96)⟩])
  (.cond (.t 97)
  (.seq (.reg [⟨none, .mov 6 (.k (.bool false))⟩])
   (.ret))
  (.skip)))
 (.seq (.reg [⟨none, .mov 15 (.k (.int .i64 1))⟩])
 (.seq (.reg [⟨none, .load 98 11 3 true⟩,
  ⟨none, .mov 99 (.t 15)⟩,
  ⟨none, .call (some 100) 292 [(.t 98), (.t 99)] false⟩,
  ⟨none, .mov 15 (.t 100)⟩])
 (.seq (.seq (.reg [⟨none, .mov 101 (.t 15)⟩,
   ⟨none, .bin 102 .lss (.t 101) (.k (.int .i64 0))⟩])
  (.cond (.t 102)
  (.seq (.reg [⟨none, .mov 6 (.k (.bool false))⟩])
   (.ret))
  (.skip)))
 (.seq (.seq (.reg [⟨none, .mov 103 (.t 15)⟩,
   ⟨none, .mov 104 (.t 14)⟩,
   ⟨none, .bin 105 .neq (.t 103) (.t 104)⟩])
  (.cond (.t 105)
  (.seq (.reg [⟨none, .mov 6 (.k (.bool false))⟩])
   (.ret))
  (.skip)))
 (.seq (.reg [⟨none, .mov 6 (.k (.bool true))⟩])
 (.ret)))))))))))))))))))))))))⟩
/-- The functions of this text, with their numbers. -/
def tWCutShard : List (Nat × RF) := [(310, r310)]
end Go.Proofs.Ytlfepembgjjejaa.A
/- Small functions of bounds that many use. -/
namespace Go.Proofs.Ytlfepembgjjejaa.A
open Go
set_option linter.unusedSimpArgs false
set_option linter.unusedVariables false
/-- A table's functions are those of F. -/
abbrev Has (F : Nat → Option RF) (t : List (Nat × RF)) : Prop := AllT (fun x => F x.1 = some x.2) t
def inR (x lo hi : Int) : Bool := decide (lo ≤ x) && decide (x ≤ hi)
section
variable {F : Nat → Option RF} {Z : CallF}
theorem isGroupId_run (hI11 : Has F tI11) (n : Int) (h : Heap) :
    call F Z 7 [.c (.int .i64 n)] h = some (.c (.bool (inR n 0 99)), h) := by
  rw [call_run F Z (hI11.lk (g := 7) rfl) _ _ rfl]
  simp only [run0, run1, run2, run3, run4, noSlot, ownS, ownK, memN, RO.dst, lk, drop, forget, number, Nat.reduceBEq, cut?, splice?, builds, List.length_cons, List.length_nil, List.drop_succ_cons, List.drop_zero, List.take_succ_cons, List.take_zero, List.cons_append, List.nil_append, List.append_nil, List.drop_nil, List.take_nil, Nat.reduceAdd, Nat.reduceLeDiff, Nat.zero_add, Nat.add_zero, ↓reduceIte, Bool.not_true, Bool.not_false, decide_true, decide_false, eq_self, bne_self_eq_false, List.getElem?_cons_zero, List.getElem?_cons_succ, decide_eq_true_eq, Bool.false_eq_true, Bool.true_eq_false, reduceCtorEq, Nat.le_refl]
  (repeat' ((first | (rw [gF_if]; split) | (rw [condC_if]; split) | (rw [pickR_if]; split)) <;> (rename_i hh; (try simp only [Bool.not_eq_true, decide_eq_true_eq] at hh); simp only [hh, run0, run1, run2, run3, run4, noSlot, ownS, ownK, memN, RO.dst, lk, drop, forget, number, Nat.reduceBEq, cut?, splice?, builds, List.length_cons, List.length_nil, List.drop_succ_cons, List.drop_zero, List.take_succ_cons, List.take_zero, List.cons_append, List.nil_append, List.append_nil, List.drop_nil, List.take_nil, Nat.reduceAdd, Nat.reduceLeDiff, Nat.zero_add, Nat.add_zero, ↓reduceIte, Bool.not_true, Bool.not_false, decide_true, decide_false, eq_self, bne_self_eq_false, List.getElem?_cons_zero, List.getElem?_cons_succ, decide_eq_true_eq, Bool.false_eq_true, Bool.true_eq_false, reduceCtorEq, Nat.le_refl]))) <;> simp [inR, *]
theorem l01In_run (hS : Has F tS01d) (n lo hi : Int) (h : Heap) :
    call F Z 5 [.c (.int .i64 n), .c (.int .i64 lo), .c (.int .i64 hi)] h = some (.c (.bool (inR n lo hi)), h) := by
  rw [call_run F Z (hS.lk (g := 5) rfl) _ _ rfl]
  simp only [run0, run1, run2, run3, run4, noSlot, ownS, ownK, memN, RO.dst, lk, drop, forget, number, Nat.reduceBEq, cut?, splice?, builds, List.length_cons, List.length_nil, List.drop_succ_cons, List.drop_zero, List.take_succ_cons, List.take_zero, List.cons_append, List.nil_append, List.append_nil, List.drop_nil, List.take_nil, Nat.reduceAdd, Nat.reduceLeDiff, Nat.zero_add, Nat.add_zero, ↓reduceIte, Bool.not_true, Bool.not_false, decide_true, decide_false, eq_self, bne_self_eq_false, List.getElem?_cons_zero, List.getElem?_cons_succ, decide_eq_true_eq, Bool.false_eq_true, Bool.true_eq_false, reduceCtorEq, Nat.le_refl]
  (repeat' ((first | (rw [gF_if]; split) | (rw [condC_if]; split) | (rw [pickR_if]; split)) <;> (rename_i hh; (try simp only [Bool.not_eq_true, decide_eq_true_eq] at hh); simp only [hh, run0, run1, run2, run3, run4, noSlot, ownS, ownK, memN, RO.dst, lk, drop, forget, number, Nat.reduceBEq, cut?, splice?, builds, List.length_cons, List.length_nil, List.drop_succ_cons, List.drop_zero, List.take_succ_cons, List.take_zero, List.cons_append, List.nil_append, List.append_nil, List.drop_nil, List.take_nil, Nat.reduceAdd, Nat.reduceLeDiff, Nat.zero_add, Nat.add_zero, ↓reduceIte, Bool.not_true, Bool.not_false, decide_true, decide_false, eq_self, bne_self_eq_false, List.getElem?_cons_zero, List.getElem?_cons_succ, decide_eq_true_eq, Bool.false_eq_true, Bool.true_eq_false, reduceCtorEq, Nat.le_refl]))) <;> simp [inR, *]
end
end Go.Proofs.Ytlfepembgjjejaa.A
