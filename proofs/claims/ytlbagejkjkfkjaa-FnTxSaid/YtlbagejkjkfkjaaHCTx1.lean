/- The functions that the statement reaches, part 1: bodies and what they compute. No condition. -/
import Derived.Test.YtlbagejkjkfkjaaA1
import Derived.Test.YtlbagejkjkfkjaaB8
import Derived.Test.YtlbagejkjkfkjaaB6
import Derived.Test.YtlbagejkjkfkjaaD
import Derived.Test.YtlbagejkjkfkjaaB5
/- The compact code of some functions: impl.TxOk, impl.TxOutcome, impl.NewTx, impl.TxGiveUp, impl.isTx, impl.txGiveUp, impl.isReason, impl.TxAck, impl.TxVote, impl.txAck, impl.txVote, impl.TxSends, impl.PlayTx. -/
namespace Go.Proofs.Ytlbagejkjkfkjaa.A
open Go
/-- impl.TxOk -/
def r15 : RF :=
 ⟨1, [.tmp 2],
 .seq (.reg [⟨none, .locb 1 (.t 0)⟩,
  ⟨none, .mov 2 (.k (.bool false))⟩])
 (.seq (.reg [⟨none, .load 3 1 10 true⟩,
  ⟨none, .call (some 4) 28 [(.t 3)] false⟩,
  ⟨none, .mov 2 (.t 4)⟩])
 (.ret))⟩
/-- impl.TxOutcome -/
def r18 : RF :=
 ⟨1, [.tmp 2],
 .seq (.reg [⟨none, .locb 1 (.t 0)⟩,
  ⟨none, .mov 2 (.k (.int .i64 0))⟩])
 (.seq (.seq (.reg [⟨none, .load 3 1 10 true⟩,
   ⟨none, .call (some 4) 28 [(.t 3)] false⟩,
   ⟨none, .not 5 (.t 4)⟩,
   ⟨none, .mov 6 (.t 5)⟩,
   ⟨some (6, false), .fad 7 1 4⟩,
   ⟨some (6, false), .load 8 7 1 false⟩,
   ⟨some (6, false), .bin 9 .eql (.t 8) (.k (.int .i64 0))⟩,
   ⟨none, .pick 10 (.t 6) (.k (.bool true)) (.t 9)⟩])
  (.cond (.t 10)
  (.seq (.reg [⟨none, .mov 2 (.k (.int .i64 (-1)))⟩])
   (.ret))
  (.skip)))
 (.seq (.reg [⟨none, .fad 11 1 9⟩,
  ⟨none, .load 12 11 1 false⟩,
  ⟨none, .mov 2 (.t 12)⟩])
 (.ret)))⟩
/-- impl.NewTx -/
def r21 : RF :=
 ⟨4, [.cell 8 10 true, .tmp 9],
 .seq (.reg [⟨none, .loc 8 [.int .i64 0, .int .u64 0, .int .u64 0, .int .u64 0, .int .i64 0, .bool false, .bool false, .bool false, .bool false, .int .i64 0]⟩,
  ⟨none, .mov 9 (.k (.bool false))⟩])
 (.seq (.reg [⟨none, .mov 11 (.t 0)⟩,
  ⟨none, .mov 12 (.t 1)⟩,
  ⟨none, .mov 13 (.t 2)⟩,
  ⟨none, .mov 14 (.t 3)⟩,
  ⟨none, .build 15 [.int .i64 0, .int .u64 0, .int .u64 0, .int .u64 0, .int .i64 0, .bool false, .bool false, .bool false, .bool false, .int .i64 0] [(0, 1, (.t 11)), (1, 1, (.t 12)), (2, 1, (.t 13)), (3, 1, (.t 14)), (4, 1, (.k (.int .i64 0)))]⟩,
  ⟨none, .loc 10 [.int .i64 0, .int .u64 0, .int .u64 0, .int .u64 0, .int .i64 0, .bool false, .bool false, .bool false, .bool false, .int .i64 0]⟩,
  ⟨none, .store 10 10 (.t 15)⟩])
 (.seq (.seq (.reg [⟨none, .load 16 10 10 true⟩,
   ⟨none, .call (some 17) 28 [(.t 16)] false⟩,
   ⟨none, .not 18 (.t 17)⟩])
  (.cond (.t 18)
  (.seq (.reg [⟨none, .build 19 [.int .i64 0, .int .u64 0, .int .u64 0, .int .u64 0, .int .i64 0, .bool false, .bool false, .bool false, .bool false, .int .i64 0] []⟩,
    ⟨none, .store 8 10 (.t 19)⟩,
    ⟨none, .mov 9 (.k (.bool false))⟩])
   (.ret))
  (.skip)))
 (.seq (.reg [⟨none, .load 20 10 10 true⟩,
  ⟨none, .store 8 10 (.t 20)⟩,
  ⟨none, .mov 9 (.k (.bool true))⟩])
 (.ret))))⟩
/-- impl.TxGiveUp -/
def r25 : RF :=
 ⟨2, [.cell 4 10 true, .tmp 5],
 .seq (.reg [⟨none, .locb 2 (.t 0)⟩,
  ⟨none, .loc 4 [.int .i64 0, .int .u64 0, .int .u64 0, .int .u64 0, .int .i64 0, .bool false, .bool false, .bool false, .bool false, .int .i64 0]⟩,
  ⟨none, .mov 5 (.k (.bool false))⟩])
 (.seq (.reg [⟨none, .load 6 2 10 true⟩,
  ⟨none, .mov 7 (.t 1)⟩,
  ⟨none, .call (some 8) 29 [(.t 6), (.t 7)] false⟩,
  ⟨none, .ext 9 (.t 8) 0⟩,
  ⟨none, .ext 10 (.t 8) 1⟩,
  ⟨none, .store 4 10 (.t 9)⟩,
  ⟨none, .mov 5 (.t 10)⟩])
 (.ret))⟩
/-- impl.isTx -/
def r28 : RF :=
 ⟨1, [.tmp 2],
 .seq (.reg [⟨none, .locb 1 (.t 0)⟩,
  ⟨none, .mov 2 (.k (.bool false))⟩])
 (.seq (.seq (.reg [⟨none, .fad 5 1 0⟩,
   ⟨none, .load 6 5 1 false⟩,
   ⟨none, .bin 7 .lss (.t 6) (.k (.int .i64 1))⟩,
   ⟨none, .mov 8 (.t 7)⟩,
   ⟨some (8, false), .fad 9 1 1⟩,
   ⟨some (8, false), .load 10 9 1 false⟩,
   ⟨some (8, false), .fad 11 1 2⟩,
   ⟨some (8, false), .load 12 11 1 false⟩,
   ⟨some (8, false), .bin 13 .eql (.t 10) (.t 12)⟩,
   ⟨none, .pick 14 (.t 8) (.k (.bool true)) (.t 13)⟩])
  (.cond (.t 14)
  (.seq (.reg [⟨none, .mov 2 (.k (.bool false))⟩])
   (.ret))
  (.skip)))
 (.seq (.reg [⟨none, .chk []⟩,
  ⟨none, .fad 15 1 5⟩,
  ⟨none, .load 16 15 1 false⟩,
  ⟨none, .mov 17 (.t 16)⟩,
  ⟨some (17, true), .fad 18 1 6⟩,
  ⟨some (17, true), .load 19 18 1 false⟩,
  ⟨none, .pick 20 (.t 17) (.t 19) (.k (.bool false))⟩,
  ⟨none, .fad 21 1 7⟩,
  ⟨none, .load 22 21 1 false⟩,
  ⟨none, .mov 23 (.t 22)⟩,
  ⟨none, .mov 3 (.t 20)⟩,
  ⟨some (23, true), .fad 24 1 8⟩,
  ⟨some (23, true), .load 25 24 1 false⟩,
  ⟨none, .pick 26 (.t 23) (.t 25) (.k (.bool false))⟩,
  ⟨none, .mov 4 (.t 26)⟩])
 (.seq (.seq (.reg [⟨none, .fad 27 1 4⟩,
   ⟨none, .load 28 27 1 false⟩])
  (.block 0 (.seq (.reg [⟨none, .bin 30 .eql (.t 28) (.k (.int .i64 0))⟩,
    ⟨none, .mov 29 (.t 30)⟩])
   (.cond (.t 29)
   (.seq (.reg [⟨none, .mov 31 (.t 3)⟩,
     ⟨none, .not 32 (.t 31)⟩,
     ⟨none, .mov 33 (.t 32)⟩,
     ⟨some (33, true), .fad 34 1 7⟩,
     ⟨some (33, true), .load 35 34 1 false⟩,
     ⟨some (33, true), .not 36 (.t 35)⟩,
     ⟨none, .pick 37 (.t 33) (.t 36) (.k (.bool false))⟩,
     ⟨none, .mov 38 (.t 37)⟩,
     ⟨some (38, true), .fad 39 1 8⟩,
     ⟨some (38, true), .load 40 39 1 false⟩,
     ⟨some (38, true), .not 41 (.t 40)⟩,
     ⟨none, .pick 42 (.t 38) (.t 41) (.k (.bool false))⟩,
     ⟨none, .mov 43 (.t 42)⟩,
     ⟨some (43, true), .fad 44 1 9⟩,
     ⟨some (43, true), .load 45 44 1 false⟩,
     ⟨some (43, true), .bin 46 .eql (.t 45) (.k (.int .i64 0))⟩,
     ⟨none, .pick 47 (.t 43) (.t 46) (.k (.bool false))⟩,
     ⟨none, .mov 2 (.t 47)⟩])
    (.ret))
   (.seq (.reg [⟨none, .bin 49 .eql (.t 28) (.k (.int .i64 1))⟩,
     ⟨none, .mov 48 (.t 49)⟩])
    (.cond (.t 48)
    (.seq (.reg [⟨none, .mov 50 (.t 3)⟩,
      ⟨none, .mov 51 (.t 50)⟩,
      ⟨some (51, true), .mov 52 (.t 4)⟩,
      ⟨some (51, true), .not 53 (.t 52)⟩,
      ⟨none, .pick 54 (.t 51) (.t 53) (.k (.bool false))⟩,
      ⟨none, .mov 55 (.t 54)⟩,
      ⟨some (55, true), .fad 56 1 9⟩,
      ⟨some (55, true), .load 57 56 1 false⟩,
      ⟨some (55, true), .bin 58 .eql (.t 57) (.k (.int .i64 0))⟩,
      ⟨none, .pick 59 (.t 55) (.t 58) (.k (.bool false))⟩,
      ⟨none, .mov 2 (.t 59)⟩])
     (.ret))
    (.seq (.reg [⟨none, .bin 61 .eql (.t 28) (.k (.int .i64 2))⟩,
      ⟨none, .mov 60 (.t 61)⟩])
     (.cond (.t 60)
     (.seq (.reg [⟨none, .mov 62 (.t 3)⟩,
       ⟨none, .not 63 (.t 62)⟩,
       ⟨none, .mov 64 (.t 63)⟩,
       ⟨some (64, true), .mov 65 (.t 4)⟩,
       ⟨some (64, true), .not 66 (.t 65)⟩,
       ⟨none, .pick 67 (.t 64) (.t 66) (.k (.bool false))⟩,
       ⟨none, .mov 68 (.t 67)⟩,
       ⟨some (68, true), .fad 69 1 9⟩,
       ⟨some (68, true), .load 70 69 1 false⟩,
       ⟨some (68, true), .call (some 71) 30 [(.t 70)] false⟩,
       ⟨none, .pick 72 (.t 68) (.t 71) (.k (.bool false))⟩,
       ⟨none, .mov 2 (.t 72)⟩])
      (.ret))
     (.seq (.reg [⟨none, .bin 74 .eql (.t 28) (.k (.int .i64 3))⟩,
       ⟨none, .mov 73 (.t 74)⟩])
      (.cond (.t 73)
      (.seq (.reg [⟨none, .mov 75 (.t 4)⟩,
        ⟨none, .mov 76 (.t 75)⟩,
        ⟨some (76, true), .mov 77 (.t 3)⟩,
        ⟨some (76, true), .mov 78 (.t 77)⟩,
        ⟨some (78, true), .fad 79 1 9⟩,
        ⟨some (78, true), .load 80 79 1 false⟩,
        ⟨some (78, true), .bin 81 .eql (.t 80) (.k (.int .i64 0))⟩,
        ⟨some (76, true), .pick 82 (.t 78) (.t 81) (.k (.bool false))⟩,
        ⟨some (76, true), .mov 83 (.t 82)⟩,
        ⟨some (83, false), .mov 84 (.t 3)⟩,
        ⟨some (83, false), .not 85 (.t 84)⟩,
        ⟨some (83, false), .mov 86 (.t 85)⟩,
        ⟨some (86, true), .fad 87 1 9⟩,
        ⟨some (86, true), .load 88 87 1 false⟩,
        ⟨some (86, true), .call (some 89) 30 [(.t 88)] false⟩,
        ⟨some (83, false), .pick 90 (.t 86) (.t 89) (.k (.bool false))⟩,
        ⟨some (76, true), .pick 91 (.t 83) (.k (.bool true)) (.t 90)⟩,
        ⟨none, .pick 92 (.t 76) (.t 91) (.k (.bool false))⟩,
        ⟨none, .mov 2 (.t 92)⟩])
       (.ret))
      (.skip)))))))))))
 (.seq (.reg [⟨none, .mov 2 (.k (.bool false))⟩])
 (.ret)))))⟩
/-- impl.txGiveUp -/
def r29 : RF :=
 ⟨2, [.cell 4 10 true, .tmp 5],
 .seq (.reg [⟨none, .locb 2 (.t 0)⟩,
  ⟨none, .loc 4 [.int .i64 0, .int .u64 0, .int .u64 0, .int .u64 0, .int .i64 0, .bool false, .bool false, .bool false, .bool false, .int .i64 0]⟩,
  ⟨none, .mov 5 (.k (.bool false))⟩])
 (.seq (.seq (.reg [⟨none, .load 6 2 10 true⟩,
   ⟨none, .call (some 7) 28 [(.t 6)] false⟩,
   ⟨none, .not 8 (.t 7)⟩,
   ⟨none, .mov 9 (.t 8)⟩,
   ⟨some (9, false), .fad 10 2 4⟩,
   ⟨some (9, false), .load 11 10 1 false⟩,
   ⟨some (9, false), .bin 12 .neq (.t 11) (.k (.int .i64 0))⟩,
   ⟨none, .pick 13 (.t 9) (.k (.bool true)) (.t 12)⟩,
   ⟨none, .mov 14 (.t 13)⟩,
   ⟨some (14, false), .mov 15 (.t 1)⟩,
   ⟨some (14, false), .call (some 16) 30 [(.t 15)] false⟩,
   ⟨some (14, false), .not 17 (.t 16)⟩,
   ⟨none, .pick 18 (.t 14) (.k (.bool true)) (.t 17)⟩])
  (.cond (.t 18)
  (.seq (.reg [⟨none, .load 19 2 10 true⟩,
    ⟨none, .store 4 10 (.t 19)⟩,
    ⟨none, .mov 5 (.k (.bool false))⟩])
   (.ret))
  (.skip)))
 (.seq (.reg [⟨none, .fad 20 2 4⟩,
  ⟨none, .store 20 1 (.k (.int .i64 2))⟩])
 (.seq (.reg [⟨none, .mov 21 (.t 1)⟩,
  ⟨none, .fad 22 2 9⟩,
  ⟨none, .store 22 1 (.t 21)⟩])
 (.seq (.reg [⟨none, .load 23 2 10 true⟩,
  ⟨none, .store 4 10 (.t 23)⟩,
  ⟨none, .mov 5 (.k (.bool true))⟩])
 (.ret)))))⟩
/-- impl.isReason -/
def r30 : RF :=
 ⟨1, [.tmp 2],
 .seq (.reg [⟨none, .mov 2 (.k (.bool false))⟩])
 (.seq (.reg [⟨none, .mov 3 (.t 0)⟩,
  ⟨none, .bin 4 .geq (.t 3) (.k (.int .i64 1))⟩,
  ⟨none, .mov 5 (.t 4)⟩,
  ⟨some (5, true), .mov 6 (.t 0)⟩,
  ⟨some (5, true), .bin 7 .leq (.t 6) (.k (.int .i64 99))⟩,
  ⟨none, .pick 8 (.t 5) (.t 7) (.k (.bool false))⟩,
  ⟨none, .mov 2 (.t 8)⟩])
 (.ret))⟩
/-- impl.TxAck -/
def r33 : RF :=
 ⟨2, [.cell 4 10 true, .tmp 5],
 .seq (.reg [⟨none, .locb 2 (.t 0)⟩,
  ⟨none, .loc 4 [.int .i64 0, .int .u64 0, .int .u64 0, .int .u64 0, .int .i64 0, .bool false, .bool false, .bool false, .bool false, .int .i64 0]⟩,
  ⟨none, .mov 5 (.k (.bool false))⟩])
 (.seq (.reg [⟨none, .load 6 2 10 true⟩,
  ⟨none, .mov 7 (.t 1)⟩,
  ⟨none, .call (some 8) 37 [(.t 6), (.t 7)] false⟩,
  ⟨none, .ext 9 (.t 8) 0⟩,
  ⟨none, .ext 10 (.t 8) 1⟩,
  ⟨none, .store 4 10 (.t 9)⟩,
  ⟨none, .mov 5 (.t 10)⟩])
 (.ret))⟩
/-- impl.TxVote -/
def r36 : RF :=
 ⟨3, [.cell 6 10 true, .tmp 7],
 .seq (.reg [⟨none, .locb 3 (.t 0)⟩,
  ⟨none, .loc 6 [.int .i64 0, .int .u64 0, .int .u64 0, .int .u64 0, .int .i64 0, .bool false, .bool false, .bool false, .bool false, .int .i64 0]⟩,
  ⟨none, .mov 7 (.k (.bool false))⟩])
 (.seq (.reg [⟨none, .load 8 3 10 true⟩,
  ⟨none, .mov 9 (.t 1)⟩,
  ⟨none, .mov 10 (.t 2)⟩,
  ⟨none, .call (some 11) 38 [(.t 8), (.t 9), (.t 10)] false⟩,
  ⟨none, .ext 12 (.t 11) 0⟩,
  ⟨none, .ext 13 (.t 11) 1⟩,
  ⟨none, .store 6 10 (.t 12)⟩,
  ⟨none, .mov 7 (.t 13)⟩])
 (.ret))⟩
/-- impl.txAck -/
def r37 : RF :=
 ⟨2, [.cell 4 10 true, .tmp 5],
 .seq (.reg [⟨none, .locb 2 (.t 0)⟩,
  ⟨none, .loc 4 [.int .i64 0, .int .u64 0, .int .u64 0, .int .u64 0, .int .i64 0, .bool false, .bool false, .bool false, .bool false, .int .i64 0]⟩,
  ⟨none, .mov 5 (.k (.bool false))⟩])
 (.seq (.seq (.reg [⟨none, .load 6 2 10 true⟩,
   ⟨none, .call (some 7) 28 [(.t 6)] false⟩,
   ⟨none, .not 8 (.t 7)⟩,
   ⟨none, .mov 9 (.t 8)⟩,
   ⟨some (9, false), .fad 10 2 4⟩,
   ⟨some (9, false), .load 11 10 1 false⟩,
   ⟨some (9, false), .bin 12 .neq (.t 11) (.k (.int .i64 1))⟩,
   ⟨some (9, false), .mov 13 (.t 12)⟩,
   ⟨some (13, true), .fad 14 2 4⟩,
   ⟨some (13, true), .load 15 14 1 false⟩,
   ⟨some (13, true), .bin 16 .neq (.t 15) (.k (.int .i64 2))⟩,
   ⟨some (9, false), .pick 17 (.t 13) (.t 16) (.k (.bool false))⟩,
   ⟨none, .pick 18 (.t 9) (.k (.bool true)) (.t 17)⟩,
   ⟨none, .mov 19 (.t 18)⟩,
   ⟨some (19, false), .mov 20 (.t 1)⟩,
   ⟨some (19, false), .bin 21 .lss (.t 20) (.k (.int .i64 0))⟩,
   ⟨none, .pick 22 (.t 19) (.k (.bool true)) (.t 21)⟩,
   ⟨none, .mov 23 (.t 22)⟩,
   ⟨some (23, false), .mov 24 (.t 1)⟩,
   ⟨some (23, false), .bin 25 .gtr (.t 24) (.k (.int .i64 1))⟩,
   ⟨none, .pick 26 (.t 23) (.k (.bool true)) (.t 25)⟩,
   ⟨none, .mov 27 (.t 26)⟩,
   ⟨some (27, false), .mov 28 (.t 1)⟩,
   ⟨some (27, false), .bin 29 .eql (.t 28) (.k (.int .i64 0))⟩,
   ⟨some (27, false), .mov 30 (.t 29)⟩,
   ⟨some (30, true), .fad 31 2 7⟩,
   ⟨some (30, true), .load 32 31 1 false⟩,
   ⟨some (27, false), .pick 33 (.t 30) (.t 32) (.k (.bool false))⟩,
   ⟨none, .pick 34 (.t 27) (.k (.bool true)) (.t 33)⟩,
   ⟨none, .mov 35 (.t 34)⟩,
   ⟨some (35, false), .mov 36 (.t 1)⟩,
   ⟨some (35, false), .bin 37 .eql (.t 36) (.k (.int .i64 1))⟩,
   ⟨some (35, false), .mov 38 (.t 37)⟩,
   ⟨some (38, true), .fad 39 2 8⟩,
   ⟨some (38, true), .load 40 39 1 false⟩,
   ⟨some (35, false), .pick 41 (.t 38) (.t 40) (.k (.bool false))⟩,
   ⟨none, .pick 42 (.t 35) (.k (.bool true)) (.t 41)⟩])
  (.cond (.t 42)
  (.seq (.reg [⟨none, .load 43 2 10 true⟩,
    ⟨none, .store 4 10 (.t 43)⟩,
    ⟨none, .mov 5 (.k (.bool false))⟩])
   (.ret))
  (.skip)))
 (.seq (.seq (.reg [⟨none, .mov 44 (.t 1)⟩,
   ⟨none, .bin 45 .eql (.t 44) (.k (.int .i64 0))⟩])
  (.cond (.t 45)
  (.reg [⟨none, .fad 46 2 7⟩,
   ⟨none, .store 46 1 (.k (.bool true))⟩])
  (.reg [⟨none, .fad 47 2 8⟩,
   ⟨none, .store 47 1 (.k (.bool true))⟩])))
 (.seq (.seq (.reg [⟨none, .fad 48 2 7⟩,
   ⟨none, .load 49 48 1 false⟩,
   ⟨none, .mov 50 (.t 49)⟩,
   ⟨some (50, true), .fad 51 2 8⟩,
   ⟨some (50, true), .load 52 51 1 false⟩,
   ⟨none, .pick 53 (.t 50) (.t 52) (.k (.bool false))⟩])
  (.cond (.t 53)
  (.reg [⟨none, .fad 54 2 4⟩,
   ⟨none, .store 54 1 (.k (.int .i64 3))⟩])
  (.skip)))
 (.seq (.reg [⟨none, .load 55 2 10 true⟩,
  ⟨none, .store 4 10 (.t 55)⟩,
  ⟨none, .mov 5 (.k (.bool true))⟩])
 (.ret)))))⟩
/-- impl.txVote -/
def r38 : RF :=
 ⟨3, [.cell 6 10 true, .tmp 7],
 .seq (.reg [⟨none, .locb 3 (.t 0)⟩,
  ⟨none, .loc 6 [.int .i64 0, .int .u64 0, .int .u64 0, .int .u64 0, .int .i64 0, .bool false, .bool false, .bool false, .bool false, .int .i64 0]⟩,
  ⟨none, .mov 7 (.k (.bool false))⟩])
 (.seq (.seq (.reg [⟨none, .load 8 3 10 true⟩,
   ⟨none, .call (some 9) 28 [(.t 8)] false⟩,
   ⟨none, .not 10 (.t 9)⟩,
   ⟨none, .mov 11 (.t 10)⟩,
   ⟨some (11, false), .fad 12 3 4⟩,
   ⟨some (11, false), .load 13 12 1 false⟩,
   ⟨some (11, false), .bin 14 .neq (.t 13) (.k (.int .i64 0))⟩,
   ⟨none, .pick 15 (.t 11) (.k (.bool true)) (.t 14)⟩,
   ⟨none, .mov 16 (.t 15)⟩,
   ⟨some (16, false), .mov 17 (.t 1)⟩,
   ⟨some (16, false), .bin 18 .lss (.t 17) (.k (.int .i64 0))⟩,
   ⟨none, .pick 19 (.t 16) (.k (.bool true)) (.t 18)⟩,
   ⟨none, .mov 20 (.t 19)⟩,
   ⟨some (20, false), .mov 21 (.t 1)⟩,
   ⟨some (20, false), .bin 22 .gtr (.t 21) (.k (.int .i64 1))⟩,
   ⟨none, .pick 23 (.t 20) (.k (.bool true)) (.t 22)⟩,
   ⟨none, .mov 24 (.t 23)⟩,
   ⟨some (24, false), .mov 25 (.t 2)⟩,
   ⟨some (24, false), .bin 26 .lss (.t 25) (.k (.int .i64 0))⟩,
   ⟨none, .pick 27 (.t 24) (.k (.bool true)) (.t 26)⟩,
   ⟨none, .mov 28 (.t 27)⟩,
   ⟨some (28, false), .mov 29 (.t 2)⟩,
   ⟨some (28, false), .bin 30 .gtr (.t 29) (.k (.int .i64 99))⟩,
   ⟨none, .pick 31 (.t 28) (.k (.bool true)) (.t 30)⟩,
   ⟨none, .mov 32 (.t 31)⟩,
   ⟨some (32, false), .mov 33 (.t 1)⟩,
   ⟨some (32, false), .bin 34 .eql (.t 33) (.k (.int .i64 0))⟩,
   ⟨some (32, false), .mov 35 (.t 34)⟩,
   ⟨some (35, true), .fad 36 3 5⟩,
   ⟨some (35, true), .load 37 36 1 false⟩,
   ⟨some (32, false), .pick 38 (.t 35) (.t 37) (.k (.bool false))⟩,
   ⟨none, .pick 39 (.t 32) (.k (.bool true)) (.t 38)⟩,
   ⟨none, .mov 40 (.t 39)⟩,
   ⟨some (40, false), .mov 41 (.t 1)⟩,
   ⟨some (40, false), .bin 42 .eql (.t 41) (.k (.int .i64 1))⟩,
   ⟨some (40, false), .mov 43 (.t 42)⟩,
   ⟨some (43, true), .fad 44 3 6⟩,
   ⟨some (43, true), .load 45 44 1 false⟩,
   ⟨some (40, false), .pick 46 (.t 43) (.t 45) (.k (.bool false))⟩,
   ⟨none, .pick 47 (.t 40) (.k (.bool true)) (.t 46)⟩])
  (.cond (.t 47)
  (.seq (.reg [⟨none, .load 48 3 10 true⟩,
    ⟨none, .store 6 10 (.t 48)⟩,
    ⟨none, .mov 7 (.k (.bool false))⟩])
   (.ret))
  (.skip)))
 (.seq (.seq (.reg [⟨none, .mov 49 (.t 2)⟩,
   ⟨none, .bin 50 .gtr (.t 49) (.k (.int .i64 0))⟩])
  (.cond (.t 50)
  (.seq (.reg [⟨none, .fad 51 3 4⟩,
    ⟨none, .store 51 1 (.k (.int .i64 2))⟩])
   (.seq (.reg [⟨none, .mov 52 (.t 2)⟩,
    ⟨none, .fad 53 3 9⟩,
    ⟨none, .store 53 1 (.t 52)⟩])
   (.seq (.reg [⟨none, .load 54 3 10 true⟩,
    ⟨none, .store 6 10 (.t 54)⟩,
    ⟨none, .mov 7 (.k (.bool true))⟩])
   (.ret))))
  (.skip)))
 (.seq (.seq (.reg [⟨none, .mov 55 (.t 1)⟩,
   ⟨none, .bin 56 .eql (.t 55) (.k (.int .i64 0))⟩])
  (.cond (.t 56)
  (.reg [⟨none, .fad 57 3 5⟩,
   ⟨none, .store 57 1 (.k (.bool true))⟩])
  (.reg [⟨none, .fad 58 3 6⟩,
   ⟨none, .store 58 1 (.k (.bool true))⟩])))
 (.seq (.seq (.reg [⟨none, .fad 59 3 5⟩,
   ⟨none, .load 60 59 1 false⟩,
   ⟨none, .mov 61 (.t 60)⟩,
   ⟨some (61, true), .fad 62 3 6⟩,
   ⟨some (61, true), .load 63 62 1 false⟩,
   ⟨none, .pick 64 (.t 61) (.t 63) (.k (.bool false))⟩])
  (.cond (.t 64)
  (.reg [⟨none, .fad 65 3 4⟩,
   ⟨none, .store 65 1 (.k (.int .i64 1))⟩])
  (.skip)))
 (.seq (.reg [⟨none, .load 66 3 10 true⟩,
  ⟨none, .store 6 10 (.t 66)⟩,
  ⟨none, .mov 7 (.k (.bool true))⟩])
 (.ret))))))⟩
/-- impl.TxSends -/
def r47 : RF :=
 ⟨1, [.tmp 2],
 .seq (.reg [⟨none, .locb 1 (.t 0)⟩,
  ⟨none, .mov 2 (.k (.nil))⟩])
 (.seq (.seq (.reg [⟨none, .load 5 1 10 true⟩,
   ⟨none, .call (some 6) 28 [(.t 5)] false⟩,
   ⟨none, .not 7 (.t 6)⟩])
  (.cond (.t 7)
  (.seq (.reg [⟨none, .mov 2 (.k (.nil))⟩])
   (.ret))
  (.skip)))
 (.seq (.reg [⟨none, .lit 8 3 0 [.int .i64 0, .int .i64 0, .int .u64 0, .int .u64 0, .int .i64 0] []⟩,
  ⟨none, .mov 3 (.t 8)⟩])
 (.seq (.seq (.reg [⟨none, .fad 9 1 4⟩,
   ⟨none, .load 10 9 1 false⟩])
  (.block 0 (.seq (.reg [⟨none, .bin 12 .eql (.t 10) (.k (.int .i64 0))⟩,
    ⟨none, .mov 11 (.t 12)⟩])
   (.cond (.t 11)
   (.seq (.seq (.reg [⟨none, .fad 13 1 5⟩,
      ⟨none, .load 14 13 1 false⟩,
      ⟨none, .not 15 (.t 14)⟩])
     (.cond (.t 15)
     (.reg [⟨none, .mov 16 (.t 3)⟩,
      ⟨none, .fad 17 1 1⟩,
      ⟨none, .load 18 17 1 false⟩,
      ⟨none, .fad 19 1 3⟩,
      ⟨none, .load 20 19 1 false⟩,
      ⟨none, .fad 21 1 0⟩,
      ⟨none, .load 22 21 1 false⟩,
      ⟨none, .build 23 [.int .i64 0, .int .i64 0, .int .u64 0, .int .u64 0, .int .i64 0] [(1, 1, (.k (.int .i64 4))), (2, 1, (.t 18)), (3, 1, (.t 20)), (4, 1, (.t 22))]⟩,
      ⟨none, .lit 24 3 1 [.int .i64 0, .int .i64 0, .int .u64 0, .int .u64 0, .int .i64 0] [(0, (.t 23))]⟩,
      ⟨none, .app 25 3 40 (.t 16) (.t 24)⟩,
      ⟨none, .mov 3 (.t 25)⟩])
     (.skip)))
    (.seq (.reg [⟨none, .fad 26 1 6⟩,
     ⟨none, .load 27 26 1 false⟩,
     ⟨none, .not 28 (.t 27)⟩])
    (.cond (.t 28)
    (.reg [⟨none, .mov 29 (.t 3)⟩,
     ⟨none, .fad 30 1 2⟩,
     ⟨none, .load 31 30 1 false⟩,
     ⟨none, .fad 32 1 3⟩,
     ⟨none, .load 33 32 1 false⟩,
     ⟨none, .fad 34 1 0⟩,
     ⟨none, .load 35 34 1 false⟩,
     ⟨none, .build 36 [.int .i64 0, .int .i64 0, .int .u64 0, .int .u64 0, .int .i64 0] [(1, 1, (.k (.int .i64 5))), (2, 1, (.t 31)), (3, 1, (.t 33)), (4, 1, (.t 35))]⟩,
     ⟨none, .lit 37 3 1 [.int .i64 0, .int .i64 0, .int .u64 0, .int .u64 0, .int .i64 0] [(0, (.t 36))]⟩,
     ⟨none, .app 38 3 40 (.t 29) (.t 37)⟩,
     ⟨none, .mov 3 (.t 38)⟩])
    (.skip))))
   (.seq (.seq (.reg [⟨none, .bin 40 .eql (.t 10) (.k (.int .i64 1))⟩,
      ⟨none, .mov 39 (.t 40)⟩])
     (.cond (.t 39)
     (.skip)
     (.reg [⟨none, .bin 41 .eql (.t 10) (.k (.int .i64 2))⟩,
      ⟨none, .mov 39 (.t 41)⟩])))
    (.cond (.t 39)
    (.seq (.reg [⟨none, .mov 4 (.k (.int .i64 6))⟩])
     (.seq (.seq (.reg [⟨none, .fad 42 1 4⟩,
       ⟨none, .load 43 42 1 false⟩,
       ⟨none, .bin 44 .eql (.t 43) (.k (.int .i64 2))⟩])
      (.cond (.t 44)
      (.reg [⟨none, .mov 4 (.k (.int .i64 7))⟩])
      (.skip)))
     (.seq (.seq (.reg [⟨none, .fad 45 1 7⟩,
       ⟨none, .load 46 45 1 false⟩,
       ⟨none, .not 47 (.t 46)⟩])
      (.cond (.t 47)
      (.reg [⟨none, .mov 48 (.t 3)⟩,
       ⟨none, .mov 49 (.t 4)⟩,
       ⟨none, .fad 50 1 1⟩,
       ⟨none, .load 51 50 1 false⟩,
       ⟨none, .fad 52 1 0⟩,
       ⟨none, .load 53 52 1 false⟩,
       ⟨none, .build 54 [.int .i64 0, .int .i64 0, .int .u64 0, .int .u64 0, .int .i64 0] [(1, 1, (.t 49)), (2, 1, (.t 51)), (4, 1, (.t 53))]⟩,
       ⟨none, .lit 55 3 1 [.int .i64 0, .int .i64 0, .int .u64 0, .int .u64 0, .int .i64 0] [(0, (.t 54))]⟩,
       ⟨none, .app 56 3 40 (.t 48) (.t 55)⟩,
       ⟨none, .mov 3 (.t 56)⟩])
      (.skip)))
     (.seq (.reg [⟨none, .fad 57 1 8⟩,
      ⟨none, .load 58 57 1 false⟩,
      ⟨none, .not 59 (.t 58)⟩])
     (.cond (.t 59)
     (.reg [⟨none, .mov 60 (.t 3)⟩,
      ⟨none, .mov 61 (.t 4)⟩,
      ⟨none, .fad 62 1 2⟩,
      ⟨none, .load 63 62 1 false⟩,
      ⟨none, .fad 64 1 0⟩,
      ⟨none, .load 65 64 1 false⟩,
      ⟨none, .build 66 [.int .i64 0, .int .i64 0, .int .u64 0, .int .u64 0, .int .i64 0] [(1, 1, (.t 61)), (2, 1, (.t 63)), (4, 1, (.t 65))]⟩,
      ⟨none, .lit 67 3 1 [.int .i64 0, .int .i64 0, .int .u64 0, .int .u64 0, .int .i64 0] [(0, (.t 66))]⟩,
      ⟨none, .app 68 3 40 (.t 60) (.t 67)⟩,
      ⟨none, .mov 3 (.t 68)⟩])
     (.skip))))))
    (.skip)))))))
 (.seq (.reg [⟨none, .mov 69 (.t 3)⟩,
  ⟨none, .mov 2 (.t 69)⟩])
 (.ret)))))⟩
/-- A loop of impl.PlayTx. -/
def r60L0 : RC :=
 .seq (.reg [⟨none, .bin 23 .lss (.t 22) (.t 21)⟩])
    (.seq (.cond (.t 23)
     (.skip)
     (.exit 0))
    (.seq (.block 1 (.seq (.reg [⟨none, .idx 24 5 (.t 20) (.t 22)⟩,
       ⟨none, .load 25 24 3 true⟩,
       ⟨none, .loc 8 [.int .i64 0, .int .i64 0, .int .i64 0]⟩,
       ⟨none, .store 8 3 (.t 25)⟩])
      (.seq (.reg [⟨none, .mov 9 (.k (.bool false))⟩])
      (.seq (.seq (.reg [⟨none, .fad 26 8 0⟩,
        ⟨none, .load 27 26 1 false⟩])
       (.block 2 (.seq (.reg [⟨none, .bin 29 .eql (.t 27) (.k (.int .i64 0))⟩,
         ⟨none, .mov 28 (.t 29)⟩])
        (.cond (.t 28)
        (.reg [⟨none, .load 31 2 10 true⟩,
         ⟨none, .fad 32 8 1⟩,
         ⟨none, .load 33 32 1 false⟩,
         ⟨none, .fad 34 8 2⟩,
         ⟨none, .load 35 34 1 false⟩,
         ⟨none, .call (some 36) 38 [(.t 31), (.t 33), (.t 35)] false⟩,
         ⟨none, .mov 30 (.t 36)⟩,
         ⟨none, .ext 37 (.t 30) 0⟩,
         ⟨none, .ext 38 (.t 30) 1⟩,
         ⟨none, .store 2 10 (.t 37)⟩,
         ⟨none, .mov 9 (.t 38)⟩])
        (.seq (.reg [⟨none, .bin 40 .eql (.t 27) (.k (.int .i64 1))⟩,
          ⟨none, .mov 39 (.t 40)⟩])
         (.cond (.t 39)
         (.reg [⟨none, .load 42 2 10 true⟩,
          ⟨none, .fad 43 8 1⟩,
          ⟨none, .load 44 43 1 false⟩,
          ⟨none, .call (some 45) 37 [(.t 42), (.t 44)] false⟩,
          ⟨none, .mov 41 (.t 45)⟩,
          ⟨none, .ext 46 (.t 41) 0⟩,
          ⟨none, .ext 47 (.t 41) 1⟩,
          ⟨none, .store 2 10 (.t 46)⟩,
          ⟨none, .mov 9 (.t 47)⟩])
         (.seq (.reg [⟨none, .bin 49 .eql (.t 27) (.k (.int .i64 2))⟩,
           ⟨none, .mov 48 (.t 49)⟩])
          (.cond (.t 48)
          (.reg [⟨none, .load 51 2 10 true⟩,
           ⟨none, .fad 52 8 2⟩,
           ⟨none, .load 53 52 1 false⟩,
           ⟨none, .call (some 54) 29 [(.t 51), (.t 53)] false⟩,
           ⟨none, .mov 50 (.t 54)⟩,
           ⟨none, .ext 55 (.t 50) 0⟩,
           ⟨none, .ext 56 (.t 50) 1⟩,
           ⟨none, .store 2 10 (.t 55)⟩,
           ⟨none, .mov 9 (.t 56)⟩])
          (.skip)))))))))
      (.reg [⟨none, .mov 57 (.t 6)⟩,
      ⟨none, .mov 58 (.t 9)⟩,
      ⟨none, .lit 59 4 1 [.bool false] [(0, (.t 58))]⟩,
      ⟨none, .app 60 4 1 (.t 57) (.t 59)⟩,
      ⟨none, .mov 6 (.t 60)⟩])))))
    (.reg [⟨none, .bin 61 .add (.t 22) (.k (.int .i64 1))⟩,
    ⟨none, .mov 22 (.t 61)⟩])))
/-- impl.PlayTx -/
def r60 : RF :=
 ⟨2, [.cell 4 10 true, .tmp 5],
 .seq (.reg [⟨none, .locb 2 (.t 0)⟩,
  ⟨none, .loc 4 [.int .i64 0, .int .u64 0, .int .u64 0, .int .u64 0, .int .i64 0, .bool false, .bool false, .bool false, .bool false, .int .i64 0]⟩,
  ⟨none, .mov 5 (.k (.nil))⟩])
 (.seq (.seq (.reg [⟨none, .load 10 2 10 true⟩,
   ⟨none, .call (some 11) 28 [(.t 10)] false⟩,
   ⟨none, .not 12 (.t 11)⟩,
   ⟨none, .mov 13 (.t 12)⟩,
   ⟨some (13, false), .mov 14 (.t 1)⟩,
   ⟨some (13, false), .len 15 (.t 14)⟩,
   ⟨some (13, false), .bin 16 .gtr (.t 15) (.k (.int .i64 100))⟩,
   ⟨none, .pick 17 (.t 13) (.k (.bool true)) (.t 16)⟩])
  (.cond (.t 17)
  (.seq (.reg [⟨none, .load 18 2 10 true⟩,
    ⟨none, .store 4 10 (.t 18)⟩,
    ⟨none, .mov 5 (.k (.nil))⟩])
   (.ret))
  (.skip)))
 (.seq (.reg [⟨none, .lit 19 4 0 [.bool false] []⟩,
  ⟨none, .mov 6 (.t 19)⟩])
 (.seq (.seq (.reg [⟨none, .mov 20 (.t 1)⟩,
   ⟨none, .len 21 (.t 20)⟩,
   ⟨none, .mov 22 (.k (.int .i64 0))⟩])
  (.block 0 (.loop [2, 4, 6, 20, 21, 22]
   r60L0)))
 (.seq (.reg [⟨none, .load 62 2 10 true⟩,
  ⟨none, .mov 63 (.t 6)⟩,
  ⟨none, .store 4 10 (.t 62)⟩,
  ⟨none, .mov 5 (.t 63)⟩])
 (.ret)))))⟩
/-- The functions of this text, with their numbers. -/
def tI14 : List (Nat × RF) := [(15, r15), (18, r18), (21, r21), (25, r25), (28, r28), (29, r29), (30, r30), (33, r33), (36, r36), (37, r37), (38, r38), (47, r47), (60, r60)]
end Go.Proofs.Ytlbagejkjkfkjaa.A
/- The compact code of some functions: laws.big, laws.at. -/
namespace Go.Proofs.Ytlbagejkjkfkjaa.A
open Go
/-- laws.big -/
def r144 : RF :=
 ⟨1, [.tmp 2],
 .seq (.reg [⟨none, .mov 2 (.k (.bool false))⟩])
 (.seq (.reg [⟨none, .mov 3 (.t 0)⟩,
  ⟨none, .len 4 (.t 3)⟩,
  ⟨none, .bin 5 .gtr (.t 4) (.k (.int .i64 1048576))⟩,
  ⟨none, .mov 2 (.t 5)⟩])
 (.ret))⟩
/-- laws.at -/
def r177 : RF :=
 ⟨2, [.tmp 4],
 .seq (.reg [⟨none, .mov 4 (.k (.int .i64 0))⟩])
 (.seq (.seq (.reg [⟨none, .mov 5 (.t 1)⟩,
   ⟨none, .mov 6 (.t 0)⟩,
   ⟨none, .len 7 (.t 6)⟩,
   ⟨none, .bin 8 .lss (.t 5) (.t 7)⟩])
  (.cond (.t 8)
  (.seq (.reg [⟨none, .mov 9 (.t 0)⟩,
    ⟨none, .mov 10 (.t 1)⟩,
    ⟨none, .idx 11 19 (.t 9) (.t 10)⟩,
    ⟨none, .load 12 11 1 false⟩,
    ⟨none, .conv 13 .i64 (.t 12)⟩,
    ⟨none, .mov 4 (.t 13)⟩])
   (.ret))
  (.skip)))
 (.seq (.reg [⟨none, .mov 14 (.t 1)⟩,
  ⟨none, .bin 15 .mul (.t 14) (.k (.int .i64 13))⟩,
  ⟨none, .mov 16 (.t 0)⟩,
  ⟨none, .len 17 (.t 16)⟩,
  ⟨none, .bin 18 .mul (.t 17) (.k (.int .i64 5))⟩,
  ⟨none, .bin 19 .add (.t 15) (.t 18)⟩,
  ⟨none, .bin 20 .rem (.t 19) (.k (.int .i64 256))⟩,
  ⟨none, .mov 4 (.t 20)⟩])
 (.ret)))⟩
/-- The functions of this text, with their numbers. -/
def tLaws : List (Nat × RF) := [(144, r144), (177, r177)]
end Go.Proofs.Ytlbagejkjkfkjaa.A
/- The compact code of some functions: spec.l01In, spec.l01New, spec.l01Below, spec.l01Size, spec.l01PickInt, spec.l01Once, spec.l01Byte, spec.l01Big, spec.l01Has. -/
namespace Go.Proofs.Ytlbagejkjkfkjaa.A
open Go
/-- spec.l01In -/
def r5 : RF :=
 ⟨3, [.tmp 6],
 .seq (.reg [⟨none, .mov 6 (.k (.bool false))⟩])
 (.seq (.reg [⟨none, .mov 7 (.t 1)⟩,
  ⟨none, .mov 8 (.t 0)⟩,
  ⟨none, .bin 9 .leq (.t 7) (.t 8)⟩,
  ⟨none, .mov 10 (.t 9)⟩,
  ⟨some (10, true), .mov 11 (.t 0)⟩,
  ⟨some (10, true), .mov 12 (.t 2)⟩,
  ⟨some (10, true), .bin 13 .leq (.t 11) (.t 12)⟩,
  ⟨none, .pick 14 (.t 10) (.t 13) (.k (.bool false))⟩,
  ⟨none, .mov 6 (.t 14)⟩])
 (.ret))⟩
/-- A loop of spec.l01New. -/
def r194L0 : RC :=
 .seq (.seq (.reg [⟨none, .mov 8 (.t 4)⟩,
      ⟨none, .mov 9 (.t 0)⟩,
      ⟨none, .len 10 (.t 9)⟩,
      ⟨none, .bin 11 .lss (.t 8) (.t 10)⟩,
      ⟨none, .mov 12 (.t 11)⟩,
      ⟨some (12, true), .mov 13 (.t 4)⟩,
      ⟨some (12, true), .bin 14 .lss (.t 13) (.k (.int .i64 4000))⟩,
      ⟨none, .pick 15 (.t 12) (.t 14) (.k (.bool false))⟩])
     (.cond (.t 15)
     (.skip)
     (.exit 0)))
    (.seq (.block 1 (.reg [⟨none, .mov 18 (.t 3)⟩,
      ⟨none, .bin 19 .mul (.t 18) (.k (.int .i64 149))⟩,
      ⟨none, .mov 20 (.t 0)⟩,
      ⟨none, .mov 21 (.t 4)⟩,
      ⟨none, .idx 22 19 (.t 20) (.t 21)⟩,
      ⟨none, .load 23 22 1 false⟩,
      ⟨none, .conv 24 .i64 (.t 23)⟩,
      ⟨none, .bin 25 .add (.t 19) (.t 24)⟩,
      ⟨none, .bin 26 .add (.t 25) (.k (.int .i64 11))⟩,
      ⟨none, .bin 27 .and (.t 26) (.k (.int .i64 1073741823))⟩,
      ⟨none, .mov 3 (.t 27)⟩]))
    (.reg [⟨none, .mov 16 (.t 4)⟩,
    ⟨none, .bin 17 .add (.t 16) (.k (.int .i64 1))⟩,
    ⟨none, .mov 4 (.t 17)⟩]))
/-- spec.l01New -/
def r194 : RF :=
 ⟨1, [.tmp 2],
 .seq (.reg [⟨none, .mov 2 (.k (.nilp))⟩])
 (.seq (.reg [⟨none, .mov 5 (.t 0)⟩,
  ⟨none, .len 6 (.t 5)⟩,
  ⟨none, .bin 7 .add (.k (.int .i64 138138)) (.t 6)⟩,
  ⟨none, .mov 3 (.t 7)⟩])
 (.seq (.seq (.reg [⟨none, .mov 4 (.k (.int .i64 0))⟩])
  (.block 0 (.loop [0, 3, 4]
   r194L0)))
 (.seq (.reg [⟨none, .mov 28 (.t 0)⟩,
  ⟨none, .mov 29 (.t 3)⟩,
  ⟨none, .build 30 [.nil, .int .i64 0, .int .i64 0] [(0, 1, (.t 28)), (2, 1, (.t 29))]⟩,
  ⟨none, .newb 31 (.t 30)⟩,
  ⟨none, .mov 2 (.t 31)⟩])
 (.ret))))⟩
/-- spec.l01Below -/
def r236 : RF :=
 ⟨2, [.tmp 4],
 .seq (.reg [⟨none, .mov 4 (.k (.int .i64 0))⟩])
 (.seq (.seq (.reg [⟨none, .mov 8 (.t 1)⟩,
   ⟨none, .bin 9 .leq (.t 8) (.k (.int .i64 0))⟩])
  (.cond (.t 9)
  (.seq (.reg [⟨none, .mov 4 (.k (.int .i64 0))⟩])
   (.ret))
  (.skip)))
 (.seq (.seq (.reg [⟨none, .mov 10 (.t 1)⟩,
   ⟨none, .bin 11 .leq (.t 10) (.k (.int .i64 256))⟩])
  (.cond (.t 11)
  (.seq (.reg [⟨none, .mov 12 (.t 0)⟩,
    ⟨none, .call (some 13) 263 [(.t 12)] false⟩,
    ⟨none, .mov 14 (.t 1)⟩,
    ⟨none, .bin 15 .rem (.t 13) (.t 14)⟩,
    ⟨none, .mov 4 (.t 15)⟩])
   (.ret))
  (.skip)))
 (.seq (.reg [⟨none, .mov 16 (.t 0)⟩,
  ⟨none, .call (some 17) 263 [(.t 16)] false⟩,
  ⟨none, .mov 5 (.t 17)⟩])
 (.seq (.reg [⟨none, .mov 18 (.t 0)⟩,
  ⟨none, .call (some 19) 263 [(.t 18)] false⟩,
  ⟨none, .mov 6 (.t 19)⟩])
 (.seq (.reg [⟨none, .mov 20 (.t 0)⟩,
  ⟨none, .call (some 21) 263 [(.t 20)] false⟩,
  ⟨none, .mov 7 (.t 21)⟩])
 (.seq (.reg [⟨none, .mov 22 (.t 5)⟩,
  ⟨none, .bin 23 .mul (.t 22) (.k (.int .i64 65536))⟩,
  ⟨none, .mov 24 (.t 6)⟩,
  ⟨none, .bin 25 .mul (.t 24) (.k (.int .i64 256))⟩,
  ⟨none, .bin 26 .add (.t 23) (.t 25)⟩,
  ⟨none, .mov 27 (.t 7)⟩,
  ⟨none, .bin 28 .add (.t 26) (.t 27)⟩,
  ⟨none, .mov 29 (.t 1)⟩,
  ⟨none, .bin 30 .rem (.t 28) (.t 29)⟩,
  ⟨none, .mov 4 (.t 30)⟩])
 (.ret)))))))⟩
/-- spec.l01Size -/
def r238 : RF :=
 ⟨2, [.tmp 4],
 .seq (.reg [⟨none, .mov 4 (.k (.int .i64 0))⟩])
 (.seq (.reg [⟨none, .mov 6 (.t 0)⟩,
  ⟨none, .len 7 (.t 6)⟩,
  ⟨none, .bin 8 .quo (.t 7) (.k (.int .i64 16))⟩,
  ⟨none, .bin 9 .add (.k (.int .i64 2)) (.t 8)⟩,
  ⟨none, .mov 5 (.t 9)⟩])
 (.seq (.seq (.reg [⟨none, .mov 10 (.t 5)⟩,
   ⟨none, .mov 11 (.t 1)⟩,
   ⟨none, .bin 12 .gtr (.t 10) (.t 11)⟩])
  (.cond (.t 12)
  (.seq (.reg [⟨none, .mov 13 (.t 1)⟩,
    ⟨none, .mov 4 (.t 13)⟩])
   (.ret))
  (.skip)))
 (.seq (.reg [⟨none, .mov 14 (.t 5)⟩,
  ⟨none, .mov 4 (.t 14)⟩])
 (.ret))))⟩
/-- spec.l01PickInt -/
def r239 : RF :=
 ⟨2, [.tmp 4],
 .seq (.reg [⟨none, .mov 4 (.k (.int .i64 0))⟩])
 (.seq (.reg [⟨none, .mov 5 (.t 1)⟩,
  ⟨none, .mov 6 (.t 0)⟩,
  ⟨none, .mov 7 (.t 1)⟩,
  ⟨none, .len 8 (.t 7)⟩,
  ⟨none, .call (some 9) 236 [(.t 6), (.t 8)] false⟩,
  ⟨none, .idx 10 15 (.t 5) (.t 9)⟩,
  ⟨none, .load 11 10 1 false⟩,
  ⟨none, .mov 4 (.t 11)⟩])
 (.ret))⟩
/-- spec.l01Once -/
def r240 : RF :=
 ⟨2, [.tmp 4],
 .seq (.reg [⟨none, .mov 4 (.k (.bool false))⟩])
 (.seq (.reg [⟨none, .mov 5 (.t 0)⟩,
  ⟨none, .mov 6 (.t 1)⟩,
  ⟨none, .call (some 7) 236 [(.t 5), (.t 6)] false⟩,
  ⟨none, .bin 8 .eql (.t 7) (.k (.int .i64 0))⟩,
  ⟨none, .mov 4 (.t 8)⟩])
 (.ret))⟩
/-- spec.l01Byte -/
def r263 : RF :=
 ⟨1, [.tmp 2],
 .seq (.reg [⟨none, .mov 2 (.k (.int .i64 0))⟩])
 (.seq (.reg [⟨none, .mov 4 (.t 0)⟩,
  ⟨none, .mov 5 (.t 0)⟩,
  ⟨none, .nilc 6 (.t 5)⟩,
  ⟨none, .fad 7 6 2⟩,
  ⟨none, .load 8 7 1 false⟩,
  ⟨none, .bin 9 .mul (.t 8) (.k (.int .i64 6364136223846793005))⟩,
  ⟨none, .bin 10 .add (.t 9) (.k (.int .i64 1442695040888963407))⟩,
  ⟨none, .nilc 11 (.t 4)⟩,
  ⟨none, .fad 12 11 2⟩,
  ⟨none, .store 12 1 (.t 10)⟩])
 (.seq (.reg [⟨none, .chk []⟩,
  ⟨none, .mov 13 (.t 0)⟩,
  ⟨none, .nilc 14 (.t 13)⟩,
  ⟨none, .mov 18 (.t 0)⟩,
  ⟨none, .nilc 19 (.t 18)⟩,
  ⟨none, .fad 15 14 2⟩,
  ⟨none, .load 16 15 1 false⟩,
  ⟨none, .bin 17 .shr (.t 16) (.k (.int .u64 33))⟩,
  ⟨none, .fad 20 19 2⟩,
  ⟨none, .load 21 20 1 false⟩,
  ⟨none, .bin 22 .shr (.t 21) (.k (.int .u64 45))⟩,
  ⟨none, .bin 23 .xor (.t 17) (.t 22)⟩,
  ⟨none, .bin 24 .and (.t 23) (.k (.int .i64 255))⟩,
  ⟨none, .mov 3 (.t 24)⟩])
 (.seq (.seq (.reg [⟨none, .chk []⟩,
   ⟨none, .mov 25 (.t 0)⟩,
   ⟨none, .nilc 26 (.t 25)⟩,
   ⟨none, .mov 29 (.t 0)⟩,
   ⟨none, .nilc 30 (.t 29)⟩,
   ⟨none, .fad 27 26 1⟩,
   ⟨none, .load 28 27 1 false⟩,
   ⟨none, .fad 31 30 0⟩,
   ⟨none, .load 32 31 1 false⟩,
   ⟨none, .len 33 (.t 32)⟩,
   ⟨none, .bin 34 .lss (.t 28) (.t 33)⟩])
  (.cond (.t 34)
  (.seq (.reg [⟨none, .chk []⟩,
    ⟨none, .mov 35 (.t 3)⟩,
    ⟨none, .mov 36 (.t 0)⟩,
    ⟨none, .nilc 37 (.t 36)⟩,
    ⟨none, .mov 40 (.t 0)⟩,
    ⟨none, .nilc 41 (.t 40)⟩,
    ⟨none, .fad 38 37 0⟩,
    ⟨none, .load 39 38 1 false⟩,
    ⟨none, .fad 42 41 1⟩,
    ⟨none, .load 43 42 1 false⟩,
    ⟨none, .idx 44 19 (.t 39) (.t 43)⟩,
    ⟨none, .load 45 44 1 false⟩,
    ⟨none, .conv 46 .i64 (.t 45)⟩,
    ⟨none, .bin 47 .add (.t 35) (.t 46)⟩,
    ⟨none, .bin 48 .and (.t 47) (.k (.int .i64 255))⟩,
    ⟨none, .mov 3 (.t 48)⟩])
   (.reg [⟨none, .mov 49 (.t 0)⟩,
   ⟨none, .mov 50 (.t 0)⟩,
   ⟨none, .nilc 51 (.t 50)⟩,
   ⟨none, .fad 52 51 1⟩,
   ⟨none, .load 53 52 1 false⟩,
   ⟨none, .bin 54 .add (.t 53) (.k (.int .i64 1))⟩,
   ⟨none, .nilc 55 (.t 49)⟩,
   ⟨none, .fad 56 55 1⟩,
   ⟨none, .store 56 1 (.t 54)⟩]))
  (.skip)))
 (.seq (.reg [⟨none, .mov 57 (.t 3)⟩,
  ⟨none, .mov 2 (.t 57)⟩])
 (.ret)))))⟩
/-- A loop of spec.l01Big. -/
def r264L0 : RC :=
 .seq (.seq (.reg [⟨none, .mov 28 (.t 4)⟩,
      ⟨none, .bin 29 .lss (.t 28) (.k (.int .i64 8))⟩])
     (.cond (.t 29)
     (.skip)
     (.exit 1)))
    (.seq (.block 2 (.reg [⟨none, .mov 32 (.t 3)⟩,
      ⟨none, .bin 33 .mul (.t 32) (.k (.int .u64 256))⟩,
      ⟨none, .mov 34 (.t 0)⟩,
      ⟨none, .call (some 35) 236 [(.t 34), (.k (.int .i64 256))] false⟩,
      ⟨none, .conv 36 .u64 (.t 35)⟩,
      ⟨none, .bin 37 .add (.t 33) (.t 36)⟩,
      ⟨none, .mov 3 (.t 37)⟩]))
    (.reg [⟨none, .mov 30 (.t 4)⟩,
    ⟨none, .bin 31 .add (.t 30) (.k (.int .i64 1))⟩,
    ⟨none, .mov 4 (.t 31)⟩]))
/-- spec.l01Big -/
def r264 : RF :=
 ⟨1, [.tmp 2],
 .seq (.reg [⟨none, .mov 2 (.k (.int .u64 0))⟩])
 (.seq (.reg [⟨none, .mov 3 (.k (.int .u64 0))⟩])
 (.seq (.seq (.reg [⟨none, .mov 5 (.t 0)⟩,
   ⟨none, .call (some 6) 236 [(.t 5), (.k (.int .i64 8))] false⟩])
  (.block 0 (.seq (.reg [⟨none, .bin 8 .eql (.t 6) (.k (.int .i64 0))⟩,
    ⟨none, .mov 7 (.t 8)⟩])
   (.cond (.t 7)
   (.seq (.reg [⟨none, .mov 2 (.k (.int .u64 0))⟩])
    (.ret))
   (.seq (.reg [⟨none, .bin 10 .eql (.t 6) (.k (.int .i64 1))⟩,
     ⟨none, .mov 9 (.t 10)⟩])
    (.cond (.t 9)
    (.seq (.reg [⟨none, .mov 2 (.k (.int .u64 18446744073709551615))⟩])
     (.ret))
    (.seq (.reg [⟨none, .bin 12 .eql (.t 6) (.k (.int .i64 2))⟩,
      ⟨none, .mov 11 (.t 12)⟩])
     (.cond (.t 11)
     (.seq (.reg [⟨none, .mov 13 (.t 0)⟩,
       ⟨none, .call (some 14) 236 [(.t 13), (.k (.int .i64 300))] false⟩,
       ⟨none, .conv 15 .u64 (.t 14)⟩,
       ⟨none, .mov 2 (.t 15)⟩])
      (.ret))
     (.seq (.reg [⟨none, .bin 17 .eql (.t 6) (.k (.int .i64 3))⟩,
       ⟨none, .mov 16 (.t 17)⟩])
      (.cond (.t 16)
      (.seq (.reg [⟨none, .mov 18 (.t 0)⟩,
        ⟨none, .call (some 19) 236 [(.t 18), (.k (.int .i64 300))] false⟩,
        ⟨none, .conv 20 .u64 (.t 19)⟩,
        ⟨none, .bin 21 .sub (.k (.int .u64 18446744073709551615)) (.t 20)⟩,
        ⟨none, .mov 2 (.t 21)⟩])
       (.ret))
      (.seq (.reg [⟨none, .bin 23 .eql (.t 6) (.k (.int .i64 4))⟩,
        ⟨none, .mov 22 (.t 23)⟩])
       (.cond (.t 22)
       (.seq (.reg [⟨none, .mov 24 (.t 0)⟩,
         ⟨none, .call (some 25) 236 [(.t 24), (.k (.int .i64 64))] false⟩,
         ⟨none, .conv 26 .u64 (.t 25)⟩,
         ⟨none, .bin 27 .shl (.k (.int .u64 1)) (.t 26)⟩,
         ⟨none, .mov 2 (.t 27)⟩])
        (.ret))
       (.skip)))))))))))))
 (.seq (.seq (.reg [⟨none, .mov 4 (.k (.int .i64 0))⟩])
  (.block 1 (.loop [0, 3, 4]
   r264L0)))
 (.seq (.reg [⟨none, .mov 38 (.t 3)⟩,
  ⟨none, .mov 39 (.t 0)⟩,
  ⟨none, .call (some 40) 236 [(.t 39), (.k (.int .i64 64))] false⟩,
  ⟨none, .conv 41 .u64 (.t 40)⟩,
  ⟨none, .bin 42 .shr (.t 38) (.t 41)⟩,
  ⟨none, .mov 2 (.t 42)⟩])
 (.ret)))))⟩
/-- A loop of spec.l01Has. -/
def r377L0 : RC :=
 .seq (.seq (.reg [⟨none, .mov 6 (.t 5)⟩,
      ⟨none, .mov 7 (.t 0)⟩,
      ⟨none, .len 8 (.t 7)⟩,
      ⟨none, .bin 9 .lss (.t 6) (.t 8)⟩])
     (.cond (.t 9)
     (.skip)
     (.exit 0)))
    (.seq (.block 1 (.seq (.reg [⟨none, .mov 12 (.t 0)⟩,
       ⟨none, .mov 13 (.t 5)⟩,
       ⟨none, .idx 14 15 (.t 12) (.t 13)⟩,
       ⟨none, .load 15 14 1 false⟩,
       ⟨none, .mov 16 (.t 1)⟩,
       ⟨none, .bin 17 .eql (.t 15) (.t 16)⟩])
      (.cond (.t 17)
      (.seq (.reg [⟨none, .mov 4 (.k (.bool true))⟩])
       (.ret))
      (.skip))))
    (.reg [⟨none, .mov 10 (.t 5)⟩,
    ⟨none, .bin 11 .add (.t 10) (.k (.int .i64 1))⟩,
    ⟨none, .mov 5 (.t 11)⟩]))
/-- spec.l01Has -/
def r377 : RF :=
 ⟨2, [.tmp 4],
 .seq (.reg [⟨none, .mov 4 (.k (.bool false))⟩])
 (.seq (.seq (.reg [⟨none, .mov 5 (.k (.int .i64 0))⟩])
  (.block 0 (.loop [0, 1, 5]
   r377L0)))
 (.seq (.reg [⟨none, .mov 4 (.k (.bool false))⟩])
 (.ret)))⟩
/-- The functions of this text, with their numbers. -/
def tS01d : List (Nat × RF) := [(5, r5), (194, r194), (236, r236), (238, r238), (239, r239), (240, r240), (263, r263), (264, r264), (377, r377)]
end Go.Proofs.Ytlbagejkjkfkjaa.A
/- The compact code of some functions: spec.l10DrawId, spec.l10DrawAmount, spec.BookOk, spec.TotalOf, spec.l10Copy, spec.OpenAccount, spec.CloseAccount, spec.Deposit, spec.Withdraw, spec.MoveMoney, spec.l10Find, spec.l10Of, spec.l10With. -/
namespace Go.Proofs.Ytlbagejkjkfkjaa.A
open Go
/-- spec.l10DrawId -/
def r235 : RF :=
 ⟨1, [.tmp 2],
 .seq (.reg [⟨none, .mov 2 (.k (.int .u64 0))⟩])
 (.seq (.reg [⟨none, .lit 3 13 8 [.int .u64 0] [(0, (.k (.int .u64 0))), (1, (.k (.int .u64 1))), (2, (.k (.int .u64 2))), (3, (.k (.int .u64 5))), (4, (.k (.int .u64 9))), (5, (.k (.int .u64 100))), (6, (.k (.int .u64 9223372036854775808))), (7, (.k (.int .u64 18446744073709551615)))]⟩,
  ⟨none, .mov 4 (.t 0)⟩,
  ⟨none, .call (some 5) 236 [(.t 4), (.k (.int .i64 8))] false⟩,
  ⟨none, .idx 6 13 (.t 3) (.t 5)⟩,
  ⟨none, .load 7 6 1 false⟩,
  ⟨none, .mov 2 (.t 7)⟩])
 (.ret))⟩
/-- spec.l10DrawAmount -/
def r237 : RF :=
 ⟨1, [.tmp 2],
 .seq (.reg [⟨none, .mov 2 (.k (.int .u64 0))⟩])
 (.seq (.seq (.reg [⟨none, .mov 3 (.t 0)⟩,
   ⟨none, .call (some 4) 240 [(.t 3), (.k (.int .i64 5))] false⟩])
  (.cond (.t 4)
  (.seq (.reg [⟨none, .mov 5 (.t 0)⟩,
    ⟨none, .call (some 6) 264 [(.t 5)] false⟩,
    ⟨none, .mov 2 (.t 6)⟩])
   (.ret))
  (.skip)))
 (.seq (.reg [⟨none, .mov 7 (.t 0)⟩,
  ⟨none, .call (some 8) 236 [(.t 7), (.k (.int .i64 60))] false⟩,
  ⟨none, .conv 9 .u64 (.t 8)⟩,
  ⟨none, .mov 2 (.t 9)⟩])
 (.ret)))⟩
/-- A loop of spec.BookOk. -/
def r241L0 : RC :=
 .seq (.seq (.reg [⟨none, .mov 9 (.t 3)⟩,
      ⟨none, .fad 10 1 0⟩,
      ⟨none, .load 11 10 1 false⟩,
      ⟨none, .len 12 (.t 11)⟩,
      ⟨none, .bin 13 .lss (.t 9) (.t 12)⟩])
     (.cond (.t 13)
     (.skip)
     (.exit 0)))
    (.seq (.block 1 (.seq (.reg [⟨none, .fad 16 1 0⟩,
       ⟨none, .load 17 16 1 false⟩,
       ⟨none, .mov 18 (.t 3)⟩,
       ⟨none, .idx 19 11 (.t 17) (.t 18)⟩,
       ⟨none, .load 20 19 5 true⟩,
       ⟨none, .loc 4 [.int .u64 0, .int .u64 0, .int .u64 0, .int .u64 0, .int .i64 0]⟩,
       ⟨none, .store 4 5 (.t 20)⟩])
      (.seq (.seq (.reg [⟨none, .chk []⟩,
        ⟨none, .mov 21 (.t 3)⟩,
        ⟨none, .bin 22 .gtr (.t 21) (.k (.int .i64 0))⟩,
        ⟨none, .mov 23 (.t 22)⟩,
        ⟨some (23, true), .mov 26 (.t 3)⟩,
        ⟨some (23, true), .bin 27 .sub (.t 26) (.k (.int .i64 1))⟩,
        ⟨some (23, true), .fad 24 1 0⟩,
        ⟨some (23, true), .load 25 24 1 false⟩,
        ⟨some (23, true), .idx 28 11 (.t 25) (.t 27)⟩,
        ⟨some (23, true), .fad 29 28 0⟩,
        ⟨some (23, true), .load 30 29 1 false⟩,
        ⟨some (23, true), .fad 31 4 0⟩,
        ⟨some (23, true), .load 32 31 1 false⟩,
        ⟨some (23, true), .bin 33 .geq (.t 30) (.t 32)⟩,
        ⟨none, .pick 34 (.t 23) (.t 33) (.k (.bool false))⟩,
        ⟨none, .mov 35 (.t 34)⟩,
        ⟨some (35, false), .fad 36 4 4⟩,
        ⟨some (35, false), .load 37 36 1 false⟩,
        ⟨some (35, false), .bin 38 .lss (.t 37) (.k (.int .i64 0))⟩,
        ⟨none, .pick 39 (.t 35) (.k (.bool true)) (.t 38)⟩,
        ⟨none, .mov 40 (.t 39)⟩,
        ⟨some (40, false), .fad 41 4 4⟩,
        ⟨some (40, false), .load 42 41 1 false⟩,
        ⟨some (40, false), .bin 43 .eql (.t 42) (.k (.int .i64 0))⟩,
        ⟨some (40, false), .mov 44 (.t 43)⟩,
        ⟨some (44, true), .fad 45 4 2⟩,
        ⟨some (44, true), .load 46 45 1 false⟩,
        ⟨some (44, true), .bin 47 .neq (.t 46) (.k (.int .u64 0))⟩,
        ⟨some (44, true), .mov 48 (.t 47)⟩,
        ⟨some (48, false), .fad 49 4 3⟩,
        ⟨some (48, false), .load 50 49 1 false⟩,
        ⟨some (48, false), .bin 51 .neq (.t 50) (.k (.int .u64 0))⟩,
        ⟨some (44, true), .pick 52 (.t 48) (.k (.bool true)) (.t 51)⟩,
        ⟨some (40, false), .pick 53 (.t 44) (.t 52) (.k (.bool false))⟩,
        ⟨none, .pick 54 (.t 40) (.k (.bool true)) (.t 53)⟩])
       (.cond (.t 54)
       (.seq (.reg [⟨none, .mov 2 (.k (.bool false))⟩])
        (.ret))
       (.skip)))
      (.seq (.reg [⟨none, .fad 55 4 2⟩,
       ⟨none, .load 56 55 1 false⟩,
       ⟨none, .fad 57 4 1⟩,
       ⟨none, .load 58 57 1 false⟩,
       ⟨none, .bin 59 .sub (.k (.int .u64 18446744073709551615)) (.t 58)⟩,
       ⟨none, .bin 60 .gtr (.t 56) (.t 59)⟩,
       ⟨none, .mov 61 (.t 60)⟩,
       ⟨some (61, false), .fad 62 4 3⟩,
       ⟨some (61, false), .load 63 62 1 false⟩,
       ⟨some (61, false), .fad 64 4 1⟩,
       ⟨some (61, false), .load 65 64 1 false⟩,
       ⟨some (61, false), .bin 66 .sub (.k (.int .u64 18446744073709551615)) (.t 65)⟩,
       ⟨some (61, false), .fad 67 4 2⟩,
       ⟨some (61, false), .load 68 67 1 false⟩,
       ⟨some (61, false), .bin 69 .sub (.t 66) (.t 68)⟩,
       ⟨some (61, false), .bin 70 .gtr (.t 63) (.t 69)⟩,
       ⟨none, .pick 71 (.t 61) (.k (.bool true)) (.t 70)⟩])
      (.cond (.t 71)
      (.seq (.reg [⟨none, .mov 2 (.k (.bool false))⟩])
       (.ret))
      (.skip))))))
    (.reg [⟨none, .mov 14 (.t 3)⟩,
    ⟨none, .bin 15 .add (.t 14) (.k (.int .i64 1))⟩,
    ⟨none, .mov 3 (.t 15)⟩]))
/-- spec.BookOk -/
def r241 : RF :=
 ⟨1, [.tmp 2],
 .seq (.reg [⟨none, .locb 1 (.t 0)⟩,
  ⟨none, .mov 2 (.k (.bool false))⟩])
 (.seq (.seq (.reg [⟨none, .fad 5 1 0⟩,
   ⟨none, .load 6 5 1 false⟩,
   ⟨none, .len 7 (.t 6)⟩,
   ⟨none, .bin 8 .gtr (.t 7) (.k (.int .i64 40))⟩])
  (.cond (.t 8)
  (.seq (.reg [⟨none, .mov 2 (.k (.bool false))⟩])
   (.ret))
  (.skip)))
 (.seq (.seq (.reg [⟨none, .mov 3 (.k (.int .i64 0))⟩])
  (.block 0 (.loop [1, 3]
   r241L0)))
 (.seq (.reg [⟨none, .mov 2 (.k (.bool true))⟩])
 (.ret))))⟩
/-- A loop of spec.TotalOf. -/
def r245L0 : RC :=
 .seq (.seq (.reg [⟨none, .mov 11 (.t 6)⟩,
      ⟨none, .fad 12 1 0⟩,
      ⟨none, .load 13 12 1 false⟩,
      ⟨none, .len 14 (.t 13)⟩,
      ⟨none, .bin 15 .lss (.t 11) (.t 14)⟩])
     (.cond (.t 15)
     (.skip)
     (.exit 0)))
    (.seq (.block 1 (.seq (.reg [⟨none, .chk []⟩,
       ⟨none, .mov 20 (.t 6)⟩,
       ⟨none, .mov 26 (.t 6)⟩,
       ⟨none, .fad 18 1 0⟩,
       ⟨none, .load 19 18 1 false⟩,
       ⟨none, .idx 21 11 (.t 19) (.t 20)⟩,
       ⟨none, .fad 22 21 1⟩,
       ⟨none, .load 23 22 1 false⟩,
       ⟨none, .fad 24 1 0⟩,
       ⟨none, .load 25 24 1 false⟩,
       ⟨none, .idx 27 11 (.t 25) (.t 26)⟩,
       ⟨none, .fad 28 27 2⟩,
       ⟨none, .load 29 28 1 false⟩,
       ⟨none, .bin 30 .add (.t 23) (.t 29)⟩,
       ⟨none, .mov 7 (.t 30)⟩])
      (.seq (.seq (.reg [⟨none, .mov 31 (.t 7)⟩,
        ⟨none, .mov 32 (.t 5)⟩,
        ⟨none, .bin 33 .sub (.k (.int .u64 18446744073709551615)) (.t 32)⟩,
        ⟨none, .bin 34 .gtr (.t 31) (.t 33)⟩])
       (.cond (.t 34)
       (.reg [⟨none, .mov 35 (.t 4)⟩,
        ⟨none, .bin 36 .add (.t 35) (.k (.int .u64 1))⟩,
        ⟨none, .mov 4 (.t 36)⟩])
       (.skip)))
      (.reg [⟨none, .mov 37 (.t 5)⟩,
      ⟨none, .mov 38 (.t 7)⟩,
      ⟨none, .bin 39 .add (.t 37) (.t 38)⟩,
      ⟨none, .mov 5 (.t 39)⟩]))))
    (.reg [⟨none, .mov 16 (.t 6)⟩,
    ⟨none, .bin 17 .add (.t 16) (.k (.int .i64 1))⟩,
    ⟨none, .mov 6 (.t 17)⟩]))
/-- spec.TotalOf -/
def r245 : RF :=
 ⟨1, [.tmp 2, .tmp 3],
 .seq (.reg [⟨none, .locb 1 (.t 0)⟩,
  ⟨none, .mov 2 (.k (.int .u64 0))⟩,
  ⟨none, .mov 3 (.k (.int .u64 0))⟩])
 (.seq (.reg [⟨none, .mov 4 (.k (.int .u64 0))⟩,
  ⟨none, .mov 5 (.k (.int .u64 0))⟩])
 (.seq (.seq (.reg [⟨none, .load 8 1 1 true⟩,
   ⟨none, .call (some 9) 241 [(.t 8)] false⟩,
   ⟨none, .not 10 (.t 9)⟩])
  (.cond (.t 10)
  (.seq (.reg [⟨none, .mov 2 (.k (.int .u64 0))⟩,
    ⟨none, .mov 3 (.k (.int .u64 0))⟩])
   (.ret))
  (.skip)))
 (.seq (.seq (.reg [⟨none, .mov 6 (.k (.int .i64 0))⟩])
  (.block 0 (.loop [1, 4, 5, 6]
   r245L0)))
 (.seq (.reg [⟨none, .mov 40 (.t 4)⟩,
  ⟨none, .mov 41 (.t 5)⟩,
  ⟨none, .mov 2 (.t 40)⟩,
  ⟨none, .mov 3 (.t 41)⟩])
 (.ret)))))⟩
/-- A loop of spec.l10Copy. -/
def r259L0 : RC :=
 .seq (.seq (.reg [⟨none, .mov 6 (.t 4)⟩,
      ⟨none, .fad 7 1 0⟩,
      ⟨none, .load 8 7 1 false⟩,
      ⟨none, .len 9 (.t 8)⟩,
      ⟨none, .bin 10 .lss (.t 6) (.t 9)⟩])
     (.cond (.t 10)
     (.skip)
     (.exit 0)))
    (.seq (.block 1 (.reg [⟨none, .chk []⟩,
      ⟨none, .mov 17 (.t 4)⟩,
      ⟨none, .fad 13 3 0⟩,
      ⟨none, .load 14 13 1 false⟩,
      ⟨none, .fad 15 1 0⟩,
      ⟨none, .load 16 15 1 false⟩,
      ⟨none, .idx 18 11 (.t 16) (.t 17)⟩,
      ⟨none, .load 19 18 5 true⟩,
      ⟨none, .lit 20 11 1 [.int .u64 0, .int .u64 0, .int .u64 0, .int .u64 0, .int .i64 0] [(0, (.t 19))]⟩,
      ⟨none, .app 21 11 40 (.t 14) (.t 20)⟩,
      ⟨none, .fad 22 3 0⟩,
      ⟨none, .store 22 1 (.t 21)⟩]))
    (.reg [⟨none, .mov 11 (.t 4)⟩,
    ⟨none, .bin 12 .add (.t 11) (.k (.int .i64 1))⟩,
    ⟨none, .mov 4 (.t 12)⟩]))
/-- spec.l10Copy -/
def r259 : RF :=
 ⟨1, [.cell 2 1 true],
 .seq (.reg [⟨none, .locb 1 (.t 0)⟩,
  ⟨none, .loc 2 [.nil]⟩])
 (.seq (.reg [⟨none, .build 5 [.nil] []⟩,
  ⟨none, .loc 3 [.nil]⟩,
  ⟨none, .store 3 1 (.t 5)⟩])
 (.seq (.seq (.reg [⟨none, .mov 4 (.k (.int .i64 0))⟩])
  (.block 0 (.loop [1, 2, 3, 4]
   r259L0)))
 (.seq (.reg [⟨none, .load 23 3 1 true⟩,
  ⟨none, .store 2 1 (.t 23)⟩])
 (.ret))))⟩
/-- A loop of spec.OpenAccount. -/
def r323L0 : RC :=
 .seq (.seq (.reg [⟨none, .mov 27 (.t 8)⟩,
      ⟨none, .fad 28 2 0⟩,
      ⟨none, .load 29 28 1 false⟩,
      ⟨none, .len 30 (.t 29)⟩,
      ⟨none, .bin 31 .lss (.t 27) (.t 30)⟩])
     (.cond (.t 31)
     (.skip)
     (.exit 0)))
    (.seq (.block 1 (.seq (.seq (.reg [⟨none, .mov 34 (.t 7)⟩,
        ⟨none, .not 35 (.t 34)⟩,
        ⟨none, .mov 36 (.t 35)⟩,
        ⟨some (36, true), .fad 37 2 0⟩,
        ⟨some (36, true), .load 38 37 1 false⟩,
        ⟨some (36, true), .mov 39 (.t 8)⟩,
        ⟨some (36, true), .idx 40 11 (.t 38) (.t 39)⟩,
        ⟨some (36, true), .fad 41 40 0⟩,
        ⟨some (36, true), .load 42 41 1 false⟩,
        ⟨some (36, true), .mov 43 (.t 1)⟩,
        ⟨some (36, true), .bin 44 .gtr (.t 42) (.t 43)⟩,
        ⟨none, .pick 45 (.t 36) (.t 44) (.k (.bool false))⟩])
       (.cond (.t 45)
       (.seq (.reg [⟨none, .fad 46 6 0⟩,
         ⟨none, .load 47 46 1 false⟩,
         ⟨none, .mov 48 (.t 1)⟩,
         ⟨none, .build 49 [.int .u64 0, .int .u64 0, .int .u64 0, .int .u64 0, .int .i64 0] [(0, 1, (.t 48))]⟩,
         ⟨none, .lit 50 11 1 [.int .u64 0, .int .u64 0, .int .u64 0, .int .u64 0, .int .i64 0] [(0, (.t 49))]⟩,
         ⟨none, .app 51 11 40 (.t 47) (.t 50)⟩,
         ⟨none, .fad 52 6 0⟩,
         ⟨none, .store 52 1 (.t 51)⟩])
        (.reg [⟨none, .mov 7 (.k (.bool true))⟩]))
       (.skip)))
      (.reg [⟨none, .chk []⟩,
      ⟨none, .mov 57 (.t 8)⟩,
      ⟨none, .fad 53 6 0⟩,
      ⟨none, .load 54 53 1 false⟩,
      ⟨none, .fad 55 2 0⟩,
      ⟨none, .load 56 55 1 false⟩,
      ⟨none, .idx 58 11 (.t 56) (.t 57)⟩,
      ⟨none, .load 59 58 5 true⟩,
      ⟨none, .lit 60 11 1 [.int .u64 0, .int .u64 0, .int .u64 0, .int .u64 0, .int .i64 0] [(0, (.t 59))]⟩,
      ⟨none, .app 61 11 40 (.t 54) (.t 60)⟩,
      ⟨none, .fad 62 6 0⟩,
      ⟨none, .store 62 1 (.t 61)⟩])))
    (.reg [⟨none, .mov 32 (.t 8)⟩,
    ⟨none, .bin 33 .add (.t 32) (.k (.int .i64 1))⟩,
    ⟨none, .mov 8 (.t 33)⟩]))
/-- spec.OpenAccount -/
def r323 : RF :=
 ⟨2, [.cell 4 1 true, .tmp 5],
 .seq (.reg [⟨none, .locb 2 (.t 0)⟩,
  ⟨none, .loc 4 [.nil]⟩,
  ⟨none, .mov 5 (.k (.int .i64 0))⟩])
 (.seq (.seq (.reg [⟨none, .load 9 2 1 true⟩,
   ⟨none, .call (some 10) 241 [(.t 9)] false⟩,
   ⟨none, .not 11 (.t 10)⟩])
  (.cond (.t 11)
  (.seq (.reg [⟨none, .load 12 2 1 true⟩,
    ⟨none, .call (some 13) 259 [(.t 12)] false⟩,
    ⟨none, .store 4 1 (.t 13)⟩,
    ⟨none, .mov 5 (.k (.int .i64 1))⟩])
   (.ret))
  (.skip)))
 (.seq (.seq (.reg [⟨none, .load 14 2 1 true⟩,
   ⟨none, .mov 15 (.t 1)⟩,
   ⟨none, .call (some 16) 328 [(.t 14), (.t 15)] false⟩,
   ⟨none, .bin 17 .geq (.t 16) (.k (.int .i64 0))⟩])
  (.cond (.t 17)
  (.seq (.reg [⟨none, .load 18 2 1 true⟩,
    ⟨none, .call (some 19) 259 [(.t 18)] false⟩,
    ⟨none, .store 4 1 (.t 19)⟩,
    ⟨none, .mov 5 (.k (.int .i64 3))⟩])
   (.ret))
  (.skip)))
 (.seq (.seq (.reg [⟨none, .fad 20 2 0⟩,
   ⟨none, .load 21 20 1 false⟩,
   ⟨none, .len 22 (.t 21)⟩,
   ⟨none, .bin 23 .eql (.t 22) (.k (.int .i64 40))⟩])
  (.cond (.t 23)
  (.seq (.reg [⟨none, .load 24 2 1 true⟩,
    ⟨none, .call (some 25) 259 [(.t 24)] false⟩,
    ⟨none, .store 4 1 (.t 25)⟩,
    ⟨none, .mov 5 (.k (.int .i64 1))⟩])
   (.ret))
  (.skip)))
 (.seq (.reg [⟨none, .build 26 [.nil] []⟩,
  ⟨none, .loc 6 [.nil]⟩,
  ⟨none, .store 6 1 (.t 26)⟩])
 (.seq (.reg [⟨none, .mov 7 (.k (.bool false))⟩])
 (.seq (.seq (.reg [⟨none, .mov 8 (.k (.int .i64 0))⟩])
  (.block 0 (.loop [1, 2, 4, 6, 7, 8]
   r323L0)))
 (.seq (.seq (.reg [⟨none, .mov 63 (.t 7)⟩,
   ⟨none, .not 64 (.t 63)⟩])
  (.cond (.t 64)
  (.reg [⟨none, .fad 65 6 0⟩,
   ⟨none, .load 66 65 1 false⟩,
   ⟨none, .mov 67 (.t 1)⟩,
   ⟨none, .build 68 [.int .u64 0, .int .u64 0, .int .u64 0, .int .u64 0, .int .i64 0] [(0, 1, (.t 67))]⟩,
   ⟨none, .lit 69 11 1 [.int .u64 0, .int .u64 0, .int .u64 0, .int .u64 0, .int .i64 0] [(0, (.t 68))]⟩,
   ⟨none, .app 70 11 40 (.t 66) (.t 69)⟩,
   ⟨none, .fad 71 6 0⟩,
   ⟨none, .store 71 1 (.t 70)⟩])
  (.skip)))
 (.seq (.reg [⟨none, .load 72 6 1 true⟩,
  ⟨none, .store 4 1 (.t 72)⟩,
  ⟨none, .mov 5 (.k (.int .i64 0))⟩])
 (.ret)))))))))⟩
/-- A loop of spec.CloseAccount. -/
def r324L0 : RC :=
 .seq (.seq (.reg [⟨none, .mov 35 (.t 9)⟩,
      ⟨none, .fad 36 2 0⟩,
      ⟨none, .load 37 36 1 false⟩,
      ⟨none, .len 38 (.t 37)⟩,
      ⟨none, .bin 39 .lss (.t 35) (.t 38)⟩])
     (.cond (.t 39)
     (.skip)
     (.exit 1)))
    (.seq (.block 2 (.seq (.reg [⟨none, .fad 42 2 0⟩,
       ⟨none, .load 43 42 1 false⟩,
       ⟨none, .mov 44 (.t 9)⟩,
       ⟨none, .idx 45 11 (.t 43) (.t 44)⟩,
       ⟨none, .fad 46 45 0⟩,
       ⟨none, .load 47 46 1 false⟩,
       ⟨none, .mov 48 (.t 1)⟩,
       ⟨none, .bin 49 .neq (.t 47) (.t 48)⟩])
      (.cond (.t 49)
      (.reg [⟨none, .chk []⟩,
       ⟨none, .mov 54 (.t 9)⟩,
       ⟨none, .fad 50 8 0⟩,
       ⟨none, .load 51 50 1 false⟩,
       ⟨none, .fad 52 2 0⟩,
       ⟨none, .load 53 52 1 false⟩,
       ⟨none, .idx 55 11 (.t 53) (.t 54)⟩,
       ⟨none, .load 56 55 5 true⟩,
       ⟨none, .lit 57 11 1 [.int .u64 0, .int .u64 0, .int .u64 0, .int .u64 0, .int .i64 0] [(0, (.t 56))]⟩,
       ⟨none, .app 58 11 40 (.t 51) (.t 57)⟩,
       ⟨none, .fad 59 8 0⟩,
       ⟨none, .store 59 1 (.t 58)⟩])
      (.skip))))
    (.reg [⟨none, .mov 40 (.t 9)⟩,
    ⟨none, .bin 41 .add (.t 40) (.k (.int .i64 1))⟩,
    ⟨none, .mov 9 (.t 41)⟩]))
/-- spec.CloseAccount -/
def r324 : RF :=
 ⟨2, [.cell 4 1 true, .tmp 5],
 .seq (.reg [⟨none, .locb 2 (.t 0)⟩,
  ⟨none, .loc 4 [.nil]⟩,
  ⟨none, .mov 5 (.k (.int .i64 0))⟩])
 (.seq (.reg [⟨none, .load 11 2 1 true⟩,
  ⟨none, .mov 12 (.t 1)⟩,
  ⟨none, .call (some 13) 335 [(.t 11), (.t 12), (.k (.int .i64 1))] false⟩,
  ⟨none, .mov 10 (.t 13)⟩,
  ⟨none, .ext 14 (.t 10) 0⟩,
  ⟨none, .ext 15 (.t 10) 1⟩,
  ⟨none, .loc 6 [.int .u64 0, .int .u64 0, .int .u64 0, .int .u64 0, .int .i64 0]⟩,
  ⟨none, .store 6 5 (.t 14)⟩,
  ⟨none, .mov 7 (.t 15)⟩])
 (.seq (.block 0 (.seq (.reg [⟨none, .mov 17 (.t 7)⟩,
    ⟨none, .bin 18 .neq (.t 17) (.k (.int .i64 0))⟩,
    ⟨none, .mov 16 (.t 18)⟩])
   (.cond (.t 16)
   (.seq (.reg [⟨none, .load 19 2 1 true⟩,
     ⟨none, .call (some 20) 259 [(.t 19)] false⟩,
     ⟨none, .mov 21 (.t 7)⟩,
     ⟨none, .store 4 1 (.t 20)⟩,
     ⟨none, .mov 5 (.t 21)⟩])
    (.ret))
   (.seq (.reg [⟨none, .fad 23 6 4⟩,
     ⟨none, .load 24 23 1 false⟩,
     ⟨none, .bin 25 .neq (.t 24) (.k (.int .i64 0))⟩,
     ⟨none, .mov 22 (.t 25)⟩])
    (.cond (.t 22)
    (.seq (.reg [⟨none, .load 26 2 1 true⟩,
      ⟨none, .call (some 27) 259 [(.t 26)] false⟩,
      ⟨none, .store 4 1 (.t 27)⟩,
      ⟨none, .mov 5 (.k (.int .i64 6))⟩])
     (.ret))
    (.seq (.reg [⟨none, .fad 29 6 1⟩,
      ⟨none, .load 30 29 1 false⟩,
      ⟨none, .bin 31 .neq (.t 30) (.k (.int .u64 0))⟩,
      ⟨none, .mov 28 (.t 31)⟩])
     (.cond (.t 28)
     (.seq (.reg [⟨none, .load 32 2 1 true⟩,
       ⟨none, .call (some 33) 259 [(.t 32)] false⟩,
       ⟨none, .store 4 1 (.t 33)⟩,
       ⟨none, .mov 5 (.k (.int .i64 4))⟩])
      (.ret))
     (.skip))))))))
 (.seq (.reg [⟨none, .build 34 [.nil] []⟩,
  ⟨none, .loc 8 [.nil]⟩,
  ⟨none, .store 8 1 (.t 34)⟩])
 (.seq (.seq (.reg [⟨none, .mov 9 (.k (.int .i64 0))⟩])
  (.block 1 (.loop [1, 2, 4, 8, 9]
   r324L0)))
 (.seq (.reg [⟨none, .load 60 8 1 true⟩,
  ⟨none, .store 4 1 (.t 60)⟩,
  ⟨none, .mov 5 (.k (.int .i64 0))⟩])
 (.ret))))))⟩
/-- spec.Deposit -/
def r325 : RF :=
 ⟨3, [.cell 6 1 true, .tmp 7],
 .seq (.reg [⟨none, .locb 3 (.t 0)⟩,
  ⟨none, .loc 6 [.nil]⟩,
  ⟨none, .mov 7 (.k (.int .i64 0))⟩])
 (.seq (.reg [⟨none, .load 11 3 1 true⟩,
  ⟨none, .mov 12 (.t 1)⟩,
  ⟨none, .call (some 13) 335 [(.t 11), (.t 12), (.k (.int .i64 1))] false⟩,
  ⟨none, .mov 10 (.t 13)⟩,
  ⟨none, .ext 14 (.t 10) 0⟩,
  ⟨none, .ext 15 (.t 10) 1⟩,
  ⟨none, .loc 8 [.int .u64 0, .int .u64 0, .int .u64 0, .int .u64 0, .int .i64 0]⟩,
  ⟨none, .store 8 5 (.t 14)⟩,
  ⟨none, .mov 9 (.t 15)⟩])
 (.seq (.block 0 (.seq (.reg [⟨none, .mov 17 (.t 9)⟩,
    ⟨none, .bin 18 .neq (.t 17) (.k (.int .i64 0))⟩,
    ⟨none, .mov 16 (.t 18)⟩])
   (.cond (.t 16)
   (.seq (.reg [⟨none, .load 19 3 1 true⟩,
     ⟨none, .call (some 20) 259 [(.t 19)] false⟩,
     ⟨none, .mov 21 (.t 9)⟩,
     ⟨none, .store 6 1 (.t 20)⟩,
     ⟨none, .mov 7 (.t 21)⟩])
    (.ret))
   (.seq (.reg [⟨none, .fad 23 8 4⟩,
     ⟨none, .load 24 23 1 false⟩,
     ⟨none, .bin 25 .neq (.t 24) (.k (.int .i64 0))⟩,
     ⟨none, .mov 22 (.t 25)⟩])
    (.cond (.t 22)
    (.seq (.reg [⟨none, .load 26 3 1 true⟩,
      ⟨none, .call (some 27) 259 [(.t 26)] false⟩,
      ⟨none, .store 6 1 (.t 27)⟩,
      ⟨none, .mov 7 (.k (.int .i64 6))⟩])
     (.ret))
    (.seq (.reg [⟨none, .mov 29 (.t 2)⟩,
      ⟨none, .fad 30 8 1⟩,
      ⟨none, .load 31 30 1 false⟩,
      ⟨none, .bin 32 .sub (.k (.int .u64 18446744073709551615)) (.t 31)⟩,
      ⟨none, .bin 33 .gtr (.t 29) (.t 32)⟩,
      ⟨none, .mov 28 (.t 33)⟩])
     (.cond (.t 28)
     (.seq (.reg [⟨none, .load 34 3 1 true⟩,
       ⟨none, .call (some 35) 259 [(.t 34)] false⟩,
       ⟨none, .store 6 1 (.t 35)⟩,
       ⟨none, .mov 7 (.k (.int .i64 5))⟩])
      (.ret))
     (.skip))))))))
 (.seq (.reg [⟨none, .fad 36 8 1⟩,
  ⟨none, .load 37 36 1 false⟩,
  ⟨none, .mov 38 (.t 2)⟩,
  ⟨none, .bin 39 .add (.t 37) (.t 38)⟩,
  ⟨none, .fad 40 8 1⟩,
  ⟨none, .store 40 1 (.t 39)⟩])
 (.seq (.reg [⟨none, .load 41 3 1 true⟩,
  ⟨none, .load 42 8 5 true⟩,
  ⟨none, .call (some 43) 336 [(.t 41), (.t 42)] false⟩,
  ⟨none, .store 6 1 (.t 43)⟩,
  ⟨none, .mov 7 (.k (.int .i64 0))⟩])
 (.ret)))))⟩
/-- spec.Withdraw -/
def r326 : RF :=
 ⟨3, [.cell 6 1 true, .tmp 7],
 .seq (.reg [⟨none, .locb 3 (.t 0)⟩,
  ⟨none, .loc 6 [.nil]⟩,
  ⟨none, .mov 7 (.k (.int .i64 0))⟩])
 (.seq (.reg [⟨none, .load 11 3 1 true⟩,
  ⟨none, .mov 12 (.t 1)⟩,
  ⟨none, .call (some 13) 335 [(.t 11), (.t 12), (.k (.int .i64 1))] false⟩,
  ⟨none, .mov 10 (.t 13)⟩,
  ⟨none, .ext 14 (.t 10) 0⟩,
  ⟨none, .ext 15 (.t 10) 1⟩,
  ⟨none, .loc 8 [.int .u64 0, .int .u64 0, .int .u64 0, .int .u64 0, .int .i64 0]⟩,
  ⟨none, .store 8 5 (.t 14)⟩,
  ⟨none, .mov 9 (.t 15)⟩])
 (.seq (.block 0 (.seq (.reg [⟨none, .mov 17 (.t 9)⟩,
    ⟨none, .bin 18 .neq (.t 17) (.k (.int .i64 0))⟩,
    ⟨none, .mov 16 (.t 18)⟩])
   (.cond (.t 16)
   (.seq (.reg [⟨none, .load 19 3 1 true⟩,
     ⟨none, .call (some 20) 259 [(.t 19)] false⟩,
     ⟨none, .mov 21 (.t 9)⟩,
     ⟨none, .store 6 1 (.t 20)⟩,
     ⟨none, .mov 7 (.t 21)⟩])
    (.ret))
   (.seq (.reg [⟨none, .fad 23 8 4⟩,
     ⟨none, .load 24 23 1 false⟩,
     ⟨none, .bin 25 .neq (.t 24) (.k (.int .i64 0))⟩,
     ⟨none, .mov 22 (.t 25)⟩])
    (.cond (.t 22)
    (.seq (.reg [⟨none, .load 26 3 1 true⟩,
      ⟨none, .call (some 27) 259 [(.t 26)] false⟩,
      ⟨none, .store 6 1 (.t 27)⟩,
      ⟨none, .mov 7 (.k (.int .i64 6))⟩])
     (.ret))
    (.seq (.reg [⟨none, .mov 29 (.t 2)⟩,
      ⟨none, .fad 30 8 1⟩,
      ⟨none, .load 31 30 1 false⟩,
      ⟨none, .bin 32 .gtr (.t 29) (.t 31)⟩,
      ⟨none, .mov 28 (.t 32)⟩])
     (.cond (.t 28)
     (.seq (.reg [⟨none, .load 33 3 1 true⟩,
       ⟨none, .call (some 34) 259 [(.t 33)] false⟩,
       ⟨none, .store 6 1 (.t 34)⟩,
       ⟨none, .mov 7 (.k (.int .i64 4))⟩])
      (.ret))
     (.skip))))))))
 (.seq (.reg [⟨none, .fad 35 8 1⟩,
  ⟨none, .load 36 35 1 false⟩,
  ⟨none, .mov 37 (.t 2)⟩,
  ⟨none, .bin 38 .sub (.t 36) (.t 37)⟩,
  ⟨none, .fad 39 8 1⟩,
  ⟨none, .store 39 1 (.t 38)⟩])
 (.seq (.reg [⟨none, .load 40 3 1 true⟩,
  ⟨none, .load 41 8 5 true⟩,
  ⟨none, .call (some 42) 336 [(.t 40), (.t 41)] false⟩,
  ⟨none, .store 6 1 (.t 42)⟩,
  ⟨none, .mov 7 (.k (.int .i64 0))⟩])
 (.ret)))))⟩
/-- spec.MoveMoney -/
def r327 : RF :=
 ⟨4, [.cell 8 1 true, .tmp 9],
 .seq (.reg [⟨none, .locb 4 (.t 0)⟩,
  ⟨none, .loc 8 [.nil]⟩,
  ⟨none, .mov 9 (.k (.int .i64 0))⟩])
 (.seq (.reg [⟨none, .load 15 4 1 true⟩,
  ⟨none, .mov 16 (.t 1)⟩,
  ⟨none, .call (some 17) 335 [(.t 15), (.t 16), (.k (.int .i64 1))] false⟩,
  ⟨none, .mov 14 (.t 17)⟩,
  ⟨none, .ext 18 (.t 14) 0⟩,
  ⟨none, .ext 19 (.t 14) 1⟩,
  ⟨none, .loc 10 [.int .u64 0, .int .u64 0, .int .u64 0, .int .u64 0, .int .i64 0]⟩,
  ⟨none, .store 10 5 (.t 18)⟩,
  ⟨none, .mov 11 (.t 19)⟩])
 (.seq (.reg [⟨none, .load 21 4 1 true⟩,
  ⟨none, .mov 22 (.t 2)⟩,
  ⟨none, .call (some 23) 335 [(.t 21), (.t 22), (.k (.int .i64 1))] false⟩,
  ⟨none, .mov 20 (.t 23)⟩,
  ⟨none, .ext 24 (.t 20) 0⟩,
  ⟨none, .ext 25 (.t 20) 1⟩,
  ⟨none, .loc 12 [.int .u64 0, .int .u64 0, .int .u64 0, .int .u64 0, .int .i64 0]⟩,
  ⟨none, .store 12 5 (.t 24)⟩,
  ⟨none, .mov 13 (.t 25)⟩])
 (.seq (.block 0 (.seq (.reg [⟨none, .mov 27 (.t 11)⟩,
    ⟨none, .bin 28 .eql (.t 27) (.k (.int .i64 1))⟩,
    ⟨none, .mov 29 (.t 28)⟩,
    ⟨some (29, false), .mov 30 (.t 1)⟩,
    ⟨some (29, false), .mov 31 (.t 2)⟩,
    ⟨some (29, false), .bin 32 .eql (.t 30) (.t 31)⟩,
    ⟨none, .pick 33 (.t 29) (.k (.bool true)) (.t 32)⟩,
    ⟨none, .mov 26 (.t 33)⟩])
   (.cond (.t 26)
   (.seq (.reg [⟨none, .load 34 4 1 true⟩,
     ⟨none, .call (some 35) 259 [(.t 34)] false⟩,
     ⟨none, .store 8 1 (.t 35)⟩,
     ⟨none, .mov 9 (.k (.int .i64 1))⟩])
    (.ret))
   (.seq (.reg [⟨none, .mov 37 (.t 11)⟩,
     ⟨none, .bin 38 .neq (.t 37) (.k (.int .i64 0))⟩,
     ⟨none, .mov 39 (.t 38)⟩,
     ⟨some (39, false), .mov 40 (.t 13)⟩,
     ⟨some (39, false), .bin 41 .neq (.t 40) (.k (.int .i64 0))⟩,
     ⟨none, .pick 42 (.t 39) (.k (.bool true)) (.t 41)⟩,
     ⟨none, .mov 36 (.t 42)⟩])
    (.cond (.t 36)
    (.seq (.reg [⟨none, .load 43 4 1 true⟩,
      ⟨none, .call (some 44) 259 [(.t 43)] false⟩,
      ⟨none, .store 8 1 (.t 44)⟩,
      ⟨none, .mov 9 (.k (.int .i64 2))⟩])
     (.ret))
    (.seq (.reg [⟨none, .fad 46 10 4⟩,
      ⟨none, .load 47 46 1 false⟩,
      ⟨none, .bin 48 .neq (.t 47) (.k (.int .i64 0))⟩,
      ⟨none, .mov 49 (.t 48)⟩,
      ⟨some (49, false), .fad 50 12 4⟩,
      ⟨some (49, false), .load 51 50 1 false⟩,
      ⟨some (49, false), .bin 52 .neq (.t 51) (.k (.int .i64 0))⟩,
      ⟨none, .pick 53 (.t 49) (.k (.bool true)) (.t 52)⟩,
      ⟨none, .mov 45 (.t 53)⟩])
     (.cond (.t 45)
     (.seq (.reg [⟨none, .load 54 4 1 true⟩,
       ⟨none, .call (some 55) 259 [(.t 54)] false⟩,
       ⟨none, .store 8 1 (.t 55)⟩,
       ⟨none, .mov 9 (.k (.int .i64 6))⟩])
      (.ret))
     (.seq (.reg [⟨none, .mov 57 (.t 3)⟩,
       ⟨none, .fad 58 10 1⟩,
       ⟨none, .load 59 58 1 false⟩,
       ⟨none, .bin 60 .gtr (.t 57) (.t 59)⟩,
       ⟨none, .mov 56 (.t 60)⟩])
      (.cond (.t 56)
      (.seq (.reg [⟨none, .load 61 4 1 true⟩,
        ⟨none, .call (some 62) 259 [(.t 61)] false⟩,
        ⟨none, .store 8 1 (.t 62)⟩,
        ⟨none, .mov 9 (.k (.int .i64 4))⟩])
       (.ret))
      (.seq (.reg [⟨none, .mov 64 (.t 3)⟩,
        ⟨none, .fad 65 12 1⟩,
        ⟨none, .load 66 65 1 false⟩,
        ⟨none, .bin 67 .sub (.k (.int .u64 18446744073709551615)) (.t 66)⟩,
        ⟨none, .bin 68 .gtr (.t 64) (.t 67)⟩,
        ⟨none, .mov 63 (.t 68)⟩])
       (.cond (.t 63)
       (.seq (.reg [⟨none, .load 69 4 1 true⟩,
         ⟨none, .call (some 70) 259 [(.t 69)] false⟩,
         ⟨none, .store 8 1 (.t 70)⟩,
         ⟨none, .mov 9 (.k (.int .i64 5))⟩])
        (.ret))
       (.skip))))))))))))
 (.seq (.reg [⟨none, .fad 71 10 1⟩,
  ⟨none, .load 72 71 1 false⟩,
  ⟨none, .mov 73 (.t 3)⟩,
  ⟨none, .bin 74 .sub (.t 72) (.t 73)⟩,
  ⟨none, .fad 75 10 1⟩,
  ⟨none, .store 75 1 (.t 74)⟩])
 (.seq (.reg [⟨none, .fad 76 12 1⟩,
  ⟨none, .load 77 76 1 false⟩,
  ⟨none, .mov 78 (.t 3)⟩,
  ⟨none, .bin 79 .add (.t 77) (.t 78)⟩,
  ⟨none, .fad 80 12 1⟩,
  ⟨none, .store 80 1 (.t 79)⟩])
 (.seq (.reg [⟨none, .chk []⟩,
  ⟨none, .load 81 4 1 true⟩,
  ⟨none, .load 82 10 5 true⟩,
  ⟨none, .load 84 12 5 true⟩,
  ⟨none, .call (some 83) 336 [(.t 81), (.t 82)] true⟩,
  ⟨none, .call (some 85) 336 [(.t 83), (.t 84)] true⟩,
  ⟨none, .store 8 1 (.t 85)⟩,
  ⟨none, .mov 9 (.k (.int .i64 0))⟩])
 (.ret)))))))⟩
/-- A loop of spec.l10Find. -/
def r328L0 : RC :=
 .seq (.seq (.reg [⟨none, .mov 6 (.t 5)⟩,
      ⟨none, .fad 7 2 0⟩,
      ⟨none, .load 8 7 1 false⟩,
      ⟨none, .len 9 (.t 8)⟩,
      ⟨none, .bin 10 .lss (.t 6) (.t 9)⟩])
     (.cond (.t 10)
     (.skip)
     (.exit 0)))
    (.seq (.block 1 (.seq (.reg [⟨none, .fad 13 2 0⟩,
       ⟨none, .load 14 13 1 false⟩,
       ⟨none, .mov 15 (.t 5)⟩,
       ⟨none, .idx 16 11 (.t 14) (.t 15)⟩,
       ⟨none, .fad 17 16 0⟩,
       ⟨none, .load 18 17 1 false⟩,
       ⟨none, .mov 19 (.t 1)⟩,
       ⟨none, .bin 20 .eql (.t 18) (.t 19)⟩])
      (.cond (.t 20)
      (.seq (.reg [⟨none, .mov 21 (.t 5)⟩,
        ⟨none, .mov 4 (.t 21)⟩])
       (.ret))
      (.skip))))
    (.reg [⟨none, .mov 11 (.t 5)⟩,
    ⟨none, .bin 12 .add (.t 11) (.k (.int .i64 1))⟩,
    ⟨none, .mov 5 (.t 12)⟩]))
/-- spec.l10Find -/
def r328 : RF :=
 ⟨2, [.tmp 4],
 .seq (.reg [⟨none, .locb 2 (.t 0)⟩,
  ⟨none, .mov 4 (.k (.int .i64 0))⟩])
 (.seq (.seq (.reg [⟨none, .mov 5 (.k (.int .i64 0))⟩])
  (.block 0 (.loop [1, 2, 5]
   r328L0)))
 (.seq (.reg [⟨none, .mov 4 (.k (.int .i64 (-1)))⟩])
 (.ret)))⟩
/-- spec.l10Of -/
def r335 : RF :=
 ⟨3, [.cell 6 5 true, .tmp 7],
 .seq (.reg [⟨none, .locb 3 (.t 0)⟩,
  ⟨none, .loc 6 [.int .u64 0, .int .u64 0, .int .u64 0, .int .u64 0, .int .i64 0]⟩,
  ⟨none, .mov 7 (.k (.int .i64 0))⟩])
 (.seq (.seq (.reg [⟨none, .load 9 3 1 true⟩,
   ⟨none, .call (some 10) 241 [(.t 9)] false⟩,
   ⟨none, .not 11 (.t 10)⟩,
   ⟨none, .mov 12 (.t 11)⟩,
   ⟨some (12, false), .mov 13 (.t 2)⟩,
   ⟨some (12, false), .bin 14 .lss (.t 13) (.k (.int .i64 1))⟩,
   ⟨none, .pick 15 (.t 12) (.k (.bool true)) (.t 14)⟩])
  (.cond (.t 15)
  (.seq (.reg [⟨none, .build 16 [.int .u64 0, .int .u64 0, .int .u64 0, .int .u64 0, .int .i64 0] []⟩,
    ⟨none, .store 6 5 (.t 16)⟩,
    ⟨none, .mov 7 (.k (.int .i64 1))⟩])
   (.ret))
  (.skip)))
 (.seq (.reg [⟨none, .load 17 3 1 true⟩,
  ⟨none, .mov 18 (.t 1)⟩,
  ⟨none, .call (some 19) 328 [(.t 17), (.t 18)] false⟩,
  ⟨none, .mov 8 (.t 19)⟩])
 (.seq (.seq (.reg [⟨none, .mov 20 (.t 8)⟩,
   ⟨none, .bin 21 .lss (.t 20) (.k (.int .i64 0))⟩])
  (.cond (.t 21)
  (.seq (.reg [⟨none, .build 22 [.int .u64 0, .int .u64 0, .int .u64 0, .int .u64 0, .int .i64 0] []⟩,
    ⟨none, .store 6 5 (.t 22)⟩,
    ⟨none, .mov 7 (.k (.int .i64 2))⟩])
   (.ret))
  (.skip)))
 (.seq (.reg [⟨none, .fad 23 3 0⟩,
  ⟨none, .load 24 23 1 false⟩,
  ⟨none, .mov 25 (.t 8)⟩,
  ⟨none, .idx 26 11 (.t 24) (.t 25)⟩,
  ⟨none, .load 27 26 5 true⟩,
  ⟨none, .store 6 5 (.t 27)⟩,
  ⟨none, .mov 7 (.k (.int .i64 0))⟩])
 (.ret)))))⟩
/-- A loop of spec.l10With. -/
def r336L0 : RC :=
 .seq (.seq (.reg [⟨none, .mov 9 (.t 6)⟩,
      ⟨none, .fad 10 5 0⟩,
      ⟨none, .load 11 10 1 false⟩,
      ⟨none, .len 12 (.t 11)⟩,
      ⟨none, .bin 13 .lss (.t 9) (.t 12)⟩])
     (.cond (.t 13)
     (.skip)
     (.exit 0)))
    (.seq (.block 1 (.seq (.reg [⟨none, .chk []⟩,
       ⟨none, .mov 18 (.t 6)⟩,
       ⟨none, .fad 16 5 0⟩,
       ⟨none, .load 17 16 1 false⟩,
       ⟨none, .idx 19 11 (.t 17) (.t 18)⟩,
       ⟨none, .fad 20 19 0⟩,
       ⟨none, .load 21 20 1 false⟩,
       ⟨none, .fad 22 3 0⟩,
       ⟨none, .load 23 22 1 false⟩,
       ⟨none, .bin 24 .eql (.t 21) (.t 23)⟩])
      (.cond (.t 24)
      (.reg [⟨none, .fad 25 5 0⟩,
       ⟨none, .load 26 25 1 false⟩,
       ⟨none, .mov 27 (.t 6)⟩,
       ⟨none, .load 28 3 5 true⟩,
       ⟨none, .idx 29 11 (.t 26) (.t 27)⟩,
       ⟨none, .store 29 5 (.t 28)⟩])
      (.skip))))
    (.reg [⟨none, .mov 14 (.t 6)⟩,
    ⟨none, .bin 15 .add (.t 14) (.k (.int .i64 1))⟩,
    ⟨none, .mov 6 (.t 15)⟩]))
/-- spec.l10With -/
def r336 : RF :=
 ⟨2, [.cell 4 1 true],
 .seq (.reg [⟨none, .locb 2 (.t 0)⟩,
  ⟨none, .locb 3 (.t 1)⟩,
  ⟨none, .loc 4 [.nil]⟩])
 (.seq (.reg [⟨none, .load 7 2 1 true⟩,
  ⟨none, .call (some 8) 259 [(.t 7)] false⟩,
  ⟨none, .loc 5 [.nil]⟩,
  ⟨none, .store 5 1 (.t 8)⟩])
 (.seq (.seq (.reg [⟨none, .mov 6 (.k (.int .i64 0))⟩])
  (.block 0 (.loop [3, 4, 5, 6]
   r336L0)))
 (.seq (.reg [⟨none, .load 30 5 1 true⟩,
  ⟨none, .store 4 1 (.t 30)⟩])
 (.ret))))⟩
/-- The functions of this text, with their numbers. -/
def tS10 : List (Nat × RF) := [(235, r235), (237, r237), (241, r241), (245, r245), (259, r259), (323, r323), (324, r324), (325, r325), (326, r326), (327, r327), (328, r328), (335, r335), (336, r336)]
end Go.Proofs.Ytlbagejkjkfkjaa.A
/- The compact code of some functions: spec.TxOk, spec.TxOutcome, spec.NewTx, spec.TxGiveUp, spec.TxAck, spec.TxVote, spec.TxSends, spec.PlayTx, spec.DrawRightTx, spec.l14DrawRight, spec.l14DrawEvents. -/
namespace Go.Proofs.Ytlbagejkjkfkjaa.A
open Go
/-- spec.TxOk -/
def r14 : RF :=
 ⟨1, [.tmp 2],
 .seq (.reg [⟨none, .locb 1 (.t 0)⟩,
  ⟨none, .mov 2 (.k (.bool false))⟩])
 (.seq (.reg [⟨none, .chk []⟩,
  ⟨none, .fad 5 1 5⟩,
  ⟨none, .load 6 5 1 false⟩,
  ⟨none, .mov 7 (.t 6)⟩,
  ⟨some (7, true), .fad 8 1 6⟩,
  ⟨some (7, true), .load 9 8 1 false⟩,
  ⟨none, .pick 10 (.t 7) (.t 9) (.k (.bool false))⟩,
  ⟨none, .fad 11 1 7⟩,
  ⟨none, .load 12 11 1 false⟩,
  ⟨none, .mov 13 (.t 12)⟩,
  ⟨none, .mov 3 (.t 10)⟩,
  ⟨some (13, true), .fad 14 1 8⟩,
  ⟨some (13, true), .load 15 14 1 false⟩,
  ⟨none, .pick 16 (.t 13) (.t 15) (.k (.bool false))⟩,
  ⟨none, .mov 4 (.t 16)⟩])
 (.seq (.seq (.reg [⟨none, .fad 17 1 0⟩,
   ⟨none, .load 18 17 1 false⟩,
   ⟨none, .bin 19 .lss (.t 18) (.k (.int .i64 1))⟩,
   ⟨none, .mov 20 (.t 19)⟩,
   ⟨some (20, false), .fad 21 1 1⟩,
   ⟨some (20, false), .load 22 21 1 false⟩,
   ⟨some (20, false), .fad 23 1 2⟩,
   ⟨some (20, false), .load 24 23 1 false⟩,
   ⟨some (20, false), .bin 25 .eql (.t 22) (.t 24)⟩,
   ⟨none, .pick 26 (.t 20) (.k (.bool true)) (.t 25)⟩])
  (.cond (.t 26)
  (.seq (.reg [⟨none, .mov 2 (.k (.bool false))⟩])
   (.ret))
  (.skip)))
 (.seq (.seq (.reg [⟨none, .fad 27 1 4⟩,
   ⟨none, .load 28 27 1 false⟩])
  (.block 0 (.seq (.reg [⟨none, .bin 30 .eql (.t 28) (.k (.int .i64 0))⟩,
    ⟨none, .mov 29 (.t 30)⟩])
   (.cond (.t 29)
   (.seq (.reg [⟨none, .mov 31 (.t 3)⟩,
     ⟨none, .not 32 (.t 31)⟩,
     ⟨none, .mov 33 (.t 32)⟩,
     ⟨some (33, true), .fad 34 1 7⟩,
     ⟨some (33, true), .load 35 34 1 false⟩,
     ⟨some (33, true), .not 36 (.t 35)⟩,
     ⟨none, .pick 37 (.t 33) (.t 36) (.k (.bool false))⟩,
     ⟨none, .mov 38 (.t 37)⟩,
     ⟨some (38, true), .fad 39 1 8⟩,
     ⟨some (38, true), .load 40 39 1 false⟩,
     ⟨some (38, true), .not 41 (.t 40)⟩,
     ⟨none, .pick 42 (.t 38) (.t 41) (.k (.bool false))⟩,
     ⟨none, .mov 43 (.t 42)⟩,
     ⟨some (43, true), .fad 44 1 9⟩,
     ⟨some (43, true), .load 45 44 1 false⟩,
     ⟨some (43, true), .bin 46 .eql (.t 45) (.k (.int .i64 0))⟩,
     ⟨none, .pick 47 (.t 43) (.t 46) (.k (.bool false))⟩,
     ⟨none, .mov 2 (.t 47)⟩])
    (.ret))
   (.seq (.reg [⟨none, .bin 49 .eql (.t 28) (.k (.int .i64 1))⟩,
     ⟨none, .mov 48 (.t 49)⟩])
    (.cond (.t 48)
    (.seq (.reg [⟨none, .mov 50 (.t 3)⟩,
      ⟨none, .mov 51 (.t 50)⟩,
      ⟨some (51, true), .mov 52 (.t 4)⟩,
      ⟨some (51, true), .not 53 (.t 52)⟩,
      ⟨none, .pick 54 (.t 51) (.t 53) (.k (.bool false))⟩,
      ⟨none, .mov 55 (.t 54)⟩,
      ⟨some (55, true), .fad 56 1 9⟩,
      ⟨some (55, true), .load 57 56 1 false⟩,
      ⟨some (55, true), .bin 58 .eql (.t 57) (.k (.int .i64 0))⟩,
      ⟨none, .pick 59 (.t 55) (.t 58) (.k (.bool false))⟩,
      ⟨none, .mov 2 (.t 59)⟩])
     (.ret))
    (.seq (.reg [⟨none, .bin 61 .eql (.t 28) (.k (.int .i64 2))⟩,
      ⟨none, .mov 60 (.t 61)⟩])
     (.cond (.t 60)
     (.seq (.reg [⟨none, .mov 62 (.t 3)⟩,
       ⟨none, .not 63 (.t 62)⟩,
       ⟨none, .mov 64 (.t 63)⟩,
       ⟨some (64, true), .mov 65 (.t 4)⟩,
       ⟨some (64, true), .not 66 (.t 65)⟩,
       ⟨none, .pick 67 (.t 64) (.t 66) (.k (.bool false))⟩,
       ⟨none, .mov 68 (.t 67)⟩,
       ⟨some (68, true), .fad 69 1 9⟩,
       ⟨some (68, true), .load 70 69 1 false⟩,
       ⟨some (68, true), .call (some 71) 5 [(.t 70), (.k (.int .i64 1)), (.k (.int .i64 99))] false⟩,
       ⟨none, .pick 72 (.t 68) (.t 71) (.k (.bool false))⟩,
       ⟨none, .mov 2 (.t 72)⟩])
      (.ret))
     (.seq (.reg [⟨none, .bin 74 .eql (.t 28) (.k (.int .i64 3))⟩,
       ⟨none, .mov 73 (.t 74)⟩])
      (.cond (.t 73)
      (.seq (.reg [⟨none, .mov 75 (.t 4)⟩,
        ⟨none, .mov 76 (.t 75)⟩,
        ⟨some (76, true), .mov 77 (.t 3)⟩,
        ⟨some (76, true), .mov 78 (.t 77)⟩,
        ⟨some (78, true), .fad 79 1 9⟩,
        ⟨some (78, true), .load 80 79 1 false⟩,
        ⟨some (78, true), .bin 81 .eql (.t 80) (.k (.int .i64 0))⟩,
        ⟨some (76, true), .pick 82 (.t 78) (.t 81) (.k (.bool false))⟩,
        ⟨some (76, true), .mov 83 (.t 82)⟩,
        ⟨some (83, false), .mov 84 (.t 3)⟩,
        ⟨some (83, false), .not 85 (.t 84)⟩,
        ⟨some (83, false), .mov 86 (.t 85)⟩,
        ⟨some (86, true), .fad 87 1 9⟩,
        ⟨some (86, true), .load 88 87 1 false⟩,
        ⟨some (86, true), .call (some 89) 5 [(.t 88), (.k (.int .i64 1)), (.k (.int .i64 99))] false⟩,
        ⟨some (83, false), .pick 90 (.t 86) (.t 89) (.k (.bool false))⟩,
        ⟨some (76, true), .pick 91 (.t 83) (.k (.bool true)) (.t 90)⟩,
        ⟨none, .pick 92 (.t 76) (.t 91) (.k (.bool false))⟩,
        ⟨none, .mov 2 (.t 92)⟩])
       (.ret))
      (.skip)))))))))))
 (.seq (.reg [⟨none, .mov 2 (.k (.bool false))⟩])
 (.ret)))))⟩
/-- spec.TxOutcome -/
def r17 : RF :=
 ⟨1, [.tmp 2],
 .seq (.reg [⟨none, .locb 1 (.t 0)⟩,
  ⟨none, .mov 2 (.k (.int .i64 0))⟩])
 (.seq (.seq (.reg [⟨none, .load 3 1 10 true⟩,
   ⟨none, .call (some 4) 14 [(.t 3)] false⟩,
   ⟨none, .not 5 (.t 4)⟩,
   ⟨none, .mov 6 (.t 5)⟩,
   ⟨some (6, false), .fad 7 1 4⟩,
   ⟨some (6, false), .load 8 7 1 false⟩,
   ⟨some (6, false), .bin 9 .eql (.t 8) (.k (.int .i64 0))⟩,
   ⟨none, .pick 10 (.t 6) (.k (.bool true)) (.t 9)⟩])
  (.cond (.t 10)
  (.seq (.reg [⟨none, .mov 2 (.k (.int .i64 (-1)))⟩])
   (.ret))
  (.skip)))
 (.seq (.reg [⟨none, .fad 11 1 9⟩,
  ⟨none, .load 12 11 1 false⟩,
  ⟨none, .mov 2 (.t 12)⟩])
 (.ret)))⟩
/-- spec.NewTx -/
def r20 : RF :=
 ⟨4, [.cell 8 10 true, .tmp 9],
 .seq (.reg [⟨none, .loc 8 [.int .i64 0, .int .u64 0, .int .u64 0, .int .u64 0, .int .i64 0, .bool false, .bool false, .bool false, .bool false, .int .i64 0]⟩,
  ⟨none, .mov 9 (.k (.bool false))⟩])
 (.seq (.reg [⟨none, .mov 11 (.t 0)⟩,
  ⟨none, .mov 12 (.t 1)⟩,
  ⟨none, .mov 13 (.t 2)⟩,
  ⟨none, .mov 14 (.t 3)⟩,
  ⟨none, .build 15 [.int .i64 0, .int .u64 0, .int .u64 0, .int .u64 0, .int .i64 0, .bool false, .bool false, .bool false, .bool false, .int .i64 0] [(0, 1, (.t 11)), (1, 1, (.t 12)), (2, 1, (.t 13)), (3, 1, (.t 14))]⟩,
  ⟨none, .loc 10 [.int .i64 0, .int .u64 0, .int .u64 0, .int .u64 0, .int .i64 0, .bool false, .bool false, .bool false, .bool false, .int .i64 0]⟩,
  ⟨none, .store 10 10 (.t 15)⟩])
 (.seq (.seq (.reg [⟨none, .load 16 10 10 true⟩,
   ⟨none, .call (some 17) 14 [(.t 16)] false⟩,
   ⟨none, .not 18 (.t 17)⟩])
  (.cond (.t 18)
  (.seq (.reg [⟨none, .build 19 [.int .i64 0, .int .u64 0, .int .u64 0, .int .u64 0, .int .i64 0, .bool false, .bool false, .bool false, .bool false, .int .i64 0] []⟩,
    ⟨none, .store 8 10 (.t 19)⟩,
    ⟨none, .mov 9 (.k (.bool false))⟩])
   (.ret))
  (.skip)))
 (.seq (.reg [⟨none, .load 20 10 10 true⟩,
  ⟨none, .store 8 10 (.t 20)⟩,
  ⟨none, .mov 9 (.k (.bool true))⟩])
 (.ret))))⟩
/-- spec.TxGiveUp -/
def r24 : RF :=
 ⟨2, [.cell 4 10 true, .tmp 5],
 .seq (.reg [⟨none, .locb 2 (.t 0)⟩,
  ⟨none, .loc 4 [.int .i64 0, .int .u64 0, .int .u64 0, .int .u64 0, .int .i64 0, .bool false, .bool false, .bool false, .bool false, .int .i64 0]⟩,
  ⟨none, .mov 5 (.k (.bool false))⟩])
 (.seq (.seq (.reg [⟨none, .load 7 2 10 true⟩,
   ⟨none, .call (some 8) 14 [(.t 7)] false⟩,
   ⟨none, .not 9 (.t 8)⟩,
   ⟨none, .mov 10 (.t 9)⟩,
   ⟨some (10, false), .fad 11 2 4⟩,
   ⟨some (10, false), .load 12 11 1 false⟩,
   ⟨some (10, false), .bin 13 .neq (.t 12) (.k (.int .i64 0))⟩,
   ⟨none, .pick 14 (.t 10) (.k (.bool true)) (.t 13)⟩,
   ⟨none, .mov 15 (.t 14)⟩,
   ⟨some (15, false), .mov 16 (.t 1)⟩,
   ⟨some (15, false), .call (some 17) 5 [(.t 16), (.k (.int .i64 1)), (.k (.int .i64 99))] false⟩,
   ⟨some (15, false), .not 18 (.t 17)⟩,
   ⟨none, .pick 19 (.t 15) (.k (.bool true)) (.t 18)⟩])
  (.cond (.t 19)
  (.seq (.reg [⟨none, .load 20 2 10 true⟩,
    ⟨none, .store 4 10 (.t 20)⟩,
    ⟨none, .mov 5 (.k (.bool false))⟩])
   (.ret))
  (.skip)))
 (.seq (.reg [⟨none, .load 21 2 10 true⟩,
  ⟨none, .loc 6 [.int .i64 0, .int .u64 0, .int .u64 0, .int .u64 0, .int .i64 0, .bool false, .bool false, .bool false, .bool false, .int .i64 0]⟩,
  ⟨none, .store 6 10 (.t 21)⟩])
 (.seq (.reg [⟨none, .fad 22 6 4⟩,
  ⟨none, .store 22 1 (.k (.int .i64 2))⟩])
 (.seq (.reg [⟨none, .mov 23 (.t 1)⟩,
  ⟨none, .fad 24 6 9⟩,
  ⟨none, .store 24 1 (.t 23)⟩])
 (.seq (.reg [⟨none, .load 25 6 10 true⟩,
  ⟨none, .store 4 10 (.t 25)⟩,
  ⟨none, .mov 5 (.k (.bool true))⟩])
 (.ret))))))⟩
/-- spec.TxAck -/
def r32 : RF :=
 ⟨2, [.cell 4 10 true, .tmp 5],
 .seq (.reg [⟨none, .locb 2 (.t 0)⟩,
  ⟨none, .loc 4 [.int .i64 0, .int .u64 0, .int .u64 0, .int .u64 0, .int .i64 0, .bool false, .bool false, .bool false, .bool false, .int .i64 0]⟩,
  ⟨none, .mov 5 (.k (.bool false))⟩])
 (.seq (.seq (.reg [⟨none, .load 7 2 10 true⟩,
   ⟨none, .call (some 8) 14 [(.t 7)] false⟩,
   ⟨none, .not 9 (.t 8)⟩,
   ⟨none, .mov 10 (.t 9)⟩,
   ⟨some (10, false), .fad 11 2 4⟩,
   ⟨some (10, false), .load 12 11 1 false⟩,
   ⟨some (10, false), .call (some 13) 5 [(.t 12), (.k (.int .i64 1)), (.k (.int .i64 2))] false⟩,
   ⟨some (10, false), .not 14 (.t 13)⟩,
   ⟨none, .pick 15 (.t 10) (.k (.bool true)) (.t 14)⟩,
   ⟨none, .mov 16 (.t 15)⟩,
   ⟨some (16, false), .mov 17 (.t 1)⟩,
   ⟨some (16, false), .call (some 18) 5 [(.t 17), (.k (.int .i64 0)), (.k (.int .i64 1))] false⟩,
   ⟨some (16, false), .not 19 (.t 18)⟩,
   ⟨none, .pick 20 (.t 16) (.k (.bool true)) (.t 19)⟩,
   ⟨none, .mov 21 (.t 20)⟩,
   ⟨some (21, false), .mov 22 (.t 1)⟩,
   ⟨some (21, false), .bin 23 .eql (.t 22) (.k (.int .i64 0))⟩,
   ⟨some (21, false), .mov 24 (.t 23)⟩,
   ⟨some (24, true), .fad 25 2 7⟩,
   ⟨some (24, true), .load 26 25 1 false⟩,
   ⟨some (21, false), .pick 27 (.t 24) (.t 26) (.k (.bool false))⟩,
   ⟨none, .pick 28 (.t 21) (.k (.bool true)) (.t 27)⟩,
   ⟨none, .mov 29 (.t 28)⟩,
   ⟨some (29, false), .mov 30 (.t 1)⟩,
   ⟨some (29, false), .bin 31 .eql (.t 30) (.k (.int .i64 1))⟩,
   ⟨some (29, false), .mov 32 (.t 31)⟩,
   ⟨some (32, true), .fad 33 2 8⟩,
   ⟨some (32, true), .load 34 33 1 false⟩,
   ⟨some (29, false), .pick 35 (.t 32) (.t 34) (.k (.bool false))⟩,
   ⟨none, .pick 36 (.t 29) (.k (.bool true)) (.t 35)⟩])
  (.cond (.t 36)
  (.seq (.reg [⟨none, .load 37 2 10 true⟩,
    ⟨none, .store 4 10 (.t 37)⟩,
    ⟨none, .mov 5 (.k (.bool false))⟩])
   (.ret))
  (.skip)))
 (.seq (.reg [⟨none, .load 38 2 10 true⟩,
  ⟨none, .loc 6 [.int .i64 0, .int .u64 0, .int .u64 0, .int .u64 0, .int .i64 0, .bool false, .bool false, .bool false, .bool false, .int .i64 0]⟩,
  ⟨none, .store 6 10 (.t 38)⟩])
 (.seq (.reg [⟨none, .fad 39 2 7⟩,
  ⟨none, .load 40 39 1 false⟩,
  ⟨none, .mov 41 (.t 40)⟩,
  ⟨some (41, false), .mov 42 (.t 1)⟩,
  ⟨some (41, false), .bin 43 .eql (.t 42) (.k (.int .i64 0))⟩,
  ⟨none, .pick 44 (.t 41) (.k (.bool true)) (.t 43)⟩,
  ⟨none, .fad 45 6 7⟩,
  ⟨none, .store 45 1 (.t 44)⟩])
 (.seq (.reg [⟨none, .fad 46 2 8⟩,
  ⟨none, .load 47 46 1 false⟩,
  ⟨none, .mov 48 (.t 47)⟩,
  ⟨some (48, false), .mov 49 (.t 1)⟩,
  ⟨some (48, false), .bin 50 .eql (.t 49) (.k (.int .i64 1))⟩,
  ⟨none, .pick 51 (.t 48) (.k (.bool true)) (.t 50)⟩,
  ⟨none, .fad 52 6 8⟩,
  ⟨none, .store 52 1 (.t 51)⟩])
 (.seq (.seq (.reg [⟨none, .fad 53 6 7⟩,
   ⟨none, .load 54 53 1 false⟩,
   ⟨none, .mov 55 (.t 54)⟩,
   ⟨some (55, true), .fad 56 6 8⟩,
   ⟨some (55, true), .load 57 56 1 false⟩,
   ⟨none, .pick 58 (.t 55) (.t 57) (.k (.bool false))⟩])
  (.cond (.t 58)
  (.reg [⟨none, .fad 59 6 4⟩,
   ⟨none, .store 59 1 (.k (.int .i64 3))⟩])
  (.skip)))
 (.seq (.reg [⟨none, .load 60 6 10 true⟩,
  ⟨none, .store 4 10 (.t 60)⟩,
  ⟨none, .mov 5 (.k (.bool true))⟩])
 (.ret)))))))⟩
/-- spec.TxVote -/
def r35 : RF :=
 ⟨3, [.cell 6 10 true, .tmp 7],
 .seq (.reg [⟨none, .locb 3 (.t 0)⟩,
  ⟨none, .loc 6 [.int .i64 0, .int .u64 0, .int .u64 0, .int .u64 0, .int .i64 0, .bool false, .bool false, .bool false, .bool false, .int .i64 0]⟩,
  ⟨none, .mov 7 (.k (.bool false))⟩])
 (.seq (.seq (.reg [⟨none, .load 9 3 10 true⟩,
   ⟨none, .call (some 10) 14 [(.t 9)] false⟩,
   ⟨none, .not 11 (.t 10)⟩,
   ⟨none, .mov 12 (.t 11)⟩,
   ⟨some (12, false), .fad 13 3 4⟩,
   ⟨some (12, false), .load 14 13 1 false⟩,
   ⟨some (12, false), .bin 15 .neq (.t 14) (.k (.int .i64 0))⟩,
   ⟨none, .pick 16 (.t 12) (.k (.bool true)) (.t 15)⟩,
   ⟨none, .mov 17 (.t 16)⟩,
   ⟨some (17, false), .mov 18 (.t 1)⟩,
   ⟨some (17, false), .call (some 19) 5 [(.t 18), (.k (.int .i64 0)), (.k (.int .i64 1))] false⟩,
   ⟨some (17, false), .not 20 (.t 19)⟩,
   ⟨none, .pick 21 (.t 17) (.k (.bool true)) (.t 20)⟩,
   ⟨none, .mov 22 (.t 21)⟩,
   ⟨some (22, false), .mov 23 (.t 2)⟩,
   ⟨some (22, false), .call (some 24) 5 [(.t 23), (.k (.int .i64 0)), (.k (.int .i64 99))] false⟩,
   ⟨some (22, false), .not 25 (.t 24)⟩,
   ⟨none, .pick 26 (.t 22) (.k (.bool true)) (.t 25)⟩,
   ⟨none, .mov 27 (.t 26)⟩,
   ⟨some (27, false), .mov 28 (.t 1)⟩,
   ⟨some (27, false), .bin 29 .eql (.t 28) (.k (.int .i64 0))⟩,
   ⟨some (27, false), .mov 30 (.t 29)⟩,
   ⟨some (30, true), .fad 31 3 5⟩,
   ⟨some (30, true), .load 32 31 1 false⟩,
   ⟨some (27, false), .pick 33 (.t 30) (.t 32) (.k (.bool false))⟩,
   ⟨none, .pick 34 (.t 27) (.k (.bool true)) (.t 33)⟩,
   ⟨none, .mov 35 (.t 34)⟩,
   ⟨some (35, false), .mov 36 (.t 1)⟩,
   ⟨some (35, false), .bin 37 .eql (.t 36) (.k (.int .i64 1))⟩,
   ⟨some (35, false), .mov 38 (.t 37)⟩,
   ⟨some (38, true), .fad 39 3 6⟩,
   ⟨some (38, true), .load 40 39 1 false⟩,
   ⟨some (35, false), .pick 41 (.t 38) (.t 40) (.k (.bool false))⟩,
   ⟨none, .pick 42 (.t 35) (.k (.bool true)) (.t 41)⟩])
  (.cond (.t 42)
  (.seq (.reg [⟨none, .load 43 3 10 true⟩,
    ⟨none, .store 6 10 (.t 43)⟩,
    ⟨none, .mov 7 (.k (.bool false))⟩])
   (.ret))
  (.skip)))
 (.seq (.reg [⟨none, .load 44 3 10 true⟩,
  ⟨none, .loc 8 [.int .i64 0, .int .u64 0, .int .u64 0, .int .u64 0, .int .i64 0, .bool false, .bool false, .bool false, .bool false, .int .i64 0]⟩,
  ⟨none, .store 8 10 (.t 44)⟩])
 (.seq (.seq (.reg [⟨none, .mov 45 (.t 2)⟩,
   ⟨none, .bin 46 .gtr (.t 45) (.k (.int .i64 0))⟩])
  (.cond (.t 46)
  (.seq (.reg [⟨none, .fad 47 8 4⟩,
    ⟨none, .store 47 1 (.k (.int .i64 2))⟩])
   (.seq (.reg [⟨none, .mov 48 (.t 2)⟩,
    ⟨none, .fad 49 8 9⟩,
    ⟨none, .store 49 1 (.t 48)⟩])
   (.seq (.reg [⟨none, .load 50 8 10 true⟩,
    ⟨none, .store 6 10 (.t 50)⟩,
    ⟨none, .mov 7 (.k (.bool true))⟩])
   (.ret))))
  (.skip)))
 (.seq (.reg [⟨none, .fad 51 3 5⟩,
  ⟨none, .load 52 51 1 false⟩,
  ⟨none, .mov 53 (.t 52)⟩,
  ⟨some (53, false), .mov 54 (.t 1)⟩,
  ⟨some (53, false), .bin 55 .eql (.t 54) (.k (.int .i64 0))⟩,
  ⟨none, .pick 56 (.t 53) (.k (.bool true)) (.t 55)⟩,
  ⟨none, .fad 57 8 5⟩,
  ⟨none, .store 57 1 (.t 56)⟩])
 (.seq (.reg [⟨none, .fad 58 3 6⟩,
  ⟨none, .load 59 58 1 false⟩,
  ⟨none, .mov 60 (.t 59)⟩,
  ⟨some (60, false), .mov 61 (.t 1)⟩,
  ⟨some (60, false), .bin 62 .eql (.t 61) (.k (.int .i64 1))⟩,
  ⟨none, .pick 63 (.t 60) (.k (.bool true)) (.t 62)⟩,
  ⟨none, .fad 64 8 6⟩,
  ⟨none, .store 64 1 (.t 63)⟩])
 (.seq (.seq (.reg [⟨none, .fad 65 8 5⟩,
   ⟨none, .load 66 65 1 false⟩,
   ⟨none, .mov 67 (.t 66)⟩,
   ⟨some (67, true), .fad 68 8 6⟩,
   ⟨some (67, true), .load 69 68 1 false⟩,
   ⟨none, .pick 70 (.t 67) (.t 69) (.k (.bool false))⟩])
  (.cond (.t 70)
  (.reg [⟨none, .fad 71 8 4⟩,
   ⟨none, .store 71 1 (.k (.int .i64 1))⟩])
  (.skip)))
 (.seq (.reg [⟨none, .load 72 8 10 true⟩,
  ⟨none, .store 6 10 (.t 72)⟩,
  ⟨none, .mov 7 (.k (.bool true))⟩])
 (.ret))))))))⟩
/-- A loop of spec.TxSends. -/
def r46L0 : RC :=
 .seq (.seq (.reg [⟨none, .mov 17 (.t 4)⟩,
      ⟨none, .bin 18 .lss (.t 17) (.k (.int .i64 2))⟩])
     (.cond (.t 18)
     (.skip)
     (.exit 0)))
    (.seq (.block 1 (.seq (.reg [⟨none, .fad 21 1 1⟩,
       ⟨none, .load 22 21 1 false⟩,
       ⟨none, .fad 23 1 0⟩,
       ⟨none, .load 24 23 1 false⟩,
       ⟨none, .build 25 [.int .i64 0, .int .i64 0, .int .u64 0, .int .u64 0, .int .i64 0] [(2, 1, (.t 22)), (4, 1, (.t 24))]⟩,
       ⟨none, .loc 5 [.int .i64 0, .int .i64 0, .int .u64 0, .int .u64 0, .int .i64 0]⟩,
       ⟨none, .store 5 5 (.t 25)⟩])
      (.seq (.reg [⟨none, .chk []⟩,
       ⟨none, .fad 26 1 5⟩,
       ⟨none, .load 27 26 1 false⟩,
       ⟨none, .mov 6 (.t 27)⟩,
       ⟨none, .fad 28 1 7⟩,
       ⟨none, .load 29 28 1 false⟩,
       ⟨none, .mov 7 (.t 29)⟩])
      (.seq (.seq (.reg [⟨none, .mov 30 (.t 4)⟩,
        ⟨none, .bin 31 .eql (.t 30) (.k (.int .i64 1))⟩])
       (.cond (.t 31)
       (.seq (.reg [⟨none, .fad 32 1 2⟩,
         ⟨none, .load 33 32 1 false⟩,
         ⟨none, .fad 34 5 2⟩,
         ⟨none, .store 34 1 (.t 33)⟩])
        (.reg [⟨none, .chk []⟩,
        ⟨none, .fad 35 1 6⟩,
        ⟨none, .load 36 35 1 false⟩,
        ⟨none, .mov 6 (.t 36)⟩,
        ⟨none, .fad 37 1 8⟩,
        ⟨none, .load 38 37 1 false⟩,
        ⟨none, .mov 7 (.t 38)⟩]))
       (.skip)))
      (.block 2 (.seq (.reg [⟨none, .fad 40 1 4⟩,
        ⟨none, .load 41 40 1 false⟩,
        ⟨none, .bin 42 .eql (.t 41) (.k (.int .i64 0))⟩,
        ⟨none, .mov 43 (.t 42)⟩,
        ⟨some (43, true), .mov 44 (.t 6)⟩,
        ⟨some (43, true), .not 45 (.t 44)⟩,
        ⟨none, .pick 46 (.t 43) (.t 45) (.k (.bool false))⟩,
        ⟨none, .mov 39 (.t 46)⟩])
       (.cond (.t 39)
       (.seq (.reg [⟨none, .mov 47 (.t 4)⟩,
         ⟨none, .bin 48 .add (.k (.int .i64 4)) (.t 47)⟩,
         ⟨none, .fad 49 5 1⟩,
         ⟨none, .store 49 1 (.t 48)⟩])
        (.seq (.reg [⟨none, .fad 50 1 3⟩,
         ⟨none, .load 51 50 1 false⟩,
         ⟨none, .fad 52 5 3⟩,
         ⟨none, .store 52 1 (.t 51)⟩])
        (.reg [⟨none, .mov 53 (.t 3)⟩,
        ⟨none, .load 54 5 5 true⟩,
        ⟨none, .lit 55 3 1 [.int .i64 0, .int .i64 0, .int .u64 0, .int .u64 0, .int .i64 0] [(0, (.t 54))]⟩,
        ⟨none, .app 56 3 40 (.t 53) (.t 55)⟩,
        ⟨none, .mov 3 (.t 56)⟩])))
       (.seq (.reg [⟨none, .fad 58 1 4⟩,
         ⟨none, .load 59 58 1 false⟩,
         ⟨none, .bin 60 .eql (.t 59) (.k (.int .i64 1))⟩,
         ⟨none, .mov 61 (.t 60)⟩,
         ⟨some (61, true), .mov 62 (.t 7)⟩,
         ⟨some (61, true), .not 63 (.t 62)⟩,
         ⟨none, .pick 64 (.t 61) (.t 63) (.k (.bool false))⟩,
         ⟨none, .mov 57 (.t 64)⟩])
        (.cond (.t 57)
        (.seq (.reg [⟨none, .fad 65 5 1⟩,
          ⟨none, .store 65 1 (.k (.int .i64 6))⟩])
         (.reg [⟨none, .mov 66 (.t 3)⟩,
         ⟨none, .load 67 5 5 true⟩,
         ⟨none, .lit 68 3 1 [.int .i64 0, .int .i64 0, .int .u64 0, .int .u64 0, .int .i64 0] [(0, (.t 67))]⟩,
         ⟨none, .app 69 3 40 (.t 66) (.t 68)⟩,
         ⟨none, .mov 3 (.t 69)⟩]))
        (.seq (.reg [⟨none, .fad 71 1 4⟩,
          ⟨none, .load 72 71 1 false⟩,
          ⟨none, .bin 73 .eql (.t 72) (.k (.int .i64 2))⟩,
          ⟨none, .mov 74 (.t 73)⟩,
          ⟨some (74, true), .mov 75 (.t 7)⟩,
          ⟨some (74, true), .not 76 (.t 75)⟩,
          ⟨none, .pick 77 (.t 74) (.t 76) (.k (.bool false))⟩,
          ⟨none, .mov 70 (.t 77)⟩])
         (.cond (.t 70)
         (.seq (.reg [⟨none, .fad 78 5 1⟩,
           ⟨none, .store 78 1 (.k (.int .i64 7))⟩])
          (.reg [⟨none, .mov 79 (.t 3)⟩,
          ⟨none, .load 80 5 5 true⟩,
          ⟨none, .lit 81 3 1 [.int .i64 0, .int .i64 0, .int .u64 0, .int .u64 0, .int .i64 0] [(0, (.t 80))]⟩,
          ⟨none, .app 82 3 40 (.t 79) (.t 81)⟩,
          ⟨none, .mov 3 (.t 82)⟩]))
         (.skip))))))))))))
    (.reg [⟨none, .mov 19 (.t 4)⟩,
    ⟨none, .bin 20 .add (.t 19) (.k (.int .i64 1))⟩,
    ⟨none, .mov 4 (.t 20)⟩]))
/-- spec.TxSends -/
def r46 : RF :=
 ⟨1, [.tmp 2],
 .seq (.reg [⟨none, .locb 1 (.t 0)⟩,
  ⟨none, .mov 2 (.k (.nil))⟩])
 (.seq (.reg [⟨none, .lit 8 3 0 [.int .i64 0, .int .i64 0, .int .u64 0, .int .u64 0, .int .i64 0] []⟩,
  ⟨none, .mov 3 (.t 8)⟩])
 (.seq (.seq (.reg [⟨none, .load 9 1 10 true⟩,
   ⟨none, .call (some 10) 14 [(.t 9)] false⟩,
   ⟨none, .not 11 (.t 10)⟩,
   ⟨none, .mov 12 (.t 11)⟩,
   ⟨some (12, false), .fad 13 1 4⟩,
   ⟨some (12, false), .load 14 13 1 false⟩,
   ⟨some (12, false), .bin 15 .eql (.t 14) (.k (.int .i64 3))⟩,
   ⟨none, .pick 16 (.t 12) (.k (.bool true)) (.t 15)⟩])
  (.cond (.t 16)
  (.seq (.reg [⟨none, .mov 2 (.k (.nil))⟩])
   (.ret))
  (.skip)))
 (.seq (.seq (.reg [⟨none, .mov 4 (.k (.int .i64 0))⟩])
  (.block 0 (.loop [1, 3, 4]
   r46L0)))
 (.seq (.reg [⟨none, .mov 83 (.t 3)⟩,
  ⟨none, .mov 2 (.t 83)⟩])
 (.ret)))))⟩
/-- A loop of spec.PlayTx. -/
def r59L0 : RC :=
 .seq (.seq (.reg [⟨none, .mov 20 (.t 7)⟩,
      ⟨none, .mov 21 (.t 1)⟩,
      ⟨none, .len 22 (.t 21)⟩,
      ⟨none, .bin 23 .lss (.t 20) (.t 22)⟩])
     (.cond (.t 23)
     (.skip)
     (.exit 0)))
    (.seq (.block 1 (.seq (.reg [⟨none, .mov 8 (.k (.bool false))⟩])
      (.seq (.reg [⟨none, .mov 26 (.t 1)⟩,
       ⟨none, .mov 27 (.t 7)⟩,
       ⟨none, .idx 28 5 (.t 26) (.t 27)⟩,
       ⟨none, .load 29 28 3 true⟩,
       ⟨none, .loc 9 [.int .i64 0, .int .i64 0, .int .i64 0]⟩,
       ⟨none, .store 9 3 (.t 29)⟩])
      (.seq (.seq (.reg [⟨none, .fad 30 9 0⟩,
        ⟨none, .load 31 30 1 false⟩])
       (.block 2 (.seq (.reg [⟨none, .bin 33 .eql (.t 31) (.k (.int .i64 0))⟩,
         ⟨none, .mov 32 (.t 33)⟩])
        (.cond (.t 32)
        (.reg [⟨none, .load 35 2 10 true⟩,
         ⟨none, .fad 36 9 1⟩,
         ⟨none, .load 37 36 1 false⟩,
         ⟨none, .fad 38 9 2⟩,
         ⟨none, .load 39 38 1 false⟩,
         ⟨none, .call (some 40) 35 [(.t 35), (.t 37), (.t 39)] false⟩,
         ⟨none, .mov 34 (.t 40)⟩,
         ⟨none, .ext 41 (.t 34) 0⟩,
         ⟨none, .ext 42 (.t 34) 1⟩,
         ⟨none, .store 2 10 (.t 41)⟩,
         ⟨none, .mov 8 (.t 42)⟩])
        (.seq (.reg [⟨none, .bin 44 .eql (.t 31) (.k (.int .i64 1))⟩,
          ⟨none, .mov 43 (.t 44)⟩])
         (.cond (.t 43)
         (.reg [⟨none, .load 46 2 10 true⟩,
          ⟨none, .fad 47 9 1⟩,
          ⟨none, .load 48 47 1 false⟩,
          ⟨none, .call (some 49) 32 [(.t 46), (.t 48)] false⟩,
          ⟨none, .mov 45 (.t 49)⟩,
          ⟨none, .ext 50 (.t 45) 0⟩,
          ⟨none, .ext 51 (.t 45) 1⟩,
          ⟨none, .store 2 10 (.t 50)⟩,
          ⟨none, .mov 8 (.t 51)⟩])
         (.seq (.reg [⟨none, .bin 53 .eql (.t 31) (.k (.int .i64 2))⟩,
           ⟨none, .mov 52 (.t 53)⟩])
          (.cond (.t 52)
          (.reg [⟨none, .load 55 2 10 true⟩,
           ⟨none, .fad 56 9 2⟩,
           ⟨none, .load 57 56 1 false⟩,
           ⟨none, .call (some 58) 24 [(.t 55), (.t 57)] false⟩,
           ⟨none, .mov 54 (.t 58)⟩,
           ⟨none, .ext 59 (.t 54) 0⟩,
           ⟨none, .ext 60 (.t 54) 1⟩,
           ⟨none, .store 2 10 (.t 59)⟩,
           ⟨none, .mov 8 (.t 60)⟩])
          (.skip)))))))))
      (.reg [⟨none, .mov 61 (.t 6)⟩,
      ⟨none, .mov 62 (.t 8)⟩,
      ⟨none, .lit 63 4 1 [.bool false] [(0, (.t 62))]⟩,
      ⟨none, .app 64 4 1 (.t 61) (.t 63)⟩,
      ⟨none, .mov 6 (.t 64)⟩])))))
    (.reg [⟨none, .mov 24 (.t 7)⟩,
    ⟨none, .bin 25 .add (.t 24) (.k (.int .i64 1))⟩,
    ⟨none, .mov 7 (.t 25)⟩]))
/-- spec.PlayTx -/
def r59 : RF :=
 ⟨2, [.cell 4 10 true, .tmp 5],
 .seq (.reg [⟨none, .locb 2 (.t 0)⟩,
  ⟨none, .loc 4 [.int .i64 0, .int .u64 0, .int .u64 0, .int .u64 0, .int .i64 0, .bool false, .bool false, .bool false, .bool false, .int .i64 0]⟩,
  ⟨none, .mov 5 (.k (.nil))⟩])
 (.seq (.seq (.reg [⟨none, .load 10 2 10 true⟩,
   ⟨none, .call (some 11) 14 [(.t 10)] false⟩,
   ⟨none, .not 12 (.t 11)⟩,
   ⟨none, .mov 13 (.t 12)⟩,
   ⟨some (13, false), .mov 14 (.t 1)⟩,
   ⟨some (13, false), .len 15 (.t 14)⟩,
   ⟨some (13, false), .bin 16 .gtr (.t 15) (.k (.int .i64 100))⟩,
   ⟨none, .pick 17 (.t 13) (.k (.bool true)) (.t 16)⟩])
  (.cond (.t 17)
  (.seq (.reg [⟨none, .load 18 2 10 true⟩,
    ⟨none, .store 4 10 (.t 18)⟩,
    ⟨none, .mov 5 (.k (.nil))⟩])
   (.ret))
  (.skip)))
 (.seq (.reg [⟨none, .lit 19 4 0 [.bool false] []⟩,
  ⟨none, .mov 6 (.t 19)⟩])
 (.seq (.seq (.reg [⟨none, .mov 7 (.k (.int .i64 0))⟩])
  (.block 0 (.loop [1, 2, 4, 6, 7]
   r59L0)))
 (.seq (.reg [⟨none, .load 65 2 10 true⟩,
  ⟨none, .mov 66 (.t 6)⟩,
  ⟨none, .store 4 10 (.t 65)⟩,
  ⟨none, .mov 5 (.t 66)⟩])
 (.ret)))))⟩
/-- spec.DrawRightTx -/
def r145 : RF :=
 ⟨1, [.cell 2 10 true, .tmp 3],
 .seq (.reg [⟨none, .loc 2 [.int .i64 0, .int .u64 0, .int .u64 0, .int .u64 0, .int .i64 0, .bool false, .bool false, .bool false, .bool false, .int .i64 0]⟩,
  ⟨none, .mov 3 (.k (.nil))⟩])
 (.seq (.reg [⟨none, .mov 6 (.t 0)⟩,
  ⟨none, .call (some 7) 194 [(.t 6)] false⟩,
  ⟨none, .mov 4 (.t 7)⟩])
 (.seq (.reg [⟨none, .mov 8 (.t 4)⟩,
  ⟨none, .mov 9 (.t 0)⟩,
  ⟨none, .call (some 10) 195 [(.t 8), (.t 9)] false⟩,
  ⟨none, .loc 5 [.int .i64 0, .int .u64 0, .int .u64 0, .int .u64 0, .int .i64 0, .bool false, .bool false, .bool false, .bool false, .int .i64 0]⟩,
  ⟨none, .store 5 10 (.t 10)⟩])
 (.seq (.reg [⟨none, .chk []⟩,
  ⟨none, .mov 12 (.t 4)⟩,
  ⟨none, .mov 13 (.t 0)⟩,
  ⟨none, .lld 11 5 10 true⟩,
  ⟨none, .call (some 14) 196 [(.t 12), (.t 13)] false⟩,
  ⟨none, .store 2 10 (.t 11)⟩,
  ⟨none, .mov 3 (.t 14)⟩])
 (.ret))))⟩
/-- spec.l14DrawRight -/
def r195 : RF :=
 ⟨2, [.cell 4 10 true],
 .seq (.reg [⟨none, .loc 4 [.int .i64 0, .int .u64 0, .int .u64 0, .int .u64 0, .int .i64 0, .bool false, .bool false, .bool false, .bool false, .int .i64 0]⟩])
 (.seq (.reg [⟨none, .mov 9 (.t 0)⟩,
  ⟨none, .call (some 10) 235 [(.t 9)] false⟩,
  ⟨none, .mov 5 (.t 10)⟩])
 (.seq (.reg [⟨none, .mov 11 (.t 0)⟩,
  ⟨none, .call (some 12) 235 [(.t 11)] false⟩,
  ⟨none, .mov 6 (.t 12)⟩])
 (.seq (.seq (.reg [⟨none, .mov 13 (.t 5)⟩,
   ⟨none, .mov 14 (.t 6)⟩,
   ⟨none, .bin 15 .eql (.t 13) (.t 14)⟩])
  (.cond (.t 15)
  (.reg [⟨none, .mov 16 (.t 5)⟩,
   ⟨none, .bin 17 .add (.t 16) (.k (.int .u64 1))⟩,
   ⟨none, .mov 6 (.t 17)⟩])
  (.skip)))
 (.seq (.reg [⟨none, .mov 19 (.t 0)⟩,
  ⟨none, .call (some 20) 236 [(.t 19), (.k (.int .i64 5))] false⟩,
  ⟨none, .bin 21 .add (.k (.int .i64 1)) (.t 20)⟩,
  ⟨none, .mov 22 (.t 5)⟩,
  ⟨none, .mov 23 (.t 6)⟩,
  ⟨none, .mov 24 (.t 0)⟩,
  ⟨none, .call (some 25) 237 [(.t 24)] false⟩,
  ⟨none, .call (some 26) 20 [(.t 21), (.t 22), (.t 23), (.t 25)] false⟩,
  ⟨none, .mov 18 (.t 26)⟩,
  ⟨none, .ext 27 (.t 18) 0⟩,
  ⟨none, .ext 28 (.t 18) 1⟩,
  ⟨none, .loc 7 [.int .i64 0, .int .u64 0, .int .u64 0, .int .u64 0, .int .i64 0, .bool false, .bool false, .bool false, .bool false, .int .i64 0]⟩,
  ⟨none, .store 7 10 (.t 27)⟩,
  ⟨none, .mov 8 (.t 28)⟩])
 (.seq (.reg [⟨none, .chk []⟩,
  ⟨none, .mov 31 (.t 0)⟩,
  ⟨none, .mov 32 (.t 1)⟩,
  ⟨none, .lld 30 7 10 true⟩,
  ⟨none, .call (some 33) 196 [(.t 31), (.t 32)] false⟩,
  ⟨none, .call (some 34) 59 [(.t 30), (.t 33)] true⟩,
  ⟨none, .mov 29 (.t 34)⟩,
  ⟨none, .ext 35 (.t 29) 0⟩,
  ⟨none, .ext 36 (.t 29) 1⟩,
  ⟨none, .store 7 10 (.t 35)⟩])
 (.seq (.reg [⟨none, .load 37 7 10 true⟩,
  ⟨none, .store 4 10 (.t 37)⟩])
 (.ret)))))))⟩
/-- A loop of spec.l14DrawEvents. -/
def r196L0 : RC :=
 .seq (.seq (.reg [⟨none, .mov 14 (.t 6)⟩,
      ⟨none, .bin 15 .gtr (.t 14) (.k (.int .i64 0))⟩])
     (.cond (.t 15)
     (.skip)
     (.exit 0)))
    (.seq (.block 1 (.seq (.reg [⟨none, .mov 18 (.t 0)⟩,
       ⟨none, .mov 19 (.t 0)⟩,
       ⟨none, .call (some 20) 236 [(.t 19), (.k (.int .i64 5))] false⟩,
       ⟨none, .bin 21 .sub (.t 20) (.k (.int .i64 1))⟩,
       ⟨none, .lit 22 15 8 [.int .i64 0] [(0, (.k (.int .i64 0))), (1, (.k (.int .i64 0))), (2, (.k (.int .i64 0))), (3, (.k (.int .i64 1))), (4, (.k (.int .i64 1))), (5, (.k (.int .i64 1))), (6, (.k (.int .i64 2))), (7, (.t 21))]⟩,
       ⟨none, .call (some 23) 239 [(.t 18), (.t 22)] false⟩,
       ⟨none, .mov 24 (.t 0)⟩,
       ⟨none, .call (some 25) 236 [(.t 24), (.k (.int .i64 2))] false⟩,
       ⟨none, .build 26 [.int .i64 0, .int .i64 0, .int .i64 0] [(0, 1, (.t 23)), (1, 1, (.t 25))]⟩,
       ⟨none, .loc 7 [.int .i64 0, .int .i64 0, .int .i64 0]⟩,
       ⟨none, .store 7 3 (.t 26)⟩])
      (.seq (.reg [⟨none, .mov 27 (.t 0)⟩,
       ⟨none, .lit 28 15 9 [.int .i64 0] [(0, (.k (.int .i64 0))), (1, (.k (.int .i64 0))), (2, (.k (.int .i64 0))), (3, (.k (.int .i64 0))), (4, (.k (.int .i64 4))), (5, (.k (.int .i64 2))), (6, (.k (.int .i64 99))), (7, (.k (.int .i64 100))), (8, (.k (.int .i64 (-1))))]⟩,
       ⟨none, .call (some 29) 239 [(.t 27), (.t 28)] false⟩,
       ⟨none, .fad 30 7 2⟩,
       ⟨none, .store 30 1 (.t 29)⟩])
      (.seq (.seq (.reg [⟨none, .mov 31 (.t 0)⟩,
        ⟨none, .call (some 32) 240 [(.t 31), (.k (.int .i64 25))] false⟩])
       (.cond (.t 32)
       (.reg [⟨none, .mov 33 (.t 0)⟩,
        ⟨none, .lit 34 15 2 [.int .i64 0] [(0, (.k (.int .i64 (-1)))), (1, (.k (.int .i64 2)))]⟩,
        ⟨none, .call (some 35) 239 [(.t 33), (.t 34)] false⟩,
        ⟨none, .fad 36 7 1⟩,
        ⟨none, .store 36 1 (.t 35)⟩])
       (.skip)))
      (.reg [⟨none, .mov 37 (.t 5)⟩,
      ⟨none, .load 38 7 3 true⟩,
      ⟨none, .lit 39 5 1 [.int .i64 0, .int .i64 0, .int .i64 0] [(0, (.t 38))]⟩,
      ⟨none, .app 40 5 24 (.t 37) (.t 39)⟩,
      ⟨none, .mov 5 (.t 40)⟩])))))
    (.reg [⟨none, .mov 16 (.t 6)⟩,
    ⟨none, .bin 17 .sub (.t 16) (.k (.int .i64 1))⟩,
    ⟨none, .mov 6 (.t 17)⟩]))
/-- spec.l14DrawEvents -/
def r196 : RF :=
 ⟨2, [.tmp 4],
 .seq (.reg [⟨none, .mov 4 (.k (.nil))⟩])
 (.seq (.reg [⟨none, .lit 8 5 0 [.int .i64 0, .int .i64 0, .int .i64 0] []⟩,
  ⟨none, .mov 5 (.t 8)⟩])
 (.seq (.seq (.reg [⟨none, .mov 9 (.t 0)⟩,
   ⟨none, .mov 10 (.t 1)⟩,
   ⟨none, .call (some 11) 238 [(.t 10), (.k (.int .i64 8))] false⟩,
   ⟨none, .bin 12 .add (.k (.int .i64 2)) (.t 11)⟩,
   ⟨none, .call (some 13) 236 [(.t 9), (.t 12)] false⟩,
   ⟨none, .mov 6 (.t 13)⟩])
  (.block 0 (.loop [0, 5, 6]
   r196L0)))
 (.seq (.reg [⟨none, .mov 41 (.t 5)⟩,
  ⟨none, .mov 4 (.t 41)⟩])
 (.ret))))⟩
/-- The functions of this text, with their numbers. -/
def tS14 : List (Nat × RF) := [(14, r14), (17, r17), (20, r20), (24, r24), (32, r32), (35, r35), (46, r46), (59, r59), (145, r145), (195, r195), (196, r196)]
end Go.Proofs.Ytlbagejkjkfkjaa.A
/- The compact code of some functions: laws.FnTx. -/
namespace Go.Proofs.Ytlbagejkjkfkjaa.A
open Go
/-- A loop of laws.FnTx. -/
def r143L0 : RC :=
 .seq (.seq (.reg [⟨none, .mov 126 (.t 13)⟩,
           ⟨none, .mov 127 (.t 12)⟩,
           ⟨none, .len 128 (.t 127)⟩,
           ⟨none, .bin 129 .lss (.t 126) (.t 128)⟩])
          (.cond (.t 129)
          (.skip)
          (.exit 2)))
         (.seq (.block 3 (.seq (.reg [⟨none, .mov 132 (.t 12)⟩,
            ⟨none, .mov 133 (.t 13)⟩,
            ⟨none, .idx 134 3 (.t 132) (.t 133)⟩,
            ⟨none, .load 135 134 5 true⟩,
            ⟨none, .loc 14 [.int .i64 0, .int .i64 0, .int .u64 0, .int .u64 0, .int .i64 0]⟩,
            ⟨none, .store 14 5 (.t 135)⟩])
           (.seq (.reg [⟨none, .fad 136 14 4⟩,
            ⟨none, .load 137 136 1 false⟩,
            ⟨none, .fad 138 8 0⟩,
            ⟨none, .load 139 138 1 false⟩,
            ⟨none, .bin 140 .neq (.t 137) (.t 139)⟩,
            ⟨none, .mov 141 (.t 140)⟩,
            ⟨some (141, false), .fad 142 14 1⟩,
            ⟨some (141, false), .load 143 142 1 false⟩,
            ⟨some (141, false), .bin 144 .eql (.t 143) (.k (.int .i64 6))⟩,
            ⟨some (141, false), .mov 145 (.t 144)⟩,
            ⟨some (145, true), .mov 146 (.t 11)⟩,
            ⟨some (145, true), .bin 147 .neq (.t 146) (.k (.int .i64 0))⟩,
            ⟨some (141, false), .pick 148 (.t 145) (.t 147) (.k (.bool false))⟩,
            ⟨none, .pick 149 (.t 141) (.k (.bool true)) (.t 148)⟩,
            ⟨none, .mov 150 (.t 149)⟩,
            ⟨some (150, false), .fad 151 14 1⟩,
            ⟨some (150, false), .load 152 151 1 false⟩,
            ⟨some (150, false), .bin 153 .eql (.t 152) (.k (.int .i64 7))⟩,
            ⟨some (150, false), .mov 154 (.t 153)⟩,
            ⟨some (154, true), .mov 155 (.t 11)⟩,
            ⟨some (154, true), .bin 156 .leq (.t 155) (.k (.int .i64 0))⟩,
            ⟨some (150, false), .pick 157 (.t 154) (.t 156) (.k (.bool false))⟩,
            ⟨none, .pick 158 (.t 150) (.k (.bool true)) (.t 157)⟩,
            ⟨none, .mov 159 (.t 158)⟩,
            ⟨some (159, false), .fad 160 14 1⟩,
            ⟨some (159, false), .load 161 160 1 false⟩,
            ⟨some (159, false), .bin 162 .eql (.t 161) (.k (.int .i64 4))⟩,
            ⟨some (159, false), .mov 163 (.t 162)⟩,
            ⟨some (163, false), .fad 164 14 1⟩,
            ⟨some (163, false), .load 165 164 1 false⟩,
            ⟨some (163, false), .bin 166 .eql (.t 165) (.k (.int .i64 5))⟩,
            ⟨some (159, false), .pick 167 (.t 163) (.k (.bool true)) (.t 166)⟩,
            ⟨some (159, false), .mov 168 (.t 167)⟩,
            ⟨some (168, true), .mov 169 (.t 11)⟩,
            ⟨some (168, true), .bin 170 .neq (.t 169) (.k (.int .i64 (-1)))⟩,
            ⟨some (159, false), .pick 171 (.t 168) (.t 170) (.k (.bool false))⟩,
            ⟨none, .pick 172 (.t 159) (.k (.bool true)) (.t 171)⟩,
            ⟨none, .mov 173 (.t 172)⟩,
            ⟨some (173, false), .fad 174 14 2⟩,
            ⟨some (173, false), .load 175 174 1 false⟩,
            ⟨some (173, false), .fad 176 8 1⟩,
            ⟨some (173, false), .load 177 176 1 false⟩,
            ⟨some (173, false), .bin 178 .eql (.t 175) (.t 177)⟩,
            ⟨some (173, false), .mov 179 (.t 178)⟩,
            ⟨some (179, true), .fad 180 8 7⟩,
            ⟨some (179, true), .load 181 180 1 false⟩,
            ⟨some (173, false), .pick 182 (.t 179) (.t 181) (.k (.bool false))⟩,
            ⟨none, .pick 183 (.t 173) (.k (.bool true)) (.t 182)⟩,
            ⟨none, .mov 184 (.t 183)⟩,
            ⟨some (184, false), .fad 185 14 2⟩,
            ⟨some (184, false), .load 186 185 1 false⟩,
            ⟨some (184, false), .fad 187 8 2⟩,
            ⟨some (184, false), .load 188 187 1 false⟩,
            ⟨some (184, false), .bin 189 .eql (.t 186) (.t 188)⟩,
            ⟨some (184, false), .mov 190 (.t 189)⟩,
            ⟨some (190, true), .fad 191 8 8⟩,
            ⟨some (190, true), .load 192 191 1 false⟩,
            ⟨some (184, false), .pick 193 (.t 190) (.t 192) (.k (.bool false))⟩,
            ⟨none, .pick 194 (.t 184) (.k (.bool true)) (.t 193)⟩])
           (.cond (.t 194)
           (.seq (.reg [⟨none, .mov 2 (.k (.bool false))⟩])
            (.ret))
           (.skip)))))
         (.reg [⟨none, .mov 130 (.t 13)⟩,
         ⟨none, .bin 131 .add (.t 130) (.k (.int .i64 1))⟩,
         ⟨none, .mov 13 (.t 131)⟩]))
/-- A loop of laws.FnTx. -/
def r143L1 : RC :=
 .seq (.seq (.reg [⟨none, .mov 38 (.t 7)⟩,
      ⟨none, .mov 39 (.t 4)⟩,
      ⟨none, .len 40 (.t 39)⟩,
      ⟨none, .bin 41 .lss (.t 38) (.t 40)⟩])
     (.cond (.t 41)
     (.skip)
     (.exit 0)))
    (.seq (.block 1 (.seq (.reg [⟨none, .chk [8]⟩,
       ⟨none, .loc 8 [.int .i64 0, .int .u64 0, .int .u64 0, .int .u64 0, .int .i64 0, .bool false, .bool false, .bool false, .bool false, .int .i64 0]⟩,
       ⟨none, .mov 46 (.t 4)⟩,
       ⟨none, .mov 47 (.t 7)⟩,
       ⟨none, .mov 48 (.t 7)⟩,
       ⟨none, .bin 49 .add (.t 48) (.k (.int .i64 1))⟩,
       ⟨none, .cut 50 5 (.t 46) (some (.t 47)) (some (.t 49))⟩,
       ⟨none, .load 45 3 10 true⟩,
       ⟨none, .call (some 51) 60 [(.t 45), (.t 50)] true⟩,
       ⟨none, .mov 44 (.t 51)⟩,
       ⟨none, .ext 52 (.t 44) 0⟩,
       ⟨none, .ext 53 (.t 44) 1⟩,
       ⟨none, .store 8 10 (.t 52)⟩,
       ⟨none, .mov 9 (.t 53)⟩])
      (.seq (.reg [⟨none, .chk []⟩,
       ⟨none, .load 54 3 10 true⟩,
       ⟨none, .load 56 8 10 true⟩,
       ⟨none, .call (some 55) 18 [(.t 54)] true⟩,
       ⟨none, .call (some 57) 18 [(.t 56)] true⟩,
       ⟨none, .mov 10 (.t 55)⟩,
       ⟨none, .mov 11 (.t 57)⟩])
      (.seq (.seq (.reg [⟨none, .chk []⟩,
        ⟨none, .mov 58 (.t 9)⟩,
        ⟨none, .len 59 (.t 58)⟩,
        ⟨none, .bin 60 .neq (.t 59) (.k (.int .i64 1))⟩,
        ⟨none, .mov 61 (.t 60)⟩,
        ⟨some (61, false), .mov 62 (.t 9)⟩,
        ⟨some (61, false), .idx 63 4 (.t 62) (.k (.int .i64 0))⟩,
        ⟨some (61, false), .mov 65 (.t 6)⟩,
        ⟨some (61, false), .mov 66 (.t 7)⟩,
        ⟨some (61, false), .idx 67 4 (.t 65) (.t 66)⟩,
        ⟨some (61, false), .load 64 63 1 false⟩,
        ⟨some (61, false), .load 68 67 1 false⟩,
        ⟨some (61, false), .beq 69 true (.t 64) (.t 68)⟩,
        ⟨none, .pick 70 (.t 61) (.k (.bool true)) (.t 69)⟩,
        ⟨none, .mov 71 (.t 70)⟩,
        ⟨some (71, false), .load 72 8 10 true⟩,
        ⟨some (71, false), .call (some 73) 15 [(.t 72)] true⟩,
        ⟨some (71, false), .not 74 (.t 73)⟩,
        ⟨none, .pick 75 (.t 71) (.k (.bool true)) (.t 74)⟩,
        ⟨none, .mov 76 (.t 75)⟩,
        ⟨some (76, false), .mov 77 (.t 9)⟩,
        ⟨some (76, false), .idx 78 4 (.t 77) (.k (.int .i64 0))⟩,
        ⟨some (76, false), .load 79 78 1 false⟩,
        ⟨some (76, false), .not 80 (.t 79)⟩,
        ⟨some (76, false), .mov 81 (.t 80)⟩,
        ⟨some (81, true), .load 82 8 10 true⟩,
        ⟨some (81, true), .load 83 3 10 true⟩,
        ⟨some (81, true), .eqs 84 true [.i .i64, .i .u64, .i .u64, .i .u64, .i .i64, .b, .b, .b, .b, .i .i64] (.t 82) (.t 83)⟩,
        ⟨some (76, false), .pick 85 (.t 81) (.t 84) (.k (.bool false))⟩,
        ⟨none, .pick 86 (.t 76) (.k (.bool true)) (.t 85)⟩,
        ⟨none, .mov 87 (.t 86)⟩,
        ⟨some (87, false), .mov 88 (.t 10)⟩,
        ⟨some (87, false), .bin 89 .geq (.t 88) (.k (.int .i64 0))⟩,
        ⟨some (87, false), .mov 90 (.t 89)⟩,
        ⟨some (90, true), .mov 91 (.t 11)⟩,
        ⟨some (90, true), .mov 92 (.t 10)⟩,
        ⟨some (90, true), .bin 93 .neq (.t 91) (.t 92)⟩,
        ⟨some (87, false), .pick 94 (.t 90) (.t 93) (.k (.bool false))⟩,
        ⟨none, .pick 95 (.t 87) (.k (.bool true)) (.t 94)⟩,
        ⟨none, .mov 96 (.t 95)⟩,
        ⟨some (96, false), .fad 97 8 4⟩,
        ⟨some (96, false), .load 98 97 1 false⟩,
        ⟨some (96, false), .fad 99 3 4⟩,
        ⟨some (96, false), .load 100 99 1 false⟩,
        ⟨some (96, false), .bin 101 .lss (.t 98) (.t 100)⟩,
        ⟨none, .pick 102 (.t 96) (.k (.bool true)) (.t 101)⟩])
       (.cond (.t 102)
       (.seq (.reg [⟨none, .mov 2 (.k (.bool false))⟩])
        (.ret))
       (.skip)))
      (.seq (.seq (.reg [⟨none, .mov 103 (.t 11)⟩,
        ⟨none, .bin 104 .eql (.t 103) (.k (.int .i64 0))⟩,
        ⟨none, .fad 105 8 5⟩,
        ⟨none, .load 106 105 1 false⟩,
        ⟨none, .mov 107 (.t 106)⟩,
        ⟨some (107, true), .fad 108 8 6⟩,
        ⟨some (107, true), .load 109 108 1 false⟩,
        ⟨none, .pick 110 (.t 107) (.t 109) (.k (.bool false))⟩,
        ⟨none, .beq 111 true (.t 104) (.t 110)⟩])
       (.cond (.t 111)
       (.seq (.reg [⟨none, .mov 2 (.k (.bool false))⟩])
        (.ret))
       (.skip)))
      (.seq (.reg [⟨none, .load 112 8 10 true⟩,
       ⟨none, .call (some 113) 47 [(.t 112)] false⟩,
       ⟨none, .mov 12 (.t 113)⟩])
      (.seq (.seq (.reg [⟨none, .mov 114 (.t 12)⟩,
        ⟨none, .len 115 (.t 114)⟩,
        ⟨none, .bin 116 .eql (.t 115) (.k (.int .i64 0))⟩,
        ⟨none, .fad 117 8 4⟩,
        ⟨none, .load 118 117 1 false⟩,
        ⟨none, .bin 119 .eql (.t 118) (.k (.int .i64 3))⟩,
        ⟨none, .beq 120 true (.t 116) (.t 119)⟩,
        ⟨none, .mov 121 (.t 120)⟩,
        ⟨some (121, false), .mov 122 (.t 12)⟩,
        ⟨some (121, false), .len 123 (.t 122)⟩,
        ⟨some (121, false), .bin 124 .gtr (.t 123) (.k (.int .i64 2))⟩,
        ⟨none, .pick 125 (.t 121) (.k (.bool true)) (.t 124)⟩])
       (.cond (.t 125)
       (.seq (.reg [⟨none, .mov 2 (.k (.bool false))⟩])
        (.ret))
       (.skip)))
      (.seq (.seq (.reg [⟨none, .mov 13 (.k (.int .i64 0))⟩])
       (.block 2 (.loop [3, 4, 5, 6, 7, 8, 11, 12, 13]
        r143L0)))
      (.reg [⟨none, .load 195 8 10 true⟩,
      ⟨none, .store 3 10 (.t 195)⟩])))))))))
    (.reg [⟨none, .mov 42 (.t 7)⟩,
    ⟨none, .bin 43 .add (.t 42) (.k (.int .i64 1))⟩,
    ⟨none, .mov 7 (.t 43)⟩]))
/-- laws.FnTx -/
def r143 : RF :=
 ⟨1, [.tmp 2],
 .seq (.reg [⟨none, .mov 2 (.k (.bool false))⟩])
 (.seq (.seq (.reg [⟨none, .mov 15 (.t 0)⟩,
   ⟨none, .call (some 16) 144 [(.t 15)] false⟩])
  (.cond (.t 16)
  (.seq (.reg [⟨none, .mov 2 (.k (.bool true))⟩])
   (.ret))
  (.skip)))
 (.seq (.reg [⟨none, .mov 18 (.t 0)⟩,
  ⟨none, .call (some 19) 145 [(.t 18)] false⟩,
  ⟨none, .mov 17 (.t 19)⟩,
  ⟨none, .ext 20 (.t 17) 0⟩,
  ⟨none, .ext 21 (.t 17) 1⟩,
  ⟨none, .loc 3 [.int .i64 0, .int .u64 0, .int .u64 0, .int .u64 0, .int .i64 0, .bool false, .bool false, .bool false, .bool false, .int .i64 0]⟩,
  ⟨none, .store 3 10 (.t 20)⟩,
  ⟨none, .mov 4 (.t 21)⟩])
 (.seq (.reg [⟨none, .load 23 3 10 true⟩,
  ⟨none, .mov 24 (.t 4)⟩,
  ⟨none, .call (some 25) 60 [(.t 23), (.t 24)] false⟩,
  ⟨none, .mov 22 (.t 25)⟩,
  ⟨none, .ext 26 (.t 22) 0⟩,
  ⟨none, .ext 27 (.t 22) 1⟩,
  ⟨none, .loc 5 [.int .i64 0, .int .u64 0, .int .u64 0, .int .u64 0, .int .i64 0, .bool false, .bool false, .bool false, .bool false, .int .i64 0]⟩,
  ⟨none, .store 5 10 (.t 26)⟩,
  ⟨none, .mov 6 (.t 27)⟩])
 (.seq (.seq (.reg [⟨none, .load 28 3 10 true⟩,
   ⟨none, .call (some 29) 15 [(.t 28)] false⟩,
   ⟨none, .not 30 (.t 29)⟩,
   ⟨none, .mov 31 (.t 30)⟩,
   ⟨some (31, false), .mov 32 (.t 6)⟩,
   ⟨some (31, false), .len 33 (.t 32)⟩,
   ⟨some (31, false), .mov 34 (.t 4)⟩,
   ⟨some (31, false), .len 35 (.t 34)⟩,
   ⟨some (31, false), .bin 36 .neq (.t 33) (.t 35)⟩,
   ⟨none, .pick 37 (.t 31) (.k (.bool true)) (.t 36)⟩])
  (.cond (.t 37)
  (.seq (.reg [⟨none, .mov 2 (.k (.bool false))⟩])
   (.ret))
  (.skip)))
 (.seq (.seq (.reg [⟨none, .mov 7 (.k (.int .i64 0))⟩])
  (.block 0 (.loop [3, 4, 5, 6, 7]
   r143L1)))
 (.seq (.reg [⟨none, .load 196 3 10 true⟩,
  ⟨none, .load 197 5 10 true⟩,
  ⟨none, .eqs 198 false [.i .i64, .i .u64, .i .u64, .i .u64, .i .i64, .b, .b, .b, .b, .i .i64] (.t 196) (.t 197)⟩,
  ⟨none, .mov 2 (.t 198)⟩])
 (.ret)))))))⟩
/-- The functions of this text, with their numbers. -/
def tWFnTx : List (Nat × RF) := [(143, r143)]
end Go.Proofs.Ytlbagejkjkfkjaa.A
/- The compact code of some functions: impl.isGroupId, impl.findRange, impl.areRanges, impl.findRange$1, impl.splitRange, impl.mergeRange. -/
namespace Go.Proofs.Ytlbagejkjkfkjaa.A
open Go
/-- impl.isGroupId -/
def r7 : RF :=
 ⟨1, [.tmp 2],
 .seq (.reg [⟨none, .mov 2 (.k (.bool false))⟩])
 (.seq (.reg [⟨none, .mov 3 (.t 0)⟩,
  ⟨none, .bin 4 .geq (.t 3) (.k (.int .i64 0))⟩,
  ⟨none, .mov 5 (.t 4)⟩,
  ⟨some (5, true), .mov 6 (.t 0)⟩,
  ⟨some (5, true), .bin 7 .leq (.t 6) (.k (.int .i64 99))⟩,
  ⟨none, .pick 8 (.t 5) (.t 7) (.k (.bool false))⟩,
  ⟨none, .mov 2 (.t 8)⟩])
 (.ret))⟩
/-- impl.findRange -/
def r107 : RF :=
 ⟨2, [.tmp 4],
 .seq (.reg [⟨none, .newb 3 (.t 1)⟩,
  ⟨none, .mov 4 (.k (.int .i64 0))⟩])
 (.seq (.reg [⟨none, .mov 5 (.t 0)⟩,
  ⟨none, .mkf 6 125 [3]⟩,
  ⟨none, .call (some 7) 126 [(.t 5), (.t 6)] false⟩,
  ⟨none, .mov 4 (.t 7)⟩])
 (.ret))⟩
/-- A loop of impl.areRanges. -/
def r124L0 : RC :=
 .seq (.reg [⟨none, .bin 33 .lss (.t 32) (.t 31)⟩])
    (.seq (.cond (.t 33)
     (.skip)
     (.exit 0))
    (.seq (.block 1 (.seq (.reg [⟨none, .mov 34 (.t 32)⟩,
       ⟨none, .idx 35 7 (.t 30) (.t 32)⟩,
       ⟨none, .load 36 35 3 true⟩,
       ⟨none, .loc 4 [.int .u64 0, .int .u64 0, .int .i64 0]⟩,
       ⟨none, .mov 3 (.t 34)⟩,
       ⟨none, .store 4 3 (.t 36)⟩])
      (.seq (.reg [⟨none, .chk []⟩,
       ⟨none, .fad 37 4 0⟩,
       ⟨none, .load 38 37 1 false⟩,
       ⟨none, .fad 39 4 1⟩,
       ⟨none, .load 40 39 1 false⟩,
       ⟨none, .bin 41 .gtr (.t 38) (.t 40)⟩,
       ⟨none, .mov 42 (.t 41)⟩,
       ⟨some (42, false), .fad 43 4 2⟩,
       ⟨some (42, false), .load 44 43 1 false⟩,
       ⟨some (42, false), .call (some 45) 7 [(.t 44)] true⟩,
       ⟨some (42, false), .not 46 (.t 45)⟩,
       ⟨none, .pick 47 (.t 42) (.k (.bool true)) (.t 46)⟩,
       ⟨none, .mov 48 (.t 47)⟩,
       ⟨some (48, false), .mov 49 (.t 3)⟩,
       ⟨some (48, false), .bin 50 .gtr (.t 49) (.k (.int .i64 0))⟩,
       ⟨some (48, false), .mov 51 (.t 50)⟩,
       ⟨some (51, true), .fad 52 4 0⟩,
       ⟨some (51, true), .load 53 52 1 false⟩,
       ⟨some (51, true), .bin 54 .eql (.t 53) (.k (.int .u64 0))⟩,
       ⟨some (51, true), .mov 55 (.t 54)⟩,
       ⟨some (55, false), .mov 59 (.t 0)⟩,
       ⟨some (55, false), .mov 60 (.t 3)⟩,
       ⟨some (55, false), .bin 61 .sub (.t 60) (.k (.int .i64 1))⟩,
       ⟨some (55, false), .idx 62 7 (.t 59) (.t 61)⟩,
       ⟨some (55, false), .fad 56 4 0⟩,
       ⟨some (55, false), .load 57 56 1 false⟩,
       ⟨some (55, false), .bin 58 .sub (.t 57) (.k (.int .u64 1))⟩,
       ⟨some (55, false), .fad 63 62 1⟩,
       ⟨some (55, false), .load 64 63 1 false⟩,
       ⟨some (55, false), .bin 65 .neq (.t 58) (.t 64)⟩,
       ⟨some (51, true), .pick 66 (.t 55) (.k (.bool true)) (.t 65)⟩,
       ⟨some (48, false), .pick 67 (.t 51) (.t 66) (.k (.bool false))⟩,
       ⟨none, .pick 68 (.t 48) (.k (.bool true)) (.t 67)⟩])
      (.cond (.t 68)
      (.seq (.reg [⟨none, .mov 2 (.k (.bool false))⟩])
       (.ret))
      (.skip)))))
    (.reg [⟨none, .bin 69 .add (.t 32) (.k (.int .i64 1))⟩,
    ⟨none, .mov 32 (.t 69)⟩])))
/-- impl.areRanges -/
def r124 : RF :=
 ⟨1, [.tmp 2],
 .seq (.reg [⟨none, .mov 2 (.k (.bool false))⟩])
 (.seq (.seq (.reg [⟨none, .mov 5 (.t 0)⟩,
   ⟨none, .len 6 (.t 5)⟩,
   ⟨none, .bin 7 .lss (.t 6) (.k (.int .i64 1))⟩,
   ⟨none, .mov 8 (.t 7)⟩,
   ⟨some (8, false), .mov 9 (.t 0)⟩,
   ⟨some (8, false), .len 10 (.t 9)⟩,
   ⟨some (8, false), .bin 11 .gtr (.t 10) (.k (.int .i64 24))⟩,
   ⟨none, .pick 12 (.t 8) (.k (.bool true)) (.t 11)⟩,
   ⟨none, .mov 13 (.t 12)⟩,
   ⟨some (13, false), .mov 14 (.t 0)⟩,
   ⟨some (13, false), .idx 15 7 (.t 14) (.k (.int .i64 0))⟩,
   ⟨some (13, false), .fad 16 15 0⟩,
   ⟨some (13, false), .load 17 16 1 false⟩,
   ⟨some (13, false), .bin 18 .neq (.t 17) (.k (.int .u64 0))⟩,
   ⟨none, .pick 19 (.t 13) (.k (.bool true)) (.t 18)⟩,
   ⟨none, .mov 20 (.t 19)⟩,
   ⟨some (20, false), .mov 21 (.t 0)⟩,
   ⟨some (20, false), .mov 22 (.t 0)⟩,
   ⟨some (20, false), .len 23 (.t 22)⟩,
   ⟨some (20, false), .bin 24 .sub (.t 23) (.k (.int .i64 1))⟩,
   ⟨some (20, false), .idx 25 7 (.t 21) (.t 24)⟩,
   ⟨some (20, false), .fad 26 25 1⟩,
   ⟨some (20, false), .load 27 26 1 false⟩,
   ⟨some (20, false), .bin 28 .neq (.t 27) (.k (.int .u64 18446744073709551615))⟩,
   ⟨none, .pick 29 (.t 20) (.k (.bool true)) (.t 28)⟩])
  (.cond (.t 29)
  (.seq (.reg [⟨none, .mov 2 (.k (.bool false))⟩])
   (.ret))
  (.skip)))
 (.seq (.seq (.reg [⟨none, .mov 30 (.t 0)⟩,
   ⟨none, .len 31 (.t 30)⟩,
   ⟨none, .mov 32 (.k (.int .i64 0))⟩])
  (.block 0 (.loop [0, 30, 31, 32]
   r124L0)))
 (.seq (.reg [⟨none, .mov 2 (.k (.bool true))⟩])
 (.ret))))⟩
/-- impl.findRange$1 -/
def r125 : RF :=
 ⟨2, [.tmp 3],
 .seq (.reg [⟨none, .locb 2 (.t 0)⟩,
  ⟨none, .mov 3 (.k (.bool false))⟩])
 (.seq (.reg [⟨none, .load 4 1 1 false⟩,
  ⟨none, .fad 5 2 1⟩,
  ⟨none, .load 6 5 1 false⟩,
  ⟨none, .bin 7 .leq (.t 4) (.t 6)⟩,
  ⟨none, .mov 3 (.t 7)⟩])
 (.ret))⟩
/-- impl.splitRange -/
def r255 : RF :=
 ⟨3, [.tmp 6, .tmp 7],
 .seq (.reg [⟨none, .mov 6 (.k (.nil))⟩,
  ⟨none, .mov 7 (.k (.bool false))⟩])
 (.seq (.seq (.reg [⟨none, .mov 11 (.t 0)⟩,
   ⟨none, .call (some 12) 124 [(.t 11)] false⟩,
   ⟨none, .not 13 (.t 12)⟩,
   ⟨none, .mov 14 (.t 13)⟩,
   ⟨some (14, false), .mov 15 (.t 2)⟩,
   ⟨some (14, false), .call (some 16) 7 [(.t 15)] false⟩,
   ⟨some (14, false), .not 17 (.t 16)⟩,
   ⟨none, .pick 18 (.t 14) (.k (.bool true)) (.t 17)⟩,
   ⟨none, .mov 19 (.t 18)⟩,
   ⟨some (19, false), .mov 20 (.t 0)⟩,
   ⟨some (19, false), .len 21 (.t 20)⟩,
   ⟨some (19, false), .bin 22 .eql (.t 21) (.k (.int .i64 24))⟩,
   ⟨none, .pick 23 (.t 19) (.k (.bool true)) (.t 22)⟩])
  (.cond (.t 23)
  (.seq (.reg [⟨none, .mov 6 (.k (.nil))⟩,
    ⟨none, .mov 7 (.k (.bool false))⟩])
   (.ret))
  (.skip)))
 (.seq (.reg [⟨none, .mov 24 (.t 0)⟩,
  ⟨none, .mov 25 (.t 1)⟩,
  ⟨none, .call (some 26) 107 [(.t 24), (.t 25)] false⟩,
  ⟨none, .mov 8 (.t 26)⟩])
 (.seq (.reg [⟨none, .mov 27 (.t 0)⟩,
  ⟨none, .mov 28 (.t 8)⟩,
  ⟨none, .idx 29 7 (.t 27) (.t 28)⟩,
  ⟨none, .load 30 29 3 true⟩,
  ⟨none, .loc 9 [.int .u64 0, .int .u64 0, .int .i64 0]⟩,
  ⟨none, .store 9 3 (.t 30)⟩])
 (.seq (.seq (.reg [⟨none, .fad 31 9 0⟩,
   ⟨none, .load 32 31 1 false⟩,
   ⟨none, .mov 33 (.t 1)⟩,
   ⟨none, .bin 34 .eql (.t 32) (.t 33)⟩])
  (.cond (.t 34)
  (.seq (.reg [⟨none, .mov 6 (.k (.nil))⟩,
    ⟨none, .mov 7 (.k (.bool false))⟩])
   (.ret))
  (.skip)))
 (.seq (.reg [⟨none, .lit 35 7 0 [.int .u64 0, .int .u64 0, .int .i64 0] []⟩,
  ⟨none, .mov 36 (.t 0)⟩,
  ⟨none, .app 37 7 24 (.t 35) (.t 36)⟩,
  ⟨none, .mov 10 (.t 37)⟩])
 (.seq (.reg [⟨none, .mov 38 (.t 10)⟩,
  ⟨none, .mov 39 (.t 8)⟩,
  ⟨none, .mov 40 (.t 1)⟩,
  ⟨none, .bin 41 .sub (.t 40) (.k (.int .u64 1))⟩,
  ⟨none, .idx 42 7 (.t 38) (.t 39)⟩,
  ⟨none, .fad 43 42 1⟩,
  ⟨none, .store 43 1 (.t 41)⟩])
 (.seq (.reg [⟨none, .mov 44 (.t 10)⟩,
  ⟨none, .mov 45 (.t 8)⟩,
  ⟨none, .bin 46 .add (.t 45) (.k (.int .i64 1))⟩,
  ⟨none, .mov 47 (.t 1)⟩,
  ⟨none, .fad 48 9 1⟩,
  ⟨none, .load 49 48 1 false⟩,
  ⟨none, .mov 50 (.t 2)⟩,
  ⟨none, .build 51 [.int .u64 0, .int .u64 0, .int .i64 0] [(0, 1, (.t 47)), (1, 1, (.t 49)), (2, 1, (.t 50))]⟩,
  ⟨none, .lit 52 7 1 [.int .u64 0, .int .u64 0, .int .i64 0] [(0, (.t 51))]⟩,
  ⟨none, .call (some 53) 269 [(.t 44), (.t 46), (.t 52)] false⟩,
  ⟨none, .mov 6 (.t 53)⟩,
  ⟨none, .mov 7 (.k (.bool true))⟩])
 (.ret))))))))⟩
/-- impl.mergeRange -/
def r256 : RF :=
 ⟨2, [.tmp 4, .tmp 5],
 .seq (.reg [⟨none, .mov 4 (.k (.nil))⟩,
  ⟨none, .mov 5 (.k (.bool false))⟩])
 (.seq (.seq (.reg [⟨none, .chk []⟩,
   ⟨none, .mov 7 (.t 0)⟩,
   ⟨none, .call (some 8) 124 [(.t 7)] true⟩,
   ⟨none, .not 9 (.t 8)⟩,
   ⟨none, .mov 10 (.t 9)⟩,
   ⟨some (10, false), .mov 11 (.t 1)⟩,
   ⟨some (10, false), .bin 12 .lss (.t 11) (.k (.int .i64 0))⟩,
   ⟨none, .pick 13 (.t 10) (.k (.bool true)) (.t 12)⟩,
   ⟨none, .mov 14 (.t 13)⟩,
   ⟨some (14, false), .mov 15 (.t 1)⟩,
   ⟨some (14, false), .mov 16 (.t 0)⟩,
   ⟨some (14, false), .len 17 (.t 16)⟩,
   ⟨some (14, false), .bin 18 .sub (.t 17) (.k (.int .i64 1))⟩,
   ⟨some (14, false), .bin 19 .geq (.t 15) (.t 18)⟩,
   ⟨none, .pick 20 (.t 14) (.k (.bool true)) (.t 19)⟩,
   ⟨none, .mov 21 (.t 20)⟩,
   ⟨some (21, false), .mov 22 (.t 0)⟩,
   ⟨some (21, false), .mov 23 (.t 1)⟩,
   ⟨some (21, false), .idx 24 7 (.t 22) (.t 23)⟩,
   ⟨some (21, false), .mov 27 (.t 0)⟩,
   ⟨some (21, false), .mov 28 (.t 1)⟩,
   ⟨some (21, false), .bin 29 .add (.t 28) (.k (.int .i64 1))⟩,
   ⟨some (21, false), .idx 30 7 (.t 27) (.t 29)⟩,
   ⟨some (21, false), .fad 25 24 2⟩,
   ⟨some (21, false), .load 26 25 1 false⟩,
   ⟨some (21, false), .fad 31 30 2⟩,
   ⟨some (21, false), .load 32 31 1 false⟩,
   ⟨some (21, false), .bin 33 .neq (.t 26) (.t 32)⟩,
   ⟨none, .pick 34 (.t 21) (.k (.bool true)) (.t 33)⟩])
  (.cond (.t 34)
  (.seq (.reg [⟨none, .mov 4 (.k (.nil))⟩,
    ⟨none, .mov 5 (.k (.bool false))⟩])
   (.ret))
  (.skip)))
 (.seq (.reg [⟨none, .lit 35 7 0 [.int .u64 0, .int .u64 0, .int .i64 0] []⟩,
  ⟨none, .mov 36 (.t 0)⟩,
  ⟨none, .app 37 7 24 (.t 35) (.t 36)⟩,
  ⟨none, .mov 6 (.t 37)⟩])
 (.seq (.reg [⟨none, .mov 38 (.t 6)⟩,
  ⟨none, .mov 39 (.t 1)⟩,
  ⟨none, .mov 40 (.t 0)⟩,
  ⟨none, .mov 41 (.t 1)⟩,
  ⟨none, .bin 42 .add (.t 41) (.k (.int .i64 1))⟩,
  ⟨none, .idx 43 7 (.t 40) (.t 42)⟩,
  ⟨none, .fad 44 43 1⟩,
  ⟨none, .load 45 44 1 false⟩,
  ⟨none, .idx 46 7 (.t 38) (.t 39)⟩,
  ⟨none, .fad 47 46 1⟩,
  ⟨none, .store 47 1 (.t 45)⟩])
 (.seq (.reg [⟨none, .mov 48 (.t 6)⟩,
  ⟨none, .mov 49 (.t 1)⟩,
  ⟨none, .bin 50 .add (.t 49) (.k (.int .i64 1))⟩,
  ⟨none, .mov 51 (.t 1)⟩,
  ⟨none, .bin 52 .add (.t 51) (.k (.int .i64 2))⟩,
  ⟨none, .call (some 53) 270 [(.t 48), (.t 50), (.t 52)] false⟩,
  ⟨none, .mov 4 (.t 53)⟩,
  ⟨none, .mov 5 (.k (.bool true))⟩])
 (.ret)))))⟩
/-- The functions of this text, with their numbers. -/
def tI11 : List (Nat × RF) := [(7, r7), (107, r107), (124, r124), (125, r125), (255, r255), (256, r256)]
end Go.Proofs.Ytlbagejkjkfkjaa.A
/- Small functions of bounds that many use. -/
namespace Go.Proofs.Ytlbagejkjkfkjaa.A
open Go
set_option linter.unusedSimpArgs false
set_option linter.unusedVariables false
/-- A table's functions are those of F. -/
abbrev Has (F : Nat → Option RF) (t : List (Nat × RF)) : Prop := AllT (fun x => F x.1 = some x.2) t
def inR (x lo hi : Int) : Bool := decide (lo ≤ x) && decide (x ≤ hi)
section
variable {F : Nat → Option RF} {Z : CallF}
theorem isGroupId_run (hI11 : Has F tI11) (n : Int) (h : Heap) :
    call F Z 7 [.c (.int .i64 n)] h = some (.c (.bool (inR n 0 99)), h) := by
  rw [call_run F Z (hI11.lk (g := 7) rfl) _ _ rfl]
  simp only [run0, run1, run2, run3, run4, noSlot, ownS, ownK, memN, RO.dst, lk, drop, forget, number, Nat.reduceBEq, cut?, splice?, builds, List.length_cons, List.length_nil, List.drop_succ_cons, List.drop_zero, List.take_succ_cons, List.take_zero, List.cons_append, List.nil_append, List.append_nil, List.drop_nil, List.take_nil, Nat.reduceAdd, Nat.reduceLeDiff, Nat.zero_add, Nat.add_zero, ↓reduceIte, Bool.not_true, Bool.not_false, decide_true, decide_false, eq_self, bne_self_eq_false, List.getElem?_cons_zero, List.getElem?_cons_succ, decide_eq_true_eq, Bool.false_eq_true, Bool.true_eq_false, reduceCtorEq, Nat.le_refl]
  (repeat' ((first | (rw [gF_if]; split) | (rw [condC_if]; split) | (rw [pickR_if]; split)) <;> (rename_i hh; (try simp only [Bool.not_eq_true, decide_eq_true_eq] at hh); simp only [hh, run0, run1, run2, run3, run4, noSlot, ownS, ownK, memN, RO.dst, lk, drop, forget, number, Nat.reduceBEq, cut?, splice?, builds, List.length_cons, List.length_nil, List.drop_succ_cons, List.drop_zero, List.take_succ_cons, List.take_zero, List.cons_append, List.nil_append, List.append_nil, List.drop_nil, List.take_nil, Nat.reduceAdd, Nat.reduceLeDiff, Nat.zero_add, Nat.add_zero, ↓reduceIte, Bool.not_true, Bool.not_false, decide_true, decide_false, eq_self, bne_self_eq_false, List.getElem?_cons_zero, List.getElem?_cons_succ, decide_eq_true_eq, Bool.false_eq_true, Bool.true_eq_false, reduceCtorEq, Nat.le_refl]))) <;> simp [inR, *]
theorem l01In_run (hS : Has F tS01d) (n lo hi : Int) (h : Heap) :
    call F Z 5 [.c (.int .i64 n), .c (.int .i64 lo), .c (.int .i64 hi)] h = some (.c (.bool (inR n lo hi)), h) := by
  rw [call_run F Z (hS.lk (g := 5) rfl) _ _ rfl]
  simp only [run0, run1, run2, run3, run4, noSlot, ownS, ownK, memN, RO.dst, lk, drop, forget, number, Nat.reduceBEq, cut?, splice?, builds, List.length_cons, List.length_nil, List.drop_succ_cons, List.drop_zero, List.take_succ_cons, List.take_zero, List.cons_append, List.nil_append, List.append_nil, List.drop_nil, List.take_nil, Nat.reduceAdd, Nat.reduceLeDiff, Nat.zero_add, Nat.add_zero, ↓reduceIte, Bool.not_true, Bool.not_false, decide_true, decide_false, eq_self, bne_self_eq_false, List.getElem?_cons_zero, List.getElem?_cons_succ, decide_eq_true_eq, Bool.false_eq_true, Bool.true_eq_false, reduceCtorEq, Nat.le_refl]
  (repeat' ((first | (rw [gF_if]; split) | (rw [condC_if]; split) | (rw [pickR_if]; split)) <;> (rename_i hh; (try simp only [Bool.not_eq_true, decide_eq_true_eq] at hh); simp only [hh, run0, run1, run2, run3, run4, noSlot, ownS, ownK, memN, RO.dst, lk, drop, forget, number, Nat.reduceBEq, cut?, splice?, builds, List.length_cons, List.length_nil, List.drop_succ_cons, List.drop_zero, List.take_succ_cons, List.take_zero, List.cons_append, List.nil_append, List.append_nil, List.drop_nil, List.take_nil, Nat.reduceAdd, Nat.reduceLeDiff, Nat.zero_add, Nat.add_zero, ↓reduceIte, Bool.not_true, Bool.not_false, decide_true, decide_false, eq_self, bne_self_eq_false, List.getElem?_cons_zero, List.getElem?_cons_succ, decide_eq_true_eq, Bool.false_eq_true, Bool.true_eq_false, reduceCtorEq, Nat.le_refl]))) <;> simp [inR, *]
end
end Go.Proofs.Ytlbagejkjkfkjaa.A
/- The compact code of some functions: laws.toTx, laws.eqTx. -/
namespace Go.Proofs.Ytlbagejkjkfkjaa.A
open Go
/-- laws.toTx -/
def r13 : RF :=
 ⟨1, [.cell 2 10 true],
 .seq (.reg [⟨none, .locb 1 (.t 0)⟩,
  ⟨none, .loc 2 [.int .i64 0, .int .u64 0, .int .u64 0, .int .u64 0, .int .i64 0, .bool false, .bool false, .bool false, .bool false, .int .i64 0]⟩])
 (.seq (.reg [⟨none, .loc 3 [.int .i64 0, .int .u64 0, .int .u64 0, .int .u64 0, .int .i64 0, .bool false, .bool false, .bool false, .bool false, .int .i64 0]⟩])
 (.seq (.reg [⟨none, .fad 4 1 0⟩,
  ⟨none, .load 5 4 1 false⟩,
  ⟨none, .fad 6 3 0⟩,
  ⟨none, .store 6 1 (.t 5)⟩])
 (.seq (.reg [⟨none, .fad 7 1 1⟩,
  ⟨none, .load 8 7 1 false⟩,
  ⟨none, .fad 9 3 1⟩,
  ⟨none, .store 9 1 (.t 8)⟩])
 (.seq (.reg [⟨none, .fad 10 1 2⟩,
  ⟨none, .load 11 10 1 false⟩,
  ⟨none, .fad 12 3 2⟩,
  ⟨none, .store 12 1 (.t 11)⟩])
 (.seq (.reg [⟨none, .fad 13 1 3⟩,
  ⟨none, .load 14 13 1 false⟩,
  ⟨none, .fad 15 3 3⟩,
  ⟨none, .store 15 1 (.t 14)⟩])
 (.seq (.reg [⟨none, .fad 16 1 4⟩,
  ⟨none, .load 17 16 1 false⟩,
  ⟨none, .fad 18 3 4⟩,
  ⟨none, .store 18 1 (.t 17)⟩])
 (.seq (.reg [⟨none, .fad 19 1 5⟩,
  ⟨none, .load 20 19 1 false⟩,
  ⟨none, .fad 21 3 5⟩,
  ⟨none, .store 21 1 (.t 20)⟩])
 (.seq (.reg [⟨none, .fad 22 1 6⟩,
  ⟨none, .load 23 22 1 false⟩,
  ⟨none, .fad 24 3 6⟩,
  ⟨none, .store 24 1 (.t 23)⟩])
 (.seq (.reg [⟨none, .fad 25 1 7⟩,
  ⟨none, .load 26 25 1 false⟩,
  ⟨none, .fad 27 3 7⟩,
  ⟨none, .store 27 1 (.t 26)⟩])
 (.seq (.reg [⟨none, .fad 28 1 8⟩,
  ⟨none, .load 29 28 1 false⟩,
  ⟨none, .fad 30 3 8⟩,
  ⟨none, .store 30 1 (.t 29)⟩])
 (.seq (.reg [⟨none, .fad 31 1 9⟩,
  ⟨none, .load 32 31 1 false⟩,
  ⟨none, .fad 33 3 9⟩,
  ⟨none, .store 33 1 (.t 32)⟩])
 (.seq (.reg [⟨none, .load 34 3 10 true⟩,
  ⟨none, .store 2 10 (.t 34)⟩])
 (.ret)))))))))))))⟩
/-- laws.eqTx -/
def r22 : RF :=
 ⟨2, [.tmp 4],
 .seq (.reg [⟨none, .locb 2 (.t 0)⟩,
  ⟨none, .locb 3 (.t 1)⟩,
  ⟨none, .mov 4 (.k (.bool false))⟩])
 (.seq (.seq (.reg [⟨none, .fad 5 2 0⟩,
   ⟨none, .load 6 5 1 false⟩,
   ⟨none, .fad 7 3 0⟩,
   ⟨none, .load 8 7 1 false⟩,
   ⟨none, .bin 9 .neq (.t 6) (.t 8)⟩])
  (.cond (.t 9)
  (.seq (.reg [⟨none, .mov 4 (.k (.bool false))⟩])
   (.ret))
  (.skip)))
 (.seq (.seq (.reg [⟨none, .fad 10 2 1⟩,
   ⟨none, .load 11 10 1 false⟩,
   ⟨none, .fad 12 3 1⟩,
   ⟨none, .load 13 12 1 false⟩,
   ⟨none, .bin 14 .neq (.t 11) (.t 13)⟩])
  (.cond (.t 14)
  (.seq (.reg [⟨none, .mov 4 (.k (.bool false))⟩])
   (.ret))
  (.skip)))
 (.seq (.seq (.reg [⟨none, .fad 15 2 2⟩,
   ⟨none, .load 16 15 1 false⟩,
   ⟨none, .fad 17 3 2⟩,
   ⟨none, .load 18 17 1 false⟩,
   ⟨none, .bin 19 .neq (.t 16) (.t 18)⟩])
  (.cond (.t 19)
  (.seq (.reg [⟨none, .mov 4 (.k (.bool false))⟩])
   (.ret))
  (.skip)))
 (.seq (.seq (.reg [⟨none, .fad 20 2 3⟩,
   ⟨none, .load 21 20 1 false⟩,
   ⟨none, .fad 22 3 3⟩,
   ⟨none, .load 23 22 1 false⟩,
   ⟨none, .bin 24 .neq (.t 21) (.t 23)⟩])
  (.cond (.t 24)
  (.seq (.reg [⟨none, .mov 4 (.k (.bool false))⟩])
   (.ret))
  (.skip)))
 (.seq (.seq (.reg [⟨none, .fad 25 2 4⟩,
   ⟨none, .load 26 25 1 false⟩,
   ⟨none, .fad 27 3 4⟩,
   ⟨none, .load 28 27 1 false⟩,
   ⟨none, .bin 29 .neq (.t 26) (.t 28)⟩])
  (.cond (.t 29)
  (.seq (.reg [⟨none, .mov 4 (.k (.bool false))⟩])
   (.ret))
  (.skip)))
 (.seq (.seq (.reg [⟨none, .fad 30 2 5⟩,
   ⟨none, .load 31 30 1 false⟩,
   ⟨none, .fad 32 3 5⟩,
   ⟨none, .load 33 32 1 false⟩,
   ⟨none, .beq 34 true (.t 31) (.t 33)⟩])
  (.cond (.t 34)
  (.seq (.reg [⟨none, .mov 4 (.k (.bool false))⟩])
   (.ret))
  (.skip)))
 (.seq (.seq (.reg [⟨none, .fad 35 2 6⟩,
   ⟨none, .load 36 35 1 false⟩,
   ⟨none, .fad 37 3 6⟩,
   ⟨none, .load 38 37 1 false⟩,
   ⟨none, .beq 39 true (.t 36) (.t 38)⟩])
  (.cond (.t 39)
  (.seq (.reg [⟨none, .mov 4 (.k (.bool false))⟩])
   (.ret))
  (.skip)))
 (.seq (.seq (.reg [⟨none, .fad 40 2 7⟩,
   ⟨none, .load 41 40 1 false⟩,
   ⟨none, .fad 42 3 7⟩,
   ⟨none, .load 43 42 1 false⟩,
   ⟨none, .beq 44 true (.t 41) (.t 43)⟩])
  (.cond (.t 44)
  (.seq (.reg [⟨none, .mov 4 (.k (.bool false))⟩])
   (.ret))
  (.skip)))
 (.seq (.seq (.reg [⟨none, .fad 45 2 8⟩,
   ⟨none, .load 46 45 1 false⟩,
   ⟨none, .fad 47 3 8⟩,
   ⟨none, .load 48 47 1 false⟩,
   ⟨none, .beq 49 true (.t 46) (.t 48)⟩])
  (.cond (.t 49)
  (.seq (.reg [⟨none, .mov 4 (.k (.bool false))⟩])
   (.ret))
  (.skip)))
 (.seq (.seq (.reg [⟨none, .fad 50 2 9⟩,
   ⟨none, .load 51 50 1 false⟩,
   ⟨none, .fad 52 3 9⟩,
   ⟨none, .load 53 52 1 false⟩,
   ⟨none, .bin 54 .neq (.t 51) (.t 53)⟩])
  (.cond (.t 54)
  (.seq (.reg [⟨none, .mov 4 (.k (.bool false))⟩])
   (.ret))
  (.skip)))
 (.seq (.reg [⟨none, .mov 4 (.k (.bool true))⟩])
 (.ret))))))))))))⟩
/-- The functions of this text, with their numbers. -/
def tLTx : List (Nat × RF) := [(13, r13), (22, r22)]
end Go.Proofs.Ytlbagejkjkfkjaa.A
/- What the functions of a transfer compute. -/
namespace Go.Proofs.Ytlbagejkjkfkjaa.A
open Go
set_option linter.unusedSimpArgs false
set_option linter.unusedVariables false
structure Tx where
  id : Int
  a : Int
  b : Int
  m : Int
  phase : Int
  yf : Bool
  yt : Bool
  af : Bool
  at_ : Bool
  reason : Int
  deriving DecidableEq
def Tx.enc (t : Tx) : List Cell := [.int .i64 t.id, .int .u64 t.a, .int .u64 t.b, .int .u64 t.m, .int .i64 t.phase, .bool t.yf, .bool t.yt, .bool t.af, .bool t.at_, .int .i64 t.reason]
theorem Tx.len (t : Tx) : t.enc.length = 10 := rfl
theorem Tx.tak (t : Tx) : t.enc.take 10 = t.enc := rfl
def Tx.zero : Tx := ⟨0, 0, 0, 0, 0, false, false, false, false, 0⟩
/-- Is a transfer right? -/
def Tx.ok (t : Tx) : Bool :=
  !(decide (t.id < 1) || t.a == t.b) &&
  (if t.phase == 0 then !(t.yf && t.yt) && !t.af && !t.at_ && t.reason == 0
  else if t.phase == 1 then (t.yf && t.yt) && !(t.af && t.at_) && t.reason == 0
  else if t.phase == 2 then !(t.yf && t.yt) && !(t.af && t.at_) && inR t.reason 1 99
  else if t.phase == 3 then (t.af && t.at_) && ((t.yf && t.yt) && t.reason == 0 || !(t.yf && t.yt) && inR t.reason 1 99)
  else false)
def Tx.outcome (t : Tx) : Int := if t.ok = true ∧ t.phase ≠ 0 then t.reason else -1
def newTx (id a b m : Int) : Tx × Bool := if Tx.ok ⟨id, a, b, m, 0, false, false, false, false, 0⟩ = true then (⟨id, a, b, m, 0, false, false, false, false, 0⟩, true) else (Tx.zero, false)
def Tx.giveUp (t : Tx) (reason : Int) : Tx × Bool := if t.ok = true ∧ t.phase = 0 ∧ inR reason 1 99 = true then ({ t with phase := 2, reason := reason }, true) else (t, false)
def Tx.vote (t : Tx) (side code : Int) : Tx × Bool :=
  if t.ok = true ∧ t.phase = 0 ∧ 0 ≤ side ∧ side ≤ 1 ∧ 0 ≤ code ∧ code ≤ 99 ∧ ¬ (side = 0 ∧ t.yf = true) ∧ ¬ (side = 1 ∧ t.yt = true) then
    if 0 < code then ({ t with phase := 2, reason := code }, true)
    else if side = 0 then (bif t.yt then { t with yf := true, phase := 1 } else { t with yf := true }, true)
    else (bif t.yf then { t with yt := true, phase := 1 } else { t with yt := true }, true)
  else (t, false)
def Tx.ack (t : Tx) (side : Int) : Tx × Bool :=
  if t.ok = true ∧ 1 ≤ t.phase ∧ t.phase ≤ 2 ∧ 0 ≤ side ∧ side ≤ 1 ∧ ¬ (side = 0 ∧ t.af = true) ∧ ¬ (side = 1 ∧ t.at_ = true) then
    if side = 0 then (bif t.at_ then { t with af := true, phase := 3 } else { t with af := true }, true)
    else (bif t.af then { t with at_ := true, phase := 3 } else { t with at_ := true }, true)
  else (t, false)
theorem Wf.tx {h : Heap} {n : Nat} {cs : List Cell} (w : Wf h (n + 2) shTx cs) : ∃ id a b m phase yf yt af at_ reason, cs = [.int .i64 id, .int .u64 a, .int .u64 b, .int .u64 m, .int .i64 phase, .bool yf, .bool yt, .bool af, .bool at_, .int .i64 reason] := by
  obtain ⟨_, _, rfl, _, ⟨id, rfl, _⟩, _, _, rfl, _, ⟨a, rfl, _⟩, _, _, rfl, _, ⟨b, rfl, _⟩, _, _, rfl, _, ⟨m, rfl, _⟩, _, _, rfl, _, ⟨ph, rfl, _⟩, _, _, rfl, _, ⟨yf, rfl⟩, _, _, rfl, _, ⟨yt, rfl⟩, _, _, rfl, _, ⟨af, rfl⟩, _, _, rfl, _, ⟨at_, rfl⟩, _, _, rfl, _, ⟨r, rfl, _⟩, rfl⟩ := w
  exact ⟨id, a, b, m, ph, yf, yt, af, at_, r, rfl⟩
section
variable {F : Nat → Option RF} {Z : CallF}
theorem isReason_run (hI14 : Has F tI14) (n : Int) (h : Heap) :
    call F Z 30 [.c (.int .i64 n)] h = some (.c (.bool (inR n 1 99)), h) := by
  rw [call_run F Z (hI14.lk (g := 30) rfl) _ _ rfl]
  simp only [run0, run1, run2, run3, run4, noSlot, ownS, ownK, memN, RO.dst, lk, drop, forget, number, Nat.reduceBEq, cut?, splice?, builds, List.length_cons, List.length_nil, List.drop_succ_cons, List.drop_zero, List.take_succ_cons, List.take_zero, List.cons_append, List.nil_append, List.append_nil, List.drop_nil, List.take_nil, Nat.reduceAdd, Nat.reduceLeDiff, Nat.zero_add, Nat.add_zero, ↓reduceIte, Bool.not_true, Bool.not_false, decide_true, decide_false, eq_self, bne_self_eq_false, List.getElem?_cons_zero, List.getElem?_cons_succ, decide_eq_true_eq, Bool.false_eq_true, Bool.true_eq_false, reduceCtorEq, Nat.le_refl]
  (repeat' ((first | (rw [gF_if]; split) | (rw [condC_if]; split) | (rw [pickR_if]; split)) <;> (rename_i hh; (try simp only [Bool.not_eq_true, decide_eq_true_eq] at hh); simp only [hh, run0, run1, run2, run3, run4, noSlot, ownS, ownK, memN, RO.dst, lk, drop, forget, number, Nat.reduceBEq, cut?, splice?, builds, List.length_cons, List.length_nil, List.drop_succ_cons, List.drop_zero, List.take_succ_cons, List.take_zero, List.cons_append, List.nil_append, List.append_nil, List.drop_nil, List.take_nil, Nat.reduceAdd, Nat.reduceLeDiff, Nat.zero_add, Nat.add_zero, ↓reduceIte, Bool.not_true, Bool.not_false, decide_true, decide_false, eq_self, bne_self_eq_false, List.getElem?_cons_zero, List.getElem?_cons_succ, decide_eq_true_eq, Bool.false_eq_true, Bool.true_eq_false, reduceCtorEq, Nat.le_refl]))) <;> simp [inR, *]
theorem toTx_run (hL : Has F tLTx) (id a b m phase : Int) (yf yt af at_ : Bool) (reason : Int) (h : Heap) : call F Z 13 [.agg [.int .i64 id, .int .u64 a, .int .u64 b, .int .u64 m, .int .i64 phase, .bool yf, .bool yt, .bool af, .bool at_, .int .i64 reason]] h = some (.agg [.int .i64 id, .int .u64 a, .int .u64 b, .int .u64 m, .int .i64 phase, .bool yf, .bool yt, .bool af, .bool at_, .int .i64 reason], h) := by
  rw [call_run F Z (hL.lk (g := 13) rfl) _ _ rfl]
  simp only [run0, run1, run2, run3, run4, noSlot, ownS, ownK, memN, RO.dst, lk, drop, forget, number, Nat.reduceBEq, cut?, splice?, builds, List.length_cons, List.length_nil, List.drop_succ_cons, List.drop_zero, List.take_succ_cons, List.take_zero, List.cons_append, List.nil_append, List.append_nil, List.drop_nil, List.take_nil, Nat.reduceAdd, Nat.reduceLeDiff, Nat.zero_add, Nat.add_zero, ↓reduceIte, Bool.not_true, Bool.not_false, decide_true, decide_false, eq_self, bne_self_eq_false, List.getElem?_cons_zero, List.getElem?_cons_succ, decide_eq_true_eq, Bool.false_eq_true, Bool.true_eq_false, reduceCtorEq, Nat.le_refl]
set_option maxHeartbeats 4000000 in
theorem eqTx_run (hL : Has F tLTx) (id a b m phase : Int) (yf yt af at_ : Bool) (reason : Int) (id' a' b' m' phase' : Int) (yf' yt' af' at_' : Bool) (reason' : Int) (h : Heap) : call F Z 22 [.agg [.int .i64 id, .int .u64 a, .int .u64 b, .int .u64 m, .int .i64 phase, .bool yf, .bool yt, .bool af, .bool at_, .int .i64 reason], .agg [.int .i64 id', .int .u64 a', .int .u64 b', .int .u64 m', .int .i64 phase', .bool yf', .bool yt', .bool af', .bool at_', .int .i64 reason']] h = some (.c (.bool (decide ((⟨id, a, b, m, phase, yf, yt, af, at_, reason⟩ : Tx) = ⟨id', a', b', m', phase', yf', yt', af', at_', reason'⟩))), h) := by
  rw [call_run F Z (hL.lk (g := 22) rfl) _ _ rfl]
  simp only [run0, run1, run2, run3, run4, noSlot, ownS, ownK, memN, RO.dst, lk, drop, forget, number, Nat.reduceBEq, cut?, splice?, builds, List.length_cons, List.length_nil, List.drop_succ_cons, List.drop_zero, List.take_succ_cons, List.take_zero, List.cons_append, List.nil_append, List.append_nil, List.drop_nil, List.take_nil, Nat.reduceAdd, Nat.reduceLeDiff, Nat.zero_add, Nat.add_zero, ↓reduceIte, Bool.not_true, Bool.not_false, decide_true, decide_false, eq_self, bne_self_eq_false, List.getElem?_cons_zero, List.getElem?_cons_succ, decide_eq_true_eq, Bool.false_eq_true, Bool.true_eq_false, reduceCtorEq, Nat.le_refl]
  (repeat' ((first | (rw [gF_if]; split) | (rw [condC_if]; split) | (rw [pickR_if]; split)) <;> (rename_i hh; (try simp only [Bool.not_eq_true, decide_eq_true_eq] at hh); simp only [hh, run0, run1, run2, run3, run4, noSlot, ownS, ownK, memN, RO.dst, lk, drop, forget, number, Nat.reduceBEq, cut?, splice?, builds, List.length_cons, List.length_nil, List.drop_succ_cons, List.drop_zero, List.take_succ_cons, List.take_zero, List.cons_append, List.nil_append, List.append_nil, List.drop_nil, List.take_nil, Nat.reduceAdd, Nat.reduceLeDiff, Nat.zero_add, Nat.add_zero, ↓reduceIte, Bool.not_true, Bool.not_false, decide_true, decide_false, eq_self, bne_self_eq_false, List.getElem?_cons_zero, List.getElem?_cons_succ, decide_eq_true_eq, Bool.false_eq_true, Bool.true_eq_false, reduceCtorEq, Nat.le_refl]))) <;> refine fin_bool ?_ <;> simp_all
theorem eqTx_enc (hL : Has F tLTx) (t u : Tx) (h : Heap) : call F Z 22 [.agg t.enc, .agg u.enc] h = some (.c (.bool (decide (t = u))), h) := eqTx_run hL ..
set_option maxHeartbeats 4000000 in
theorem isTx_run (hI14 : Has F tI14) (id a b m phase : Int) (yf yt af at_ : Bool) (reason : Int) (h : Heap) : call F Z 28 [.agg [.int .i64 id, .int .u64 a, .int .u64 b, .int .u64 m, .int .i64 phase, .bool yf, .bool yt, .bool af, .bool at_, .int .i64 reason]] h = some (.c (.bool (Tx.ok ⟨id, a, b, m, phase, yf, yt, af, at_, reason⟩)), h) := by
  rw [call_run F Z (hI14.lk (g := 28) rfl) _ _ rfl]
  simp only [run0, run1, run2, run3, run4, noSlot, ownS, ownK, memN, RO.dst, lk, drop, forget, number, Nat.reduceBEq, cut?, splice?, builds, List.length_cons, List.length_nil, List.drop_succ_cons, List.drop_zero, List.take_succ_cons, List.take_zero, List.cons_append, List.nil_append, List.append_nil, List.drop_nil, List.take_nil, Nat.reduceAdd, Nat.reduceLeDiff, Nat.zero_add, Nat.add_zero, ↓reduceIte, Bool.not_true, Bool.not_false, decide_true, decide_false, eq_self, bne_self_eq_false, List.getElem?_cons_zero, List.getElem?_cons_succ, decide_eq_true_eq, Bool.false_eq_true, Bool.true_eq_false, reduceCtorEq, Nat.le_refl]
  (repeat' ((first | (rw [gF_if]; split) | (rw [condC_if]; split) | (rw [pickR_if]; split)) <;> (rename_i hh; (try simp only [Bool.not_eq_true, decide_eq_true_eq] at hh); simp only [hh, run0, run1, run2, run3, run4, noSlot, ownS, ownK, memN, RO.dst, lk, drop, forget, number, Nat.reduceBEq, cut?, splice?, builds, List.length_cons, List.length_nil, List.drop_succ_cons, List.drop_zero, List.take_succ_cons, List.take_zero, List.cons_append, List.nil_append, List.append_nil, List.drop_nil, List.take_nil, Nat.reduceAdd, Nat.reduceLeDiff, Nat.zero_add, Nat.add_zero, ↓reduceIte, Bool.not_true, Bool.not_false, decide_true, decide_false, eq_self, bne_self_eq_false, List.getElem?_cons_zero, List.getElem?_cons_succ, decide_eq_true_eq, Bool.false_eq_true, Bool.true_eq_false, reduceCtorEq, Nat.le_refl, isReason_run hI14]))) <;> refine fin_bool ?_ <;> simp_all [Tx.ok]
theorem TxOk_run (hI14 : Has F tI14) (id a b m phase : Int) (yf yt af at_ : Bool) (reason : Int) (h : Heap) : call F Z 15 [.agg [.int .i64 id, .int .u64 a, .int .u64 b, .int .u64 m, .int .i64 phase, .bool yf, .bool yt, .bool af, .bool at_, .int .i64 reason]] h = some (.c (.bool (Tx.ok ⟨id, a, b, m, phase, yf, yt, af, at_, reason⟩)), h) := by
  rw [call_run F Z (hI14.lk (g := 15) rfl) _ _ rfl]
  simp only [run0, run1, run2, run3, run4, noSlot, ownS, ownK, memN, RO.dst, lk, drop, forget, number, Nat.reduceBEq, cut?, splice?, builds, List.length_cons, List.length_nil, List.drop_succ_cons, List.drop_zero, List.take_succ_cons, List.take_zero, List.cons_append, List.nil_append, List.append_nil, List.drop_nil, List.take_nil, Nat.reduceAdd, Nat.reduceLeDiff, Nat.zero_add, Nat.add_zero, ↓reduceIte, Bool.not_true, Bool.not_false, decide_true, decide_false, eq_self, bne_self_eq_false, List.getElem?_cons_zero, List.getElem?_cons_succ, decide_eq_true_eq, Bool.false_eq_true, Bool.true_eq_false, reduceCtorEq, Nat.le_refl, isTx_run hI14]
set_option maxHeartbeats 4000000 in
theorem sTxOk_run (hS01d : Has F tS01d) (hS14 : Has F tS14) (id a b m phase : Int) (yf yt af at_ : Bool) (reason : Int) (h : Heap) : call F Z 14 [.agg [.int .i64 id, .int .u64 a, .int .u64 b, .int .u64 m, .int .i64 phase, .bool yf, .bool yt, .bool af, .bool at_, .int .i64 reason]] h = some (.c (.bool (Tx.ok ⟨id, a, b, m, phase, yf, yt, af, at_, reason⟩)), h) := by
  rw [call_run F Z (hS14.lk (g := 14) rfl) _ _ rfl]
  simp only [run0, run1, run2, run3, run4, noSlot, ownS, ownK, memN, RO.dst, lk, drop, forget, number, Nat.reduceBEq, cut?, splice?, builds, List.length_cons, List.length_nil, List.drop_succ_cons, List.drop_zero, List.take_succ_cons, List.take_zero, List.cons_append, List.nil_append, List.append_nil, List.drop_nil, List.take_nil, Nat.reduceAdd, Nat.reduceLeDiff, Nat.zero_add, Nat.add_zero, ↓reduceIte, Bool.not_true, Bool.not_false, decide_true, decide_false, eq_self, bne_self_eq_false, List.getElem?_cons_zero, List.getElem?_cons_succ, decide_eq_true_eq, Bool.false_eq_true, Bool.true_eq_false, reduceCtorEq, Nat.le_refl]
  (repeat' ((first | (rw [gF_if]; split) | (rw [condC_if]; split) | (rw [pickR_if]; split)) <;> (rename_i hh; (try simp only [Bool.not_eq_true, decide_eq_true_eq] at hh); simp only [hh, run0, run1, run2, run3, run4, noSlot, ownS, ownK, memN, RO.dst, lk, drop, forget, number, Nat.reduceBEq, cut?, splice?, builds, List.length_cons, List.length_nil, List.drop_succ_cons, List.drop_zero, List.take_succ_cons, List.take_zero, List.cons_append, List.nil_append, List.append_nil, List.drop_nil, List.take_nil, Nat.reduceAdd, Nat.reduceLeDiff, Nat.zero_add, Nat.add_zero, ↓reduceIte, Bool.not_true, Bool.not_false, decide_true, decide_false, eq_self, bne_self_eq_false, List.getElem?_cons_zero, List.getElem?_cons_succ, decide_eq_true_eq, Bool.false_eq_true, Bool.true_eq_false, reduceCtorEq, Nat.le_refl, l01In_run hS01d]))) <;> refine fin_bool ?_ <;> simp_all [Tx.ok]
theorem TxOutcome_run (hI14 : Has F tI14) (id a b m phase : Int) (yf yt af at_ : Bool) (reason : Int) (h : Heap) : call F Z 18 [.agg [.int .i64 id, .int .u64 a, .int .u64 b, .int .u64 m, .int .i64 phase, .bool yf, .bool yt, .bool af, .bool at_, .int .i64 reason]] h = some (.c (.int .i64 (Tx.outcome ⟨id, a, b, m, phase, yf, yt, af, at_, reason⟩)), h) := by
  rw [call_run F Z (hI14.lk (g := 18) rfl) _ _ rfl]
  simp only [run0, run1, run2, run3, run4, noSlot, ownS, ownK, memN, RO.dst, lk, drop, forget, number, Nat.reduceBEq, cut?, splice?, builds, List.length_cons, List.length_nil, List.drop_succ_cons, List.drop_zero, List.take_succ_cons, List.take_zero, List.cons_append, List.nil_append, List.append_nil, List.drop_nil, List.take_nil, Nat.reduceAdd, Nat.reduceLeDiff, Nat.zero_add, Nat.add_zero, ↓reduceIte, Bool.not_true, Bool.not_false, decide_true, decide_false, eq_self, bne_self_eq_false, List.getElem?_cons_zero, List.getElem?_cons_succ, decide_eq_true_eq, Bool.false_eq_true, Bool.true_eq_false, reduceCtorEq, Nat.le_refl, isTx_run hI14]
  (repeat' ((first | (rw [gF_if]; split) | (rw [condC_if]; split) | (rw [pickR_if]; split)) <;> (rename_i hh; (try simp only [Bool.not_eq_true, decide_eq_true_eq] at hh); simp only [hh, run0, run1, run2, run3, run4, noSlot, ownS, ownK, memN, RO.dst, lk, drop, forget, number, Nat.reduceBEq, cut?, splice?, builds, List.length_cons, List.length_nil, List.drop_succ_cons, List.drop_zero, List.take_succ_cons, List.take_zero, List.cons_append, List.nil_append, List.append_nil, List.drop_nil, List.take_nil, Nat.reduceAdd, Nat.reduceLeDiff, Nat.zero_add, Nat.add_zero, ↓reduceIte, Bool.not_true, Bool.not_false, decide_true, decide_false, eq_self, bne_self_eq_false, List.getElem?_cons_zero, List.getElem?_cons_succ, decide_eq_true_eq, Bool.false_eq_true, Bool.true_eq_false, reduceCtorEq, Nat.le_refl, isTx_run hI14]))) <;> simp_all [Tx.outcome]
theorem sTxOutcome_run (hS01d : Has F tS01d) (hS14 : Has F tS14) (id a b m phase : Int) (yf yt af at_ : Bool) (reason : Int) (h : Heap) : call F Z 17 [.agg [.int .i64 id, .int .u64 a, .int .u64 b, .int .u64 m, .int .i64 phase, .bool yf, .bool yt, .bool af, .bool at_, .int .i64 reason]] h = some (.c (.int .i64 (Tx.outcome ⟨id, a, b, m, phase, yf, yt, af, at_, reason⟩)), h) := by
  rw [call_run F Z (hS14.lk (g := 17) rfl) _ _ rfl]
  simp only [run0, run1, run2, run3, run4, noSlot, ownS, ownK, memN, RO.dst, lk, drop, forget, number, Nat.reduceBEq, cut?, splice?, builds, List.length_cons, List.length_nil, List.drop_succ_cons, List.drop_zero, List.take_succ_cons, List.take_zero, List.cons_append, List.nil_append, List.append_nil, List.drop_nil, List.take_nil, Nat.reduceAdd, Nat.reduceLeDiff, Nat.zero_add, Nat.add_zero, ↓reduceIte, Bool.not_true, Bool.not_false, decide_true, decide_false, eq_self, bne_self_eq_false, List.getElem?_cons_zero, List.getElem?_cons_succ, decide_eq_true_eq, Bool.false_eq_true, Bool.true_eq_false, reduceCtorEq, Nat.le_refl, sTxOk_run hS01d hS14]
  (repeat' ((first | (rw [gF_if]; split) | (rw [condC_if]; split) | (rw [pickR_if]; split)) <;> (rename_i hh; (try simp only [Bool.not_eq_true, decide_eq_true_eq] at hh); simp only [hh, run0, run1, run2, run3, run4, noSlot, ownS, ownK, memN, RO.dst, lk, drop, forget, number, Nat.reduceBEq, cut?, splice?, builds, List.length_cons, List.length_nil, List.drop_succ_cons, List.drop_zero, List.take_succ_cons, List.take_zero, List.cons_append, List.nil_append, List.append_nil, List.drop_nil, List.take_nil, Nat.reduceAdd, Nat.reduceLeDiff, Nat.zero_add, Nat.add_zero, ↓reduceIte, Bool.not_true, Bool.not_false, decide_true, decide_false, eq_self, bne_self_eq_false, List.getElem?_cons_zero, List.getElem?_cons_succ, decide_eq_true_eq, Bool.false_eq_true, Bool.true_eq_false, reduceCtorEq, Nat.le_refl, sTxOk_run hS01d hS14]))) <;> simp_all [Tx.outcome]
theorem NewTx_run (hI14 : Has F tI14) (id a b m : Int) (h : Heap) : call F Z 21 [.c (.int .i64 id), .c (.int .u64 a), .c (.int .u64 b), .c (.int .u64 m)] h = some (.tup [.agg (newTx id a b m).1.enc, .c (.bool (newTx id a b m).2)], h) := by
  rw [call_run F Z (hI14.lk (g := 21) rfl) _ _ rfl]
  simp only [run0, run1, run2, run3, run4, noSlot, ownS, ownK, memN, RO.dst, lk, drop, forget, number, Nat.reduceBEq, cut?, splice?, builds, List.length_cons, List.length_nil, List.drop_succ_cons, List.drop_zero, List.take_succ_cons, List.take_zero, List.cons_append, List.nil_append, List.append_nil, List.drop_nil, List.take_nil, Nat.reduceAdd, Nat.reduceLeDiff, Nat.zero_add, Nat.add_zero, ↓reduceIte, Bool.not_true, Bool.not_false, decide_true, decide_false, eq_self, bne_self_eq_false, List.getElem?_cons_zero, List.getElem?_cons_succ, decide_eq_true_eq, Bool.false_eq_true, Bool.true_eq_false, reduceCtorEq, Nat.le_refl, isTx_run hI14]
  (repeat' ((first | (rw [gF_if]; split) | (rw [condC_if]; split) | (rw [pickR_if]; split)) <;> (rename_i hh; (try simp only [Bool.not_eq_true, decide_eq_true_eq] at hh); simp only [hh, run0, run1, run2, run3, run4, noSlot, ownS, ownK, memN, RO.dst, lk, drop, forget, number, Nat.reduceBEq, cut?, splice?, builds, List.length_cons, List.length_nil, List.drop_succ_cons, List.drop_zero, List.take_succ_cons, List.take_zero, List.cons_append, List.nil_append, List.append_nil, List.drop_nil, List.take_nil, Nat.reduceAdd, Nat.reduceLeDiff, Nat.zero_add, Nat.add_zero, ↓reduceIte, Bool.not_true, Bool.not_false, decide_true, decide_false, eq_self, bne_self_eq_false, List.getElem?_cons_zero, List.getElem?_cons_succ, decide_eq_true_eq, Bool.false_eq_true, Bool.true_eq_false, reduceCtorEq, Nat.le_refl, isTx_run hI14]))) <;> simp_all [newTx, Tx.enc, Tx.zero]
theorem sNewTx_run (hS01d : Has F tS01d) (hS14 : Has F tS14) (id a b m : Int) (h : Heap) : call F Z 20 [.c (.int .i64 id), .c (.int .u64 a), .c (.int .u64 b), .c (.int .u64 m)] h = some (.tup [.agg (newTx id a b m).1.enc, .c (.bool (newTx id a b m).2)], h) := by
  rw [call_run F Z (hS14.lk (g := 20) rfl) _ _ rfl]
  simp only [run0, run1, run2, run3, run4, noSlot, ownS, ownK, memN, RO.dst, lk, drop, forget, number, Nat.reduceBEq, cut?, splice?, builds, List.length_cons, List.length_nil, List.drop_succ_cons, List.drop_zero, List.take_succ_cons, List.take_zero, List.cons_append, List.nil_append, List.append_nil, List.drop_nil, List.take_nil, Nat.reduceAdd, Nat.reduceLeDiff, Nat.zero_add, Nat.add_zero, ↓reduceIte, Bool.not_true, Bool.not_false, decide_true, decide_false, eq_self, bne_self_eq_false, List.getElem?_cons_zero, List.getElem?_cons_succ, decide_eq_true_eq, Bool.false_eq_true, Bool.true_eq_false, reduceCtorEq, Nat.le_refl, sTxOk_run hS01d hS14]
  (repeat' ((first | (rw [gF_if]; split) | (rw [condC_if]; split) | (rw [pickR_if]; split)) <;> (rename_i hh; (try simp only [Bool.not_eq_true, decide_eq_true_eq] at hh); simp only [hh, run0, run1, run2, run3, run4, noSlot, ownS, ownK, memN, RO.dst, lk, drop, forget, number, Nat.reduceBEq, cut?, splice?, builds, List.length_cons, List.length_nil, List.drop_succ_cons, List.drop_zero, List.take_succ_cons, List.take_zero, List.cons_append, List.nil_append, List.append_nil, List.drop_nil, List.take_nil, Nat.reduceAdd, Nat.reduceLeDiff, Nat.zero_add, Nat.add_zero, ↓reduceIte, Bool.not_true, Bool.not_false, decide_true, decide_false, eq_self, bne_self_eq_false, List.getElem?_cons_zero, List.getElem?_cons_succ, decide_eq_true_eq, Bool.false_eq_true, Bool.true_eq_false, reduceCtorEq, Nat.le_refl, sTxOk_run hS01d hS14]))) <;> simp_all [newTx, Tx.enc, Tx.zero]
theorem txGiveUp_run (hI14 : Has F tI14) (id a b m phase : Int) (yf yt af at_ : Bool) (reason : Int) (r : Int) (h : Heap) : call F Z 29 [.agg [.int .i64 id, .int .u64 a, .int .u64 b, .int .u64 m, .int .i64 phase, .bool yf, .bool yt, .bool af, .bool at_, .int .i64 reason], .c (.int .i64 r)] h = some (.tup [.agg (Tx.giveUp ⟨id, a, b, m, phase, yf, yt, af, at_, reason⟩ r).1.enc, .c (.bool (Tx.giveUp ⟨id, a, b, m, phase, yf, yt, af, at_, reason⟩ r).2)], h) := by
  rw [call_run F Z (hI14.lk (g := 29) rfl) _ _ rfl]
  simp only [run0, run1, run2, run3, run4, noSlot, ownS, ownK, memN, RO.dst, lk, drop, forget, number, Nat.reduceBEq, cut?, splice?, builds, List.length_cons, List.length_nil, List.drop_succ_cons, List.drop_zero, List.take_succ_cons, List.take_zero, List.cons_append, List.nil_append, List.append_nil, List.drop_nil, List.take_nil, Nat.reduceAdd, Nat.reduceLeDiff, Nat.zero_add, Nat.add_zero, ↓reduceIte, Bool.not_true, Bool.not_false, decide_true, decide_false, eq_self, bne_self_eq_false, List.getElem?_cons_zero, List.getElem?_cons_succ, decide_eq_true_eq, Bool.false_eq_true, Bool.true_eq_false, reduceCtorEq, Nat.le_refl, isTx_run hI14]
  (repeat' ((first | (rw [gF_if]; split) | (rw [condC_if]; split) | (rw [pickR_if]; split)) <;> (rename_i hh; (try simp only [Bool.not_eq_true, decide_eq_true_eq] at hh); simp only [hh, run0, run1, run2, run3, run4, noSlot, ownS, ownK, memN, RO.dst, lk, drop, forget, number, Nat.reduceBEq, cut?, splice?, builds, List.length_cons, List.length_nil, List.drop_succ_cons, List.drop_zero, List.take_succ_cons, List.take_zero, List.cons_append, List.nil_append, List.append_nil, List.drop_nil, List.take_nil, Nat.reduceAdd, Nat.reduceLeDiff, Nat.zero_add, Nat.add_zero, ↓reduceIte, Bool.not_true, Bool.not_false, decide_true, decide_false, eq_self, bne_self_eq_false, List.getElem?_cons_zero, List.getElem?_cons_succ, decide_eq_true_eq, Bool.false_eq_true, Bool.true_eq_false, reduceCtorEq, Nat.le_refl, isTx_run hI14, isReason_run hI14]))) <;> simp_all [Tx.giveUp, Tx.enc]
theorem TxGiveUp_run (hI14 : Has F tI14) (id a b m phase : Int) (yf yt af at_ : Bool) (reason : Int) (r : Int) (h : Heap) : call F Z 25 [.agg [.int .i64 id, .int .u64 a, .int .u64 b, .int .u64 m, .int .i64 phase, .bool yf, .bool yt, .bool af, .bool at_, .int .i64 reason], .c (.int .i64 r)] h = some (.tup [.agg (Tx.giveUp ⟨id, a, b, m, phase, yf, yt, af, at_, reason⟩ r).1.enc, .c (.bool (Tx.giveUp ⟨id, a, b, m, phase, yf, yt, af, at_, reason⟩ r).2)], h) := by
  rw [call_run F Z (hI14.lk (g := 25) rfl) _ _ rfl]
  simp only [run0, run1, run2, run3, run4, noSlot, ownS, ownK, memN, RO.dst, lk, drop, forget, number, Nat.reduceBEq, cut?, splice?, builds, List.length_cons, List.length_nil, List.drop_succ_cons, List.drop_zero, List.take_succ_cons, List.take_zero, List.cons_append, List.nil_append, List.append_nil, List.drop_nil, List.take_nil, Nat.reduceAdd, Nat.reduceLeDiff, Nat.zero_add, Nat.add_zero, ↓reduceIte, Bool.not_true, Bool.not_false, decide_true, decide_false, eq_self, bne_self_eq_false, List.getElem?_cons_zero, List.getElem?_cons_succ, decide_eq_true_eq, Bool.false_eq_true, Bool.true_eq_false, reduceCtorEq, Nat.le_refl, txGiveUp_run hI14]
  simp only [Tx.enc, run0, run1, run2, run3, run4, noSlot, ownS, ownK, memN, RO.dst, lk, drop, forget, number, Nat.reduceBEq, cut?, splice?, builds, List.length_cons, List.length_nil, List.drop_succ_cons, List.drop_zero, List.take_succ_cons, List.take_zero, List.cons_append, List.nil_append, List.append_nil, List.drop_nil, List.take_nil, Nat.reduceAdd, Nat.reduceLeDiff, Nat.zero_add, Nat.add_zero, ↓reduceIte, Bool.not_true, Bool.not_false, decide_true, decide_false, eq_self, bne_self_eq_false, List.getElem?_cons_zero, List.getElem?_cons_succ, decide_eq_true_eq, Bool.false_eq_true, Bool.true_eq_false, reduceCtorEq, Nat.le_refl]
theorem sTxGiveUp_run (hS01d : Has F tS01d) (hS14 : Has F tS14) (id a b m phase : Int) (yf yt af at_ : Bool) (reason : Int) (r : Int) (h : Heap) : call F Z 24 [.agg [.int .i64 id, .int .u64 a, .int .u64 b, .int .u64 m, .int .i64 phase, .bool yf, .bool yt, .bool af, .bool at_, .int .i64 reason], .c (.int .i64 r)] h = some (.tup [.agg (Tx.giveUp ⟨id, a, b, m, phase, yf, yt, af, at_, reason⟩ r).1.enc, .c (.bool (Tx.giveUp ⟨id, a, b, m, phase, yf, yt, af, at_, reason⟩ r).2)], h) := by
  rw [call_run F Z (hS14.lk (g := 24) rfl) _ _ rfl]
  simp only [run0, run1, run2, run3, run4, noSlot, ownS, ownK, memN, RO.dst, lk, drop, forget, number, Nat.reduceBEq, cut?, splice?, builds, List.length_cons, List.length_nil, List.drop_succ_cons, List.drop_zero, List.take_succ_cons, List.take_zero, List.cons_append, List.nil_append, List.append_nil, List.drop_nil, List.take_nil, Nat.reduceAdd, Nat.reduceLeDiff, Nat.zero_add, Nat.add_zero, ↓reduceIte, Bool.not_true, Bool.not_false, decide_true, decide_false, eq_self, bne_self_eq_false, List.getElem?_cons_zero, List.getElem?_cons_succ, decide_eq_true_eq, Bool.false_eq_true, Bool.true_eq_false, reduceCtorEq, Nat.le_refl, sTxOk_run hS01d hS14]
  (repeat' ((first | (rw [gF_if]; split) | (rw [condC_if]; split) | (rw [pickR_if]; split)) <;> (rename_i hh; (try simp only [Bool.not_eq_true, decide_eq_true_eq] at hh); simp only [hh, run0, run1, run2, run3, run4, noSlot, ownS, ownK, memN, RO.dst, lk, drop, forget, number, Nat.reduceBEq, cut?, splice?, builds, List.length_cons, List.length_nil, List.drop_succ_cons, List.drop_zero, List.take_succ_cons, List.take_zero, List.cons_append, List.nil_append, List.append_nil, List.drop_nil, List.take_nil, Nat.reduceAdd, Nat.reduceLeDiff, Nat.zero_add, Nat.add_zero, ↓reduceIte, Bool.not_true, Bool.not_false, decide_true, decide_false, eq_self, bne_self_eq_false, List.getElem?_cons_zero, List.getElem?_cons_succ, decide_eq_true_eq, Bool.false_eq_true, Bool.true_eq_false, reduceCtorEq, Nat.le_refl, sTxOk_run hS01d hS14, l01In_run hS01d]))) <;> simp_all [Tx.giveUp, Tx.enc]
end
end Go.Proofs.Ytlbagejkjkfkjaa.A
/- What voting and acknowledging compute. -/
namespace Go.Proofs.Ytlbagejkjkfkjaa.A
open Go
set_option linter.unusedSimpArgs false
set_option linter.unusedVariables false
theorem inR_t {x a b : Int} : inR x a b = true ↔ a ≤ x ∧ x ≤ b := by simp [inR]
theorem inR_f {x a b : Int} : inR x a b = false ↔ ¬ (a ≤ x ∧ x ≤ b) := by simp only [inR, Bool.and_eq_false_iff, decide_eq_false_iff_not]; omega
section
variable {F : Nat → Option RF} {Z : CallF}
set_option maxHeartbeats 4000000 in
theorem txVote_run (hI14 : Has F tI14) (id a b m phase : Int) (yf yt af at_ : Bool) (reason : Int) (side code : Int) (h : Heap) : call F Z 38 [.agg [.int .i64 id, .int .u64 a, .int .u64 b, .int .u64 m, .int .i64 phase, .bool yf, .bool yt, .bool af, .bool at_, .int .i64 reason], .c (.int .i64 side), .c (.int .i64 code)] h = some (.tup [.agg (Tx.vote ⟨id, a, b, m, phase, yf, yt, af, at_, reason⟩ side code).1.enc, .c (.bool (Tx.vote ⟨id, a, b, m, phase, yf, yt, af, at_, reason⟩ side code).2)], h) := by
  rw [call_run F Z (hI14.lk (g := 38) rfl) _ _ rfl]
  simp only [run0, run1, run2, run3, run4, noSlot, ownS, ownK, memN, RO.dst, lk, drop, forget, number, Nat.reduceBEq, cut?, splice?, builds, List.length_cons, List.length_nil, List.drop_succ_cons, List.drop_zero, List.take_succ_cons, List.take_zero, List.cons_append, List.nil_append, List.append_nil, List.drop_nil, List.take_nil, Nat.reduceAdd, Nat.reduceLeDiff, Nat.zero_add, Nat.add_zero, ↓reduceIte, Bool.not_true, Bool.not_false, decide_true, decide_false, eq_self, bne_self_eq_false, List.getElem?_cons_zero, List.getElem?_cons_succ, decide_eq_true_eq, Bool.false_eq_true, Bool.true_eq_false, reduceCtorEq, Nat.le_refl, isTx_run hI14]
  (repeat' ((first | (rw [gF_if]; split) | (rw [condC_if]; split) | (rw [pickR_if]; split)) <;> (rename_i hh; (try simp only [Bool.not_eq_true, decide_eq_true_eq] at hh); simp only [hh, run0, run1, run2, run3, run4, noSlot, ownS, ownK, memN, RO.dst, lk, drop, forget, number, Nat.reduceBEq, cut?, splice?, builds, List.length_cons, List.length_nil, List.drop_succ_cons, List.drop_zero, List.take_succ_cons, List.take_zero, List.cons_append, List.nil_append, List.append_nil, List.drop_nil, List.take_nil, Nat.reduceAdd, Nat.reduceLeDiff, Nat.zero_add, Nat.add_zero, ↓reduceIte, Bool.not_true, Bool.not_false, decide_true, decide_false, eq_self, bne_self_eq_false, List.getElem?_cons_zero, List.getElem?_cons_succ, decide_eq_true_eq, Bool.false_eq_true, Bool.true_eq_false, reduceCtorEq, Nat.le_refl, isTx_run hI14]))) <;> first | (simp_all [Tx.vote, Tx.enc]; done) | (unfold Tx.vote; rw [if_neg (by simp_all <;> omega)]; rfl) | (unfold Tx.vote; rw [if_pos (by simp_all <;> omega)]; (repeat' split) <;> simp_all [Tx.enc] <;> omega)
set_option maxHeartbeats 4000000 in
theorem TxVote_run (hI14 : Has F tI14) (id a b m phase : Int) (yf yt af at_ : Bool) (reason : Int) (side code : Int) (h : Heap) : call F Z 36 [.agg [.int .i64 id, .int .u64 a, .int .u64 b, .int .u64 m, .int .i64 phase, .bool yf, .bool yt, .bool af, .bool at_, .int .i64 reason], .c (.int .i64 side), .c (.int .i64 code)] h = some (.tup [.agg (Tx.vote ⟨id, a, b, m, phase, yf, yt, af, at_, reason⟩ side code).1.enc, .c (.bool (Tx.vote ⟨id, a, b, m, phase, yf, yt, af, at_, reason⟩ side code).2)], h) := by
  rw [call_run F Z (hI14.lk (g := 36) rfl) _ _ rfl]
  simp only [run0, run1, run2, run3, run4, noSlot, ownS, ownK, memN, RO.dst, lk, drop, forget, number, Nat.reduceBEq, cut?, splice?, builds, List.length_cons, List.length_nil, List.drop_succ_cons, List.drop_zero, List.take_succ_cons, List.take_zero, List.cons_append, List.nil_append, List.append_nil, List.drop_nil, List.take_nil, Nat.reduceAdd, Nat.reduceLeDiff, Nat.zero_add, Nat.add_zero, ↓reduceIte, Bool.not_true, Bool.not_false, decide_true, decide_false, eq_self, bne_self_eq_false, List.getElem?_cons_zero, List.getElem?_cons_succ, decide_eq_true_eq, Bool.false_eq_true, Bool.true_eq_false, reduceCtorEq, Nat.le_refl, txVote_run hI14]
  simp only [Tx.enc, run0, run1, run2, run3, run4, noSlot, ownS, ownK, memN, RO.dst, lk, drop, forget, number, Nat.reduceBEq, cut?, splice?, builds, List.length_cons, List.length_nil, List.drop_succ_cons, List.drop_zero, List.take_succ_cons, List.take_zero, List.cons_append, List.nil_append, List.append_nil, List.drop_nil, List.take_nil, Nat.reduceAdd, Nat.reduceLeDiff, Nat.zero_add, Nat.add_zero, ↓reduceIte, Bool.not_true, Bool.not_false, decide_true, decide_false, eq_self, bne_self_eq_false, List.getElem?_cons_zero, List.getElem?_cons_succ, decide_eq_true_eq, Bool.false_eq_true, Bool.true_eq_false, reduceCtorEq, Nat.le_refl]
set_option maxHeartbeats 4000000 in
theorem sTxVote_run (hS01d : Has F tS01d) (hS14 : Has F tS14) (id a b m phase : Int) (yf yt af at_ : Bool) (reason : Int) (side code : Int) (h : Heap) : call F Z 35 [.agg [.int .i64 id, .int .u64 a, .int .u64 b, .int .u64 m, .int .i64 phase, .bool yf, .bool yt, .bool af, .bool at_, .int .i64 reason], .c (.int .i64 side), .c (.int .i64 code)] h = some (.tup [.agg (Tx.vote ⟨id, a, b, m, phase, yf, yt, af, at_, reason⟩ side code).1.enc, .c (.bool (Tx.vote ⟨id, a, b, m, phase, yf, yt, af, at_, reason⟩ side code).2)], h) := by
  rw [call_run F Z (hS14.lk (g := 35) rfl) _ _ rfl]
  simp only [run0, run1, run2, run3, run4, noSlot, ownS, ownK, memN, RO.dst, lk, drop, forget, number, Nat.reduceBEq, cut?, splice?, builds, List.length_cons, List.length_nil, List.drop_succ_cons, List.drop_zero, List.take_succ_cons, List.take_zero, List.cons_append, List.nil_append, List.append_nil, List.drop_nil, List.take_nil, Nat.reduceAdd, Nat.reduceLeDiff, Nat.zero_add, Nat.add_zero, ↓reduceIte, Bool.not_true, Bool.not_false, decide_true, decide_false, eq_self, bne_self_eq_false, List.getElem?_cons_zero, List.getElem?_cons_succ, decide_eq_true_eq, Bool.false_eq_true, Bool.true_eq_false, reduceCtorEq, Nat.le_refl, sTxOk_run hS01d hS14, l01In_run hS01d]
  (repeat' ((first | (rw [gF_if]; split) | (rw [condC_if]; split) | (rw [pickR_if]; split)) <;> (rename_i hh; (try simp only [Bool.not_eq_true, decide_eq_true_eq] at hh); simp only [hh, run0, run1, run2, run3, run4, noSlot, ownS, ownK, memN, RO.dst, lk, drop, forget, number, Nat.reduceBEq, cut?, splice?, builds, List.length_cons, List.length_nil, List.drop_succ_cons, List.drop_zero, List.take_succ_cons, List.take_zero, List.cons_append, List.nil_append, List.append_nil, List.drop_nil, List.take_nil, Nat.reduceAdd, Nat.reduceLeDiff, Nat.zero_add, Nat.add_zero, ↓reduceIte, Bool.not_true, Bool.not_false, decide_true, decide_false, eq_self, bne_self_eq_false, List.getElem?_cons_zero, List.getElem?_cons_succ, decide_eq_true_eq, Bool.false_eq_true, Bool.true_eq_false, reduceCtorEq, Nat.le_refl, sTxOk_run hS01d hS14, l01In_run hS01d]))) <;> first | (simp_all [Tx.vote, Tx.enc]; done) | (unfold Tx.vote; rw [if_neg (by simp_all [inR] <;> omega)]; rfl) | (unfold Tx.vote; rw [if_pos (by simp_all [inR] <;> omega)]; (repeat' split) <;> simp_all [Tx.enc, inR] <;> omega)
set_option maxHeartbeats 4000000 in
theorem txAck_run (hI14 : Has F tI14) (id a b m phase : Int) (yf yt af at_ : Bool) (reason : Int) (side : Int) (h : Heap) : call F Z 37 [.agg [.int .i64 id, .int .u64 a, .int .u64 b, .int .u64 m, .int .i64 phase, .bool yf, .bool yt, .bool af, .bool at_, .int .i64 reason], .c (.int .i64 side)] h = some (.tup [.agg (Tx.ack ⟨id, a, b, m, phase, yf, yt, af, at_, reason⟩ side).1.enc, .c (.bool (Tx.ack ⟨id, a, b, m, phase, yf, yt, af, at_, reason⟩ side).2)], h) := by
  rw [call_run F Z (hI14.lk (g := 37) rfl) _ _ rfl]
  simp only [run0, run1, run2, run3, run4, noSlot, ownS, ownK, memN, RO.dst, lk, drop, forget, number, Nat.reduceBEq, cut?, splice?, builds, List.length_cons, List.length_nil, List.drop_succ_cons, List.drop_zero, List.take_succ_cons, List.take_zero, List.cons_append, List.nil_append, List.append_nil, List.drop_nil, List.take_nil, Nat.reduceAdd, Nat.reduceLeDiff, Nat.zero_add, Nat.add_zero, ↓reduceIte, Bool.not_true, Bool.not_false, decide_true, decide_false, eq_self, bne_self_eq_false, List.getElem?_cons_zero, List.getElem?_cons_succ, decide_eq_true_eq, Bool.false_eq_true, Bool.true_eq_false, reduceCtorEq, Nat.le_refl, isTx_run hI14]
  (repeat' ((first | (rw [gF_if]; split) | (rw [condC_if]; split) | (rw [pickR_if]; split)) <;> (rename_i hh; (try simp only [Bool.not_eq_true, decide_eq_true_eq] at hh); simp only [hh, run0, run1, run2, run3, run4, noSlot, ownS, ownK, memN, RO.dst, lk, drop, forget, number, Nat.reduceBEq, cut?, splice?, builds, List.length_cons, List.length_nil, List.drop_succ_cons, List.drop_zero, List.take_succ_cons, List.take_zero, List.cons_append, List.nil_append, List.append_nil, List.drop_nil, List.take_nil, Nat.reduceAdd, Nat.reduceLeDiff, Nat.zero_add, Nat.add_zero, ↓reduceIte, Bool.not_true, Bool.not_false, decide_true, decide_false, eq_self, bne_self_eq_false, List.getElem?_cons_zero, List.getElem?_cons_succ, decide_eq_true_eq, Bool.false_eq_true, Bool.true_eq_false, reduceCtorEq, Nat.le_refl, isTx_run hI14]))) <;> first | (simp_all [Tx.ack, Tx.enc]; done) | (unfold Tx.ack; rw [if_neg (by simp_all [inR] <;> omega)]; rfl) | (unfold Tx.ack; rw [if_pos (by simp_all [inR] <;> omega)]; (repeat' split) <;> simp_all [Tx.enc, inR] <;> omega)
set_option maxHeartbeats 4000000 in
theorem TxAck_run (hI14 : Has F tI14) (id a b m phase : Int) (yf yt af at_ : Bool) (reason : Int) (side : Int) (h : Heap) : call F Z 33 [.agg [.int .i64 id, .int .u64 a, .int .u64 b, .int .u64 m, .int .i64 phase, .bool yf, .bool yt, .bool af, .bool at_, .int .i64 reason], .c (.int .i64 side)] h = some (.tup [.agg (Tx.ack ⟨id, a, b, m, phase, yf, yt, af, at_, reason⟩ side).1.enc, .c (.bool (Tx.ack ⟨id, a, b, m, phase, yf, yt, af, at_, reason⟩ side).2)], h) := by
  rw [call_run F Z (hI14.lk (g := 33) rfl) _ _ rfl]
  simp only [run0, run1, run2, run3, run4, noSlot, ownS, ownK, memN, RO.dst, lk, drop, forget, number, Nat.reduceBEq, cut?, splice?, builds, List.length_cons, List.length_nil, List.drop_succ_cons, List.drop_zero, List.take_succ_cons, List.take_zero, List.cons_append, List.nil_append, List.append_nil, List.drop_nil, List.take_nil, Nat.reduceAdd, Nat.reduceLeDiff, Nat.zero_add, Nat.add_zero, ↓reduceIte, Bool.not_true, Bool.not_false, decide_true, decide_false, eq_self, bne_self_eq_false, List.getElem?_cons_zero, List.getElem?_cons_succ, decide_eq_true_eq, Bool.false_eq_true, Bool.true_eq_false, reduceCtorEq, Nat.le_refl, txAck_run hI14]
  simp only [Tx.enc, run0, run1, run2, run3, run4, noSlot, ownS, ownK, memN, RO.dst, lk, drop, forget, number, Nat.reduceBEq, cut?, splice?, builds, List.length_cons, List.length_nil, List.drop_succ_cons, List.drop_zero, List.take_succ_cons, List.take_zero, List.cons_append, List.nil_append, List.append_nil, List.drop_nil, List.take_nil, Nat.reduceAdd, Nat.reduceLeDiff, Nat.zero_add, Nat.add_zero, ↓reduceIte, Bool.not_true, Bool.not_false, decide_true, decide_false, eq_self, bne_self_eq_false, List.getElem?_cons_zero, List.getElem?_cons_succ, decide_eq_true_eq, Bool.false_eq_true, Bool.true_eq_false, reduceCtorEq, Nat.le_refl]
set_option maxHeartbeats 4000000 in
theorem sTxAck_run (hS01d : Has F tS01d) (hS14 : Has F tS14) (id a b m phase : Int) (yf yt af at_ : Bool) (reason : Int) (side : Int) (h : Heap) : call F Z 32 [.agg [.int .i64 id, .int .u64 a, .int .u64 b, .int .u64 m, .int .i64 phase, .bool yf, .bool yt, .bool af, .bool at_, .int .i64 reason], .c (.int .i64 side)] h = some (.tup [.agg (Tx.ack ⟨id, a, b, m, phase, yf, yt, af, at_, reason⟩ side).1.enc, .c (.bool (Tx.ack ⟨id, a, b, m, phase, yf, yt, af, at_, reason⟩ side).2)], h) := by
  rw [call_run F Z (hS14.lk (g := 32) rfl) _ _ rfl]
  simp only [run0, run1, run2, run3, run4, noSlot, ownS, ownK, memN, RO.dst, lk, drop, forget, number, Nat.reduceBEq, cut?, splice?, builds, List.length_cons, List.length_nil, List.drop_succ_cons, List.drop_zero, List.take_succ_cons, List.take_zero, List.cons_append, List.nil_append, List.append_nil, List.drop_nil, List.take_nil, Nat.reduceAdd, Nat.reduceLeDiff, Nat.zero_add, Nat.add_zero, ↓reduceIte, Bool.not_true, Bool.not_false, decide_true, decide_false, eq_self, bne_self_eq_false, List.getElem?_cons_zero, List.getElem?_cons_succ, decide_eq_true_eq, Bool.false_eq_true, Bool.true_eq_false, reduceCtorEq, Nat.le_refl, sTxOk_run hS01d hS14, l01In_run hS01d]
  (repeat' ((first | (rw [gF_if]; split) | (rw [condC_if]; split) | (rw [pickR_if]; split)) <;> (rename_i hh; (try simp only [Bool.not_eq_true, decide_eq_true_eq] at hh); simp only [hh, run0, run1, run2, run3, run4, noSlot, ownS, ownK, memN, RO.dst, lk, drop, forget, number, Nat.reduceBEq, cut?, splice?, builds, List.length_cons, List.length_nil, List.drop_succ_cons, List.drop_zero, List.take_succ_cons, List.take_zero, List.cons_append, List.nil_append, List.append_nil, List.drop_nil, List.take_nil, Nat.reduceAdd, Nat.reduceLeDiff, Nat.zero_add, Nat.add_zero, ↓reduceIte, Bool.not_true, Bool.not_false, decide_true, decide_false, eq_self, bne_self_eq_false, List.getElem?_cons_zero, List.getElem?_cons_succ, decide_eq_true_eq, Bool.false_eq_true, Bool.true_eq_false, reduceCtorEq, Nat.le_refl, sTxOk_run hS01d hS14, l01In_run hS01d]))) <;> first | (simp_all [Tx.ack, Tx.enc]; done) | (unfold Tx.ack; rw [if_neg (by simp_all [inR] <;> omega)]; rfl) | (unfold Tx.ack; rw [if_pos (by simp_all [inR] <;> omega)]; (repeat' split) <;> simp_all [Tx.enc, inR] <;> omega)
end
end Go.Proofs.Ytlbagejkjkfkjaa.A
/- Slices that show data: relations between cells of a heap and data, with their footprints; loops by their turns. -/
namespace Go.Proofs.Ytlbagejkjkfkjaa.A
open Go
set_option linter.unusedSimpArgs false
set_option linter.unusedVariables false

/-! ### numbers -/
theorem wrapI (z : Int) (h1 : -9223372036854775808 ≤ z) (h2 : z ≤ 9223372036854775807) : IntKind.i64.wrap z = z := by
  show (if (true && decide (z % 18446744073709551616 ≥ 9223372036854775808)) = true then z % 18446744073709551616 - 18446744073709551616 else z % 18446744073709551616) = z
  simp only [Bool.true_and, decide_eq_true_eq]
  split <;> omega
theorem wrapU (z : Int) (h1 : 0 ≤ z) (h2 : z ≤ 18446744073709551615) : IntKind.u64.wrap z = z := by
  show (if (false && decide (z % 18446744073709551616 ≥ 9223372036854775808)) = true then z % 18446744073709551616 - 18446744073709551616 else z % 18446744073709551616) = z
  rw [if_neg (by simp)]
  omega
theorem wrapS (i : Nat) (h : i < 9223372036854775807) : IntKind.i64.wrap ((i : Int) + 1) = ((i + 1 : Nat) : Int) := by rw [wrapI _ (by omega) (by omega)]; rfl

/-! ### cells that show data -/
/-- Cells of a heap show data; the rows that they lie in. -/
abbrev Rel (α : Type) := Heap → List Cell → α → List Nat → Prop
structure RelOk {α : Type} (R : Rel α) : Prop where
  lt : ∀ {h cs a fp}, R h cs a fp → ∀ id, id ∈ fp → id < h.next
  mv : ∀ {h h' cs a fp}, R h cs a fp → h.next ≤ h'.next → (∀ id, id ∈ fp → h'.get id = h.get id) → R h' cs a fp
def Fl {α : Type} (enc : α → List Cell) : Rel α := fun _ cs a fp => cs = enc a ∧ fp = []
theorem Fl.ok {α : Type} (enc : α → List Cell) : RelOk (Fl enc) where
  lt := by rintro h cs a fp ⟨rfl, rfl⟩ id hid; cases hid
  mv := fun e _ _ => e
def AllR {α : Type} (R : Rel α) (h : Heap) : List (List Cell) → List α → List (List Nat) → Prop
  | [], [], [] => True
  | r :: rs, a :: bs, f :: fs => R h r a f ∧ AllR R h rs bs fs
  | _, _, _ => False
def Cell.sid : Cell → Nat
  | .sl _ id _ _ => id
  | _ => 0
/-- A cell shows a list. -/
def SlR {α : Type} (tag : Nat) (R : Rel α) (h : Heap) (x : Cell) (xs : List α) (fp : List Nat) : Prop :=
  xs.length ≤ maxLen ∧ ((x = .nil ∧ xs = [] ∧ fp = []) ∨ ∃ id rows fps, x = .sl tag id 0 xs.length ∧ h.get id = some rows ∧ id < h.next ∧ fp = id :: fps.flatten ∧ AllR R h rows xs fps)

section
variable {α : Type} {R : Rel α} {h h' : Heap}
theorem AllR.len : ∀ {rows : List (List Cell)} {xs : List α} {fps : List (List Nat)}, AllR R h rows xs fps → rows.length = xs.length
  | [], [], [], _ => rfl
  | _ :: _, _ :: _, _ :: _, ⟨_, w⟩ => by simp only [List.length_cons, AllR.len w]
  | [], [], _ :: _, w => w.elim
  | [], _ :: _, _, w => w.elim
  | _ :: _, [], _, w => w.elim
  | _ :: _, _ :: _, [], w => w.elim
theorem AllR.at : ∀ {rows : List (List Cell)} {xs : List α} {fps : List (List Nat)}, AllR R h rows xs fps → ∀ (i : Nat) (hi : i < xs.length), ∃ r f, rows[i]? = some r ∧ fps[i]? = some f ∧ R h r xs[i] f
  | [], [], [], _ => fun i hi => absurd hi (Nat.not_lt_zero _)
  | r :: _, _ :: _, f :: _, ⟨w1, w⟩ => fun i hi => by
    cases i with
    | zero => exact ⟨r, f, rfl, rfl, w1⟩
    | succ i => exact AllR.at w i (by simpa using hi)
  | [], [], _ :: _, w => w.elim
  | [], _ :: _, _, w => w.elim
  | _ :: _, [], _, w => w.elim
  | _ :: _, _ :: _, [], w => w.elim
theorem AllR.mv (ok : RelOk R) : ∀ {rows : List (List Cell)} {xs : List α} {fps : List (List Nat)}, AllR R h rows xs fps → h.next ≤ h'.next → (∀ id, id ∈ fps.flatten → h'.get id = h.get id) → AllR R h' rows xs fps
  | [], [], [], _ => fun _ _ => trivial
  | _ :: _, _ :: _, _ :: _, ⟨w1, w⟩ => fun hn hg => ⟨ok.mv w1 hn fun id hid => hg id (by simp [hid]), w.mv ok hn fun id hid => hg id (by rw [List.flatten_cons]; exact List.mem_append_right _ hid)⟩
  | [], [], _ :: _, w => w.elim
  | [], _ :: _, _, w => w.elim
  | _ :: _, [], _, w => w.elim
  | _ :: _, _ :: _, [], w => w.elim
theorem AllR.lt (ok : RelOk R) : ∀ {rows : List (List Cell)} {xs : List α} {fps : List (List Nat)}, AllR R h rows xs fps → ∀ id, id ∈ fps.flatten → id < h.next
  | [], [], [], _ => fun id hid => by simp at hid
  | _ :: _, _ :: _, _ :: _, ⟨w1, w⟩ => fun id hid => by
    rw [List.flatten_cons] at hid
    rcases List.mem_append.1 hid with hid | hid
    · exact ok.lt w1 id hid
    · exact w.lt ok id hid
  | [], [], _ :: _, w => w.elim
  | [], _ :: _, _, w => w.elim
  | _ :: _, [], _, w => w.elim
  | _ :: _, _ :: _, [], w => w.elim
theorem AllR.flat {enc : α → List Cell} : ∀ {rows : List (List Cell)} {xs : List α} {fps : List (List Nat)}, AllR (Fl enc) h rows xs fps → rows = xs.map enc ∧ fps.flatten = []
  | [], [], [], _ => ⟨rfl, rfl⟩
  | _ :: _, _ :: _, _ :: _, ⟨⟨rfl, rfl⟩, w⟩ => ⟨by rw [w.flat.1]; rfl, by rw [List.flatten_cons, w.flat.2]; rfl⟩
  | [], [], _ :: _, w => w.elim
  | [], _ :: _, _, w => w.elim
  | _ :: _, [], _, w => w.elim
  | _ :: _, _ :: _, [], w => w.elim
theorem AllR.ofFlat {enc : α → List Cell} : ∀ (xs : List α), AllR (Fl enc) h (xs.map enc) xs (xs.map fun _ => [])
  | [] => trivial
  | _ :: r => ⟨⟨rfl, rfl⟩, AllR.ofFlat r⟩
variable {tag : Nat} {x : Cell} {xs : List α} {fp : List Nat}
theorem SlR.le (w : SlR tag R h x xs fp) : xs.length ≤ maxLen := w.1
theorem SlR.le2 (w : SlR tag R h x xs fp) : xs.length ≤ 9223372036854775807 := by have := w.1; unfold maxLen at this; omega
theorem SlR.lt (ok : RelOk R) (w : SlR tag R h x xs fp) : ∀ id, id ∈ fp → id < h.next := by
  rcases w with ⟨_, ⟨_, _, rfl⟩ | ⟨id, rows, fps, _, _, h1, rfl, h2⟩⟩
  · intro id hid; cases hid
  · intro i hi
    rcases List.mem_cons.1 hi with rfl | hi
    · exact h1
    · exact h2.lt ok i hi
theorem SlR.mv (ok : RelOk R) (w : SlR tag R h x xs fp) (hn : h.next ≤ h'.next) (hg : ∀ id, id ∈ fp → h'.get id = h.get id) : SlR tag R h' x xs fp := by
  rcases w with ⟨hl, ⟨h1, h2, rfl⟩ | ⟨id, rows, fps, h1, h2, h3, rfl, h4⟩⟩
  · exact ⟨hl, .inl ⟨h1, h2, rfl⟩⟩
  · exact ⟨hl, .inr ⟨id, rows, fps, h1, (hg id (by simp)).trans h2, Nat.lt_of_lt_of_le h3 hn, rfl, h4.mv ok hn fun i hi => hg i (by simp [hi])⟩⟩
theorem SlR.mono (ok : RelOk R) (w : SlR tag R h x xs fp) (hx : HExt h h') : SlR tag R h' x xs fp := w.mv ok hx.1 fun id hid => hx.2 id (w.lt ok id hid)
theorem RelOk.mono (ok : RelOk R) {cs : List Cell} {a : α} (w : R h cs a fp) (hx : HExt h h') : R h' cs a fp := ok.mv w hx.1 fun id hid => hx.2 id (ok.lt w id hid)
theorem SlR.len (w : SlR tag R h x xs fp) : lenR (some x) = some (.int .i64 (xs.length : Nat)) := by
  rcases w with ⟨_, ⟨rfl, rfl, _⟩ | ⟨id, rows, fps, rfl, _⟩⟩ <;> rfl
theorem SlR.idx (w : SlR tag R h x xs fp) {i : Nat} (hi : i < xs.length) : idxR tag (some x) (some (i : Int)) = some (.ptr x.sid i 0) := by
  rcases w with ⟨_, ⟨rfl, rfl, _⟩ | ⟨id, rows, fps, rfl, _⟩⟩
  · exact absurd hi (Nat.not_lt_zero _)
  · rw [idxR_s, if_pos (by omega)]; simp [Cell.sid]
theorem SlR.row (w : SlR tag R h x xs fp) {i : Nat} (hi : i < xs.length) : ∃ r f, rowOf h x.sid i = some r ∧ R h r xs[i] f ∧ ∀ id, id ∈ f → id ∈ fp := by
  rcases w with ⟨_, ⟨rfl, rfl, _⟩ | ⟨id, rows, fps, rfl, h1, _, rfl, h2⟩⟩
  · exact absurd hi (Nat.not_lt_zero _)
  · obtain ⟨r, f, q1, q2, q3⟩ := h2.at i hi
    refine ⟨r, f, by simp [rowOf, Cell.sid, h1, q1], q3, fun id hid => List.mem_cons_of_mem _ (List.mem_flatten.2 ⟨f, List.mem_of_getElem? q2, hid⟩)⟩
theorem SlR.flat {enc : α → List Cell} (w : SlR tag (Fl enc) h x xs fp) : (x = .nil ∧ xs = [] ∧ fp = []) ∨ x = .sl tag x.sid 0 xs.length ∧ h.get x.sid = some (xs.map enc) ∧ x.sid < h.next ∧ fp = [x.sid] := by
  rcases w with ⟨_, h0 | ⟨id, rows, fps, rfl, h1, h2, rfl, h3⟩⟩
  · exact .inl h0
  · obtain ⟨rfl, h4⟩ := h3.flat
    exact .inr ⟨rfl, h1, h2, by rw [h4]; rfl⟩
theorem SlR.ofFlat {enc : α → List Cell} (hl : xs.length ≤ maxLen) {id : Nat} (h1 : h.get id = some (xs.map enc)) (h2 : id < h.next) : SlR tag (Fl enc) h (.sl tag id 0 xs.length) xs [id] :=
  ⟨hl, .inr ⟨id, _, _, rfl, h1, h2, by simp, AllR.ofFlat xs⟩⟩
theorem SlR.nil (tag : Nat) (R : Rel α) (h : Heap) : SlR tag R h .nil [] [] := ⟨Nat.zero_le _, .inl ⟨rfl, rfl, rfl⟩⟩
theorem SlR.load {enc : α → List Cell} (w : SlR tag (Fl enc) h x xs fp) {i : Nat} (hi : i < xs.length) (j n : Nat) : loadP h x.sid i j n = cut? (enc xs[i]) j n := by
  obtain ⟨r, f, h1, ⟨rfl, _⟩, _⟩ := w.row hi
  simp [loadP, h1]
theorem SlR.loadD {enc : α → List Cell} (w : SlR tag (Fl enc) h x xs fp) (d : α) {i : Nat} (hi : i < xs.length) (j n : Nat) : loadP h x.sid i j n = cut? (enc (xs[i]?.getD d)) j n := by
  rw [w.load hi, List.getElem?_eq_getElem hi]; rfl
theorem SlR.rows {enc : α → List Cell} (w : SlR tag (Fl enc) h x xs fp) : rowsOf h x = some (xs.map enc) := by
  rcases w.flat with ⟨rfl, rfl, _⟩ | ⟨h1, h2, _⟩
  · rfl
  · rw [h1]; simp only [rowsOf]; rw [h2]; simp [List.take_of_length_le]
theorem SlR.isTag (w : SlR tag R h x xs fp) : A.isTag tag x = true := by
  rcases w with ⟨_, ⟨rfl, rfl, _⟩ | ⟨id, rows, fps, rfl, _⟩⟩ <;> simp [A.isTag]
theorem AllR.ofWf {A : α → Prop} {W : List Cell → Prop} (hr : ∀ r, W r → ∃ a f, R h r a f ∧ A a) : ∀ (rows : List (List Cell)), (∀ r, r ∈ rows → W r) → ∃ xs fps, AllR R h rows xs fps ∧ ∀ a, a ∈ xs → A a
  | [], _ => ⟨[], [], trivial, fun _ h => nomatch h⟩
  | r :: rs, w => by
    obtain ⟨a, f, h1, h2⟩ := hr r (w r (by simp))
    obtain ⟨bs, fs, h3, h4⟩ := AllR.ofWf hr rs fun r hr => w r (by simp [hr])
    exact ⟨a :: bs, f :: fs, ⟨h1, h3⟩, fun b hb => by (rcases List.mem_cons.1 hb with rfl | hb); exact h2; exact h4 b hb⟩
theorem SlR.ofWf {A : α → Prop} {n sz : Nat} {e : Sh} (hr : ∀ r, r.length = sz ∧ Wf h n e r → ∃ a f, R h r a f ∧ A a) (w : Wf h (n + 1) (.slice tag sz e) [x]) : ∃ xs fp, SlR tag R h x xs fp ∧ ∀ a, a ∈ xs → A a := by
  rcases w with w | ⟨id, rows, h1, h2, h3, h4, h5⟩
  · cases w; exact ⟨[], [], SlR.nil _ _ _, fun _ h => nomatch h⟩
  · cases h1
    obtain ⟨xs, fps, q1, q2⟩ := AllR.ofWf hr rows h5
    exact ⟨xs, _, ⟨q1.len ▸ h4, .inr ⟨id, rows, fps, by rw [q1.len], h3, h2, rfl, q1⟩⟩, q2⟩
end

/-! ### the heap -/
theorem push_put (h : Heap) (a b : List (List Cell)) : (h.push a).put h.next b = h.push b := by
  simp only [Heap.push, Heap.put]
  congr 1; funext i; split <;> rfl
theorem push_get (h : Heap) (a : List (List Cell)) : (h.push a).get h.next = some a := by simp [Heap.push]
theorem push_next (h : Heap) (a : List (List Cell)) : (h.push a).next = h.next + 1 := rfl
theorem push_floor (h : Heap) (a : List (List Cell)) : (h.push a).floor = h.floor := rfl
theorem put_put (h : Heap) (id : Nat) (a b : List (List Cell)) : (h.put id a).put id b = h.put id b := by
  simp only [Heap.put]
  congr 1; funext i; split <;> rfl
theorem push_kill (h : Heap) (a : List (List Cell)) : (h.push a).kill h.next = { h with next := h.next + 1, get := fun i => if i = h.next then none else h.get i } := by
  simp only [Heap.push, Heap.kill]
  congr 1; funext i; split <;> rfl

theorem storeP_push {h : Heap} {rows : List (List Cell)} (hf : h.floor ≤ h.next) {i : Nat} {old new : List Cell} (h1 : rows[i]? = some old) (h2 : new.length = old.length) : storeP (h.push rows) h.next i 0 new = some (h.push (rows.set i new)) := by
  simp only [storeP, push_floor, push_get]
  rw [if_pos hf]
  simp only [Option.bind_some, h1, splice?, List.take_zero, List.nil_append, Nat.zero_add]
  rw [if_pos (by omega), h2, List.drop_length]
  simp only [List.append_nil, Option.bind_some, push_put]
/-- A store into a row that may be written. -/
theorem storeP_at {h : Heap} {id : Nat} {rows : List (List Cell)} (hf : h.floor ≤ id) (hr : h.get id = some rows) {i j : Nat} {old new r : List Cell} (h1 : rows[i]? = some old) (h2 : splice? old j new = some r) : storeP h id i j new = some (h.put id (rows.set i r)) := by
  simp only [storeP]
  rw [if_pos hf, hr]
  simp only [Option.bind_some, h1, h2]
theorem HExt.fl {h h' : Heap} (hx : HExt h h') (hf : h'.floor = h.floor) (h0 : h.floor ≤ h.next) : h'.floor ≤ h'.next := by rw [hf]; exact Nat.le_trans h0 hx.1

/-- The heap goes on: what was there is there. -/
structure On (h h' : Heap) : Prop where
  ext : HExt h h'
  fl : h'.floor = h.floor
theorem On.refl (h : Heap) : On h h := ⟨HExt.refl h, rfl⟩
theorem On.trans {a b c : Heap} (p : On a b) (q : On b c) : On a c := ⟨p.ext.trans q.ext, q.fl.trans p.fl⟩
theorem On.push (h : Heap) (rows : List (List Cell)) : On h (h.push rows) := ⟨HExt.push h rows, rfl⟩
theorem On.le {h h' : Heap} (o : On h h') (hf : h.floor ≤ h.next) : h'.floor ≤ h'.next := o.ext.fl o.fl hf
/-- Rows that were made behind h, each named once. -/
structure Fre (h : Heap) (fp : List Nat) : Prop where
  lo : ∀ id, id ∈ fp → h.next ≤ id
  nd : fp.Nodup
theorem Fre.one (h : Heap) : Fre h [h.next] := ⟨fun id hid => by simp at hid; omega, by simp⟩
theorem Fre.nil (h : Heap) : Fre h [] := ⟨fun id hid => (nomatch hid), List.nodup_nil⟩
theorem RelOk.on {α : Type} {R : Rel α} (ok : RelOk R) {h h' : Heap} {cs : List Cell} {a : α} {fp : List Nat} (w : R h cs a fp) (o : On h h') : R h' cs a fp := ok.mono w o.ext
theorem SlR.on {α : Type} {R : Rel α} {tag : Nat} {h h' : Heap} {x : Cell} {xs : List α} {fp : List Nat} (w : SlR tag R h x xs fp) (ok : RelOk R) (o : On h h') : SlR tag R h' x xs fp := w.mono ok o.ext

/-! ### rows that are filled one by one -/
def fillR {α : Type} (f : α → List Cell) (z : List Cell) (xs : List α) (i : Nat) : List (List Cell) := (xs.take i).map f ++ List.replicate (xs.length - i) z
theorem fillR_0 {α : Type} (f : α → List Cell) (z : List Cell) (xs : List α) : fillR f z xs 0 = List.replicate xs.length z := by simp [fillR]
theorem fillR_n {α : Type} (f : α → List Cell) (z : List Cell) (xs : List α) : fillR f z xs xs.length = xs.map f := by simp [fillR]
theorem fillR_get {α : Type} (f : α → List Cell) (z : List Cell) (xs : List α) {i : Nat} (hi : i < xs.length) : (fillR f z xs i)[i]? = some z := by
  simp only [fillR]
  rw [List.getElem?_append_right (by simp; omega)]
  rw [List.getElem?_replicate, if_pos]
  simp only [List.length_map, List.length_take]; omega
theorem fillR_set {α : Type} (f : α → List Cell) (z : List Cell) (xs : List α) {i : Nat} (hi : i < xs.length) : (fillR f z xs i).set i (f xs[i]) = fillR f z xs (i + 1) := by
  simp only [fillR]
  rw [List.set_append_right _ _ (by simp; omega), show i - ((xs.take i).map f).length = 0 from by simp; omega, show xs.length - i = (xs.length - (i + 1)) + 1 from by omega, List.replicate_succ, List.set_cons_zero,
    show xs.take (i + 1) = xs.take i ++ [xs[i]] from by rw [List.take_add_one, List.getElem?_eq_getElem hi]; rfl, List.map_append, List.append_assoc]
  rfl

/-! ### rows that are turned one by one, in place -/
def putM (h : Heap) (id : Nat) (rows : List (List Cell)) (i : Nat) : Option (List Cell) → Option Heap
  | some r => some (h.put id (rows.set i r))
  | none => none
theorem putM_s (h : Heap) (id : Nat) (rows : List (List Cell)) (i : Nat) (r : List Cell) : putM h id rows i (some r) = some (h.put id (rows.set i r)) := rfl
theorem storeP_put {h : Heap} {id : Nat} (hf : h.floor ≤ id) {rows : List (List Cell)} {i : Nat} (hi : i < rows.length) (old new : List Cell) (j : Nat) : storeP (h.put id (rows.set i old)) id i j new = putM h id rows i (splice? old j new) := by
  have hf' : (h.put id (rows.set i old)).floor ≤ id := hf
  have hg : (h.put id (rows.set i old)).get id = some (rows.set i old) := by simp [Heap.put]
  simp only [storeP]
  rw [if_pos hf', hg]
  simp only [Option.bind_some, List.getElem?_set_self hi]
  cases splice? old j new with
  | none => rfl
  | some r => simp only [Option.bind_some, List.set_set, put_put, putM]
theorem put_same {h : Heap} {id : Nat} {rows : List (List Cell)} (hr : h.get id = some rows) : h.put id rows = h := by
  obtain ⟨a, b, g⟩ := h
  simp only [Heap.put]
  congr 1; funext i; split
  · rename_i he; subst he; exact hr.symm
  · rfl
def mixR {α : Type} (f : α → List Cell) (ms xs : List α) (i : Nat) : List (List Cell) := (ms.take i).map f ++ (xs.drop i).map f
theorem mixR_0 {α : Type} (f : α → List Cell) (ms xs : List α) : mixR f ms xs 0 = xs.map f := by simp [mixR]
theorem mixR_n {α : Type} (f : α → List Cell) {ms xs : List α} (hl : ms.length = xs.length) : mixR f ms xs xs.length = ms.map f := by simp [mixR, ← hl]
theorem mixR_len {α : Type} (f : α → List Cell) {ms xs : List α} (hl : ms.length = xs.length) (i : Nat) : (mixR f ms xs i).length = xs.length := by simp [mixR]; omega
theorem mixR_split {α : Type} (f : α → List Cell) {ms xs : List α} (hl : ms.length = xs.length) {i : Nat} (hi : i < xs.length) (c : List Cell) : (mixR f ms xs i).set i c = (ms.take i).map f ++ c :: (xs.drop (i + 1)).map f := by
  simp only [mixR]
  rw [List.set_append_right _ _ (by simp; omega), show i - ((ms.take i).map f).length = 0 from by simp; omega, List.drop_eq_getElem_cons hi, List.map_cons, List.set_cons_zero]
theorem mixR_cur {α : Type} (f : α → List Cell) {ms xs : List α} (hl : ms.length = xs.length) {i : Nat} (hi : i < xs.length) : (mixR f ms xs i).set i (f xs[i]) = mixR f ms xs i := by
  rw [mixR_split f hl hi, mixR, List.drop_eq_getElem_cons hi]; rfl
theorem mixR_set {α : Type} (f : α → List Cell) {ms xs : List α} (hl : ms.length = xs.length) {i : Nat} (hi : i < xs.length) : (mixR f ms xs i).set i (f (ms[i]'(by omega))) = mixR f ms xs (i + 1) := by
  have hi' : i < ms.length := by omega
  rw [mixR_split f hl hi, mixR, show ms.take (i + 1) = ms.take i ++ [ms[i]] from by rw [List.take_add_one, List.getElem?_eq_getElem hi']; rfl, List.map_append, List.append_assoc]
  rfl
/-- Only these rows have turned. -/
structure Mk (h h' : Heap) (fp : List Nat) : Prop where
  next : h'.next = h.next
  fl : h'.floor = h.floor
  get : ∀ id, id ∉ fp → h'.get id = h.get id
theorem Mk.refl (h : Heap) (fp : List Nat) : Mk h h fp := ⟨rfl, rfl, fun _ _ => rfl⟩
theorem Mk.put (h : Heap) (id : Nat) (rows : List (List Cell)) : Mk h (h.put id rows) [id] := ⟨rfl, rfl, fun k hk => by simp only [Heap.put]; rw [if_neg (by simpa using hk)]⟩
theorem RelOk.mk' {α : Type} {R : Rel α} (ok : RelOk R) {h h' : Heap} {cs : List Cell} {a : α} {fp fq : List Nat} (w : R h cs a fp) (m : Mk h h' fq) (hd : ∀ id, id ∈ fp → id ∉ fq) : R h' cs a fp := ok.mv w (by rw [m.next]; exact Nat.le_refl _) fun id hid => m.get id (hd id hid)
theorem Mk.trans {a b c : Heap} {p q : List Nat} (m : Mk a b p) (n : Mk b c q) : Mk a c (p ++ q) := ⟨n.next.trans m.next, n.fl.trans m.fl, fun id hid => by
  rw [List.mem_append, not_or] at hid
  rw [n.get id hid.2, m.get id hid.1]⟩
theorem SlR.mk {α : Type} {R : Rel α} {tag : Nat} {h h' : Heap} {x : Cell} {xs : List α} {fp fq : List Nat} (w : SlR tag R h x xs fp) (ok : RelOk R) (m : Mk h h' fq) (hd : ∀ id, id ∈ fp → id ∉ fq) : SlR tag R h' x xs fp := w.mv ok (by rw [m.next]; exact Nat.le_refl _) fun id hid => m.get id (hd id hid)

/-! ### what integers may be -/
theorem wfU {x : Int} (h : (Lit.int .u64 x).wf = true) : 0 ≤ x ∧ x ≤ 18446744073709551615 := by
  simp only [Lit.wf, Bool.and_eq_true, decide_eq_true_eq] at h; exact h
theorem wfI {x : Int} (h : (Lit.int .i64 x).wf = true) : -9223372036854775808 ≤ x ∧ x ≤ 9223372036854775807 := by
  simp only [Lit.wf, Bool.and_eq_true, decide_eq_true_eq] at h; exact h
theorem wrapI1 (z : Int) (h1 : 0 ≤ z) (h2 : z ≤ 9200000000000000000) : IntKind.i64.wrap (z + 1) = z + 1 := wrapI _ (by omega) (by omega)
theorem wrapU1 (z : Int) (h1 : 0 ≤ z) (h2 : z ≤ 9200000000000000000) : IntKind.u64.wrap z = z := wrapU _ (by omega) (by omega)
theorem wrapII (z : Int) (h1 : 0 ≤ z) (h2 : z ≤ 9200000000000000000) : IntKind.i64.wrap z = z := wrapI _ (by omega) (by omega)
theorem b_rem (k : IntKind) (a b : Int) (h : b ≠ 0) : binF .rem (.int k a) (.int k b) = some (.int k (a.tmod b)) := by simp [binF, h]
theorem b_quo (k : IntKind) (a b : Int) (h : b ≠ 0) : binF .quo (.int k a) (.int k b) = some (.int k (k.wrap (a.tdiv b))) := by simp [binF, h]

/-! ### loops -/
/-- One turn goes on, or returns. -/
def Turn (r next : Option (Ex × St)) (p : Bool) (Q : St → Prop) : Prop := (p = true ∧ r = next) ∨ (p = false ∧ ∃ s, r = some (.ret, s) ∧ Q s)
section
variable {F : Nat → Option RF} {Z : CallF} {live : List Nat} {b : RC}
theorem loop_allN (n : Nat) (st : Nat → St) (P : Nat → Bool) (Q : St → Prop) (hs : ∀ i, i < n → Turn (loop F Z live b (st i)) (loop F Z live b (st (i + 1))) (P i) Q) :
    Turn (loop F Z live b (st 0)) (loop F Z live b (st n)) ((List.range n).all P) Q := by
  induction n with
  | zero => exact .inl ⟨rfl, rfl⟩
  | succ n ih =>
    have hl : (List.range (n + 1)).all P = ((List.range n).all P && P n) := by rw [List.range_succ, List.all_append]; simp
    rcases ih fun i hi => hs i (by omega) with ⟨h1, h2⟩ | ⟨h1, h2⟩
    · rcases hs n (by omega) with ⟨h3, h4⟩ | ⟨h3, s, h4, h5⟩
      · exact .inl ⟨by rw [hl, h1, h3]; rfl, h2.trans h4⟩
      · exact .inr ⟨by rw [hl, h1, h3]; rfl, s, h2.trans h4, h5⟩
    · exact .inr ⟨by rw [hl, h1]; rfl, h2⟩
theorem loop_all {α : Type} (xs : List α) (st : Nat → St) (P : α → Bool) (Q : St → Prop) (hs : ∀ i (hi : i < xs.length), Turn (loop F Z live b (st i)) (loop F Z live b (st (i + 1))) (P xs[i]) Q) :
    Turn (loop F Z live b (st 0)) (loop F Z live b (st xs.length)) (xs.all P) Q := by
  have he : xs.all P = (List.range xs.length).all (fun i => (xs[i]?).all P) := by
    rw [Bool.eq_iff_iff, List.all_eq_true, List.all_eq_true]
    constructor
    · intro h i hi
      have hi' : i < xs.length := by simpa using hi
      rw [List.getElem?_eq_getElem hi']
      exact h _ (List.getElem_mem hi')
    · intro h a ha
      obtain ⟨i, hi, rfl⟩ := List.mem_iff_getElem.1 ha
      have := h i (by simpa using hi)
      rwa [List.getElem?_eq_getElem hi] at this
  rw [he]
  exact loop_allN _ _ _ _ fun i hi => by rw [List.getElem?_eq_getElem hi]; exact hs i hi
theorem all_same {α : Type} [DecidableEq α] {xs ys : List α} (he : xs.length = ys.length) : (List.range xs.length).all (fun i => decide (xs[i]? = ys[i]?)) = decide (xs = ys) := by
  rw [Bool.eq_iff_iff, List.all_eq_true, decide_eq_true_eq]
  constructor
  · intro hall
    apply List.ext_getElem? 
    intro i
    by_cases hi : i < xs.length
    · simpa using hall i (by simpa using hi)
    · rw [List.getElem?_eq_none (by omega), List.getElem?_eq_none (by omega)]
  · rintro rfl i _; simp
/-- A loop of so many turns, none of which leaves. -/
theorem loop_goes (n : Nat) (I : Nat → St → Prop) (hs : ∀ i s, i < n → I i s → ∃ s', I (i + 1) s' ∧ loop F Z live b s = loop F Z live b s') {s : St} (h0 : I 0 s) : ∃ s', I n s' ∧ loop F Z live b s = loop F Z live b s' := by
  induction n with
  | zero => exact ⟨s, h0, rfl⟩
  | succ n ih =>
    obtain ⟨s1, h1, h2⟩ := ih fun i s hi => hs i s (by omega)
    obtain ⟨s2, h3, h4⟩ := hs n s1 (by omega) h1
    exact ⟨s2, h3, h2.trans h4⟩
theorem loop_goesF (n : Nat) (st : Nat → St) (hs : ∀ i, i < n → loop F Z live b (st i) = loop F Z live b (st (i + 1))) : loop F Z live b (st 0) = loop F Z live b (st n) := by
  induction n with
  | zero => rfl
  | succ n ih => exact (ih fun i hi => hs i (by omega)).trans (hs n (by omega))
end
end Go.Proofs.Ytlbagejkjkfkjaa.A
/- The data of a Request, and its cells. -/
namespace Go.Proofs.Ytlbagejkjkfkjaa.A
open Go
set_option linter.unusedSimpArgs false
set_option linter.unusedVariables false
structure Request where
  epoch : Int
  op : Int
  id : Int
  amount : Int
  tx : Int
  deriving DecidableEq
namespace Request
def enc (t : Request) : List Cell := [.int .i64 t.epoch, .int .i64 t.op, .int .u64 t.id, .int .u64 t.amount, .int .i64 t.tx]
theorem len (t : Request) : t.enc.length = 5 := rfl
theorem tak (t : Request) : t.enc.take 5 = t.enc := rfl
def none_ : Request := ⟨0, 0, 0, 0, 0⟩
/-- The numbers are those of the machine. -/
structure Ok (t : Request) : Prop where
  epoch : -9223372036854775808 ≤ t.epoch ∧ t.epoch ≤ 9223372036854775807
  op : -9223372036854775808 ≤ t.op ∧ t.op ≤ 9223372036854775807
  id : 0 ≤ t.id ∧ t.id ≤ 18446744073709551615
  amount : 0 ≤ t.amount ∧ t.amount ≤ 18446744073709551615
  tx : -9223372036854775808 ≤ t.tx ∧ t.tx ≤ 9223372036854775807
end Request
theorem Wf.isRequest {h : Heap} {n : Nat} {cs : List Cell} (w : Wf h (n + 2) shRequest cs) : ∃ t : Request, cs = t.enc ∧ t.Ok := by
  obtain ⟨_, _, rfl, _, ⟨epoch0, rfl, h0⟩, _, _, rfl, _, ⟨op0, rfl, h1⟩, _, _, rfl, _, ⟨id0, rfl, h2⟩, _, _, rfl, _, ⟨amount0, rfl, h3⟩, _, _, rfl, _, ⟨tx0, rfl, h4⟩, rfl⟩ := w
  exact ⟨⟨epoch0, op0, id0, amount0, tx0⟩, rfl, ⟨wfI h0, wfI h1, wfU h2, wfU h3, wfI h4⟩⟩
end Go.Proofs.Ytlbagejkjkfkjaa.A
/- The compact code of some functions: laws.eqRequestS, laws.markRequestS, laws.heldRequestS, laws.eqRequest, laws.toRequest. -/
namespace Go.Proofs.Ytlbagejkjkfkjaa.A
open Go
/-- A loop of laws.eqRequestS. -/
def r48L0 : RC :=
 .seq (.seq (.reg [⟨none, .mov 11 (.t 5)⟩,
      ⟨none, .mov 12 (.t 0)⟩,
      ⟨none, .len 13 (.t 12)⟩,
      ⟨none, .bin 14 .lss (.t 11) (.t 13)⟩])
     (.cond (.t 14)
     (.skip)
     (.exit 0)))
    (.seq (.block 1 (.seq (.reg [⟨none, .chk []⟩,
       ⟨none, .mov 17 (.t 0)⟩,
       ⟨none, .mov 18 (.t 5)⟩,
       ⟨none, .idx 19 3 (.t 17) (.t 18)⟩,
       ⟨none, .mov 21 (.t 1)⟩,
       ⟨none, .mov 22 (.t 5)⟩,
       ⟨none, .idx 23 3 (.t 21) (.t 22)⟩,
       ⟨none, .load 20 19 5 true⟩,
       ⟨none, .load 24 23 5 true⟩,
       ⟨none, .call (some 25) 99 [(.t 20), (.t 24)] true⟩,
       ⟨none, .not 26 (.t 25)⟩])
      (.cond (.t 26)
      (.seq (.reg [⟨none, .mov 4 (.k (.bool false))⟩])
       (.ret))
      (.skip))))
    (.reg [⟨none, .mov 15 (.t 5)⟩,
    ⟨none, .bin 16 .add (.t 15) (.k (.int .i64 1))⟩,
    ⟨none, .mov 5 (.t 16)⟩]))
/-- laws.eqRequestS -/
def r48 : RF :=
 ⟨2, [.tmp 4],
 .seq (.reg [⟨none, .mov 4 (.k (.bool false))⟩])
 (.seq (.seq (.reg [⟨none, .mov 6 (.t 0)⟩,
   ⟨none, .len 7 (.t 6)⟩,
   ⟨none, .mov 8 (.t 1)⟩,
   ⟨none, .len 9 (.t 8)⟩,
   ⟨none, .bin 10 .neq (.t 7) (.t 9)⟩])
  (.cond (.t 10)
  (.seq (.reg [⟨none, .mov 4 (.k (.bool false))⟩])
   (.ret))
  (.skip)))
 (.seq (.seq (.reg [⟨none, .mov 5 (.k (.int .i64 0))⟩])
  (.block 0 (.loop [0, 1, 5]
   r48L0)))
 (.seq (.reg [⟨none, .mov 4 (.k (.bool true))⟩])
 (.ret))))⟩
/-- A loop of laws.markRequestS. -/
def r49L0 : RC :=
 .seq (.seq (.reg [⟨none, .mov 6 (.t 5)⟩,
      ⟨none, .mov 7 (.t 0)⟩,
      ⟨none, .len 8 (.t 7)⟩,
      ⟨none, .bin 9 .lss (.t 6) (.t 8)⟩])
     (.cond (.t 9)
     (.skip)
     (.exit 0)))
    (.seq (.block 1 (.seq (.reg [⟨none, .mov 12 (.t 0)⟩,
       ⟨none, .mov 13 (.t 5)⟩,
       ⟨none, .mov 14 (.t 1)⟩,
       ⟨none, .idx 15 3 (.t 12) (.t 13)⟩,
       ⟨none, .fad 16 15 0⟩,
       ⟨none, .store 16 1 (.t 14)⟩])
      (.seq (.reg [⟨none, .mov 17 (.t 1)⟩,
       ⟨none, .bin 18 .add (.t 17) (.k (.int .i64 1))⟩,
       ⟨none, .mov 1 (.t 18)⟩])
      (.seq (.reg [⟨none, .mov 19 (.t 0)⟩,
       ⟨none, .mov 20 (.t 5)⟩,
       ⟨none, .mov 21 (.t 1)⟩,
       ⟨none, .idx 22 3 (.t 19) (.t 20)⟩,
       ⟨none, .fad 23 22 1⟩,
       ⟨none, .store 23 1 (.t 21)⟩])
      (.seq (.reg [⟨none, .mov 24 (.t 1)⟩,
       ⟨none, .bin 25 .add (.t 24) (.k (.int .i64 1))⟩,
       ⟨none, .mov 1 (.t 25)⟩])
      (.seq (.reg [⟨none, .mov 26 (.t 0)⟩,
       ⟨none, .mov 27 (.t 5)⟩,
       ⟨none, .mov 28 (.t 1)⟩,
       ⟨none, .conv 29 .u64 (.t 28)⟩,
       ⟨none, .idx 30 3 (.t 26) (.t 27)⟩,
       ⟨none, .fad 31 30 2⟩,
       ⟨none, .store 31 1 (.t 29)⟩])
      (.seq (.reg [⟨none, .mov 32 (.t 1)⟩,
       ⟨none, .bin 33 .add (.t 32) (.k (.int .i64 1))⟩,
       ⟨none, .mov 1 (.t 33)⟩])
      (.seq (.reg [⟨none, .mov 34 (.t 0)⟩,
       ⟨none, .mov 35 (.t 5)⟩,
       ⟨none, .mov 36 (.t 1)⟩,
       ⟨none, .conv 37 .u64 (.t 36)⟩,
       ⟨none, .idx 38 3 (.t 34) (.t 35)⟩,
       ⟨none, .fad 39 38 3⟩,
       ⟨none, .store 39 1 (.t 37)⟩])
      (.seq (.reg [⟨none, .mov 40 (.t 1)⟩,
       ⟨none, .bin 41 .add (.t 40) (.k (.int .i64 1))⟩,
       ⟨none, .mov 1 (.t 41)⟩])
      (.seq (.reg [⟨none, .mov 42 (.t 0)⟩,
       ⟨none, .mov 43 (.t 5)⟩,
       ⟨none, .mov 44 (.t 1)⟩,
       ⟨none, .idx 45 3 (.t 42) (.t 43)⟩,
       ⟨none, .fad 46 45 4⟩,
       ⟨none, .store 46 1 (.t 44)⟩])
      (.reg [⟨none, .mov 47 (.t 1)⟩,
      ⟨none, .bin 48 .add (.t 47) (.k (.int .i64 1))⟩,
      ⟨none, .mov 1 (.t 48)⟩])))))))))))
    (.reg [⟨none, .mov 10 (.t 5)⟩,
    ⟨none, .bin 11 .add (.t 10) (.k (.int .i64 1))⟩,
    ⟨none, .mov 5 (.t 11)⟩]))
/-- laws.markRequestS -/
def r49 : RF :=
 ⟨2, [.tmp 4],
 .seq (.reg [⟨none, .mov 4 (.k (.int .i64 0))⟩])
 (.seq (.seq (.reg [⟨none, .mov 5 (.k (.int .i64 0))⟩])
  (.block 0 (.loop [0, 1, 5]
   r49L0)))
 (.seq (.reg [⟨none, .mov 49 (.t 1)⟩,
  ⟨none, .mov 4 (.t 49)⟩])
 (.ret)))⟩
/-- A loop of laws.heldRequestS. -/
def r50L0 : RC :=
 .seq (.seq (.reg [⟨none, .mov 6 (.t 5)⟩,
      ⟨none, .mov 7 (.t 0)⟩,
      ⟨none, .len 8 (.t 7)⟩,
      ⟨none, .bin 9 .lss (.t 6) (.t 8)⟩])
     (.cond (.t 9)
     (.skip)
     (.exit 0)))
    (.seq (.block 1 (.seq (.seq (.reg [⟨none, .mov 12 (.t 0)⟩,
        ⟨none, .mov 13 (.t 5)⟩,
        ⟨none, .idx 14 3 (.t 12) (.t 13)⟩,
        ⟨none, .fad 15 14 0⟩,
        ⟨none, .load 16 15 1 false⟩,
        ⟨none, .mov 17 (.t 1)⟩,
        ⟨none, .bin 18 .neq (.t 16) (.t 17)⟩])
       (.cond (.t 18)
       (.seq (.reg [⟨none, .mov 4 (.k (.int .i64 (-1)))⟩])
        (.ret))
       (.skip)))
      (.seq (.reg [⟨none, .mov 19 (.t 1)⟩,
       ⟨none, .bin 20 .add (.t 19) (.k (.int .i64 1))⟩,
       ⟨none, .mov 1 (.t 20)⟩])
      (.seq (.seq (.reg [⟨none, .mov 21 (.t 0)⟩,
        ⟨none, .mov 22 (.t 5)⟩,
        ⟨none, .idx 23 3 (.t 21) (.t 22)⟩,
        ⟨none, .fad 24 23 1⟩,
        ⟨none, .load 25 24 1 false⟩,
        ⟨none, .mov 26 (.t 1)⟩,
        ⟨none, .bin 27 .neq (.t 25) (.t 26)⟩])
       (.cond (.t 27)
       (.seq (.reg [⟨none, .mov 4 (.k (.int .i64 (-1)))⟩])
        (.ret))
       (.skip)))
      (.seq (.reg [⟨none, .mov 28 (.t 1)⟩,
       ⟨none, .bin 29 .add (.t 28) (.k (.int .i64 1))⟩,
       ⟨none, .mov 1 (.t 29)⟩])
      (.seq (.seq (.reg [⟨none, .mov 30 (.t 0)⟩,
        ⟨none, .mov 31 (.t 5)⟩,
        ⟨none, .idx 32 3 (.t 30) (.t 31)⟩,
        ⟨none, .fad 33 32 2⟩,
        ⟨none, .load 34 33 1 false⟩,
        ⟨none, .mov 35 (.t 1)⟩,
        ⟨none, .conv 36 .u64 (.t 35)⟩,
        ⟨none, .bin 37 .neq (.t 34) (.t 36)⟩])
       (.cond (.t 37)
       (.seq (.reg [⟨none, .mov 4 (.k (.int .i64 (-1)))⟩])
        (.ret))
       (.skip)))
      (.seq (.reg [⟨none, .mov 38 (.t 1)⟩,
       ⟨none, .bin 39 .add (.t 38) (.k (.int .i64 1))⟩,
       ⟨none, .mov 1 (.t 39)⟩])
      (.seq (.seq (.reg [⟨none, .mov 40 (.t 0)⟩,
        ⟨none, .mov 41 (.t 5)⟩,
        ⟨none, .idx 42 3 (.t 40) (.t 41)⟩,
        ⟨none, .fad 43 42 3⟩,
        ⟨none, .load 44 43 1 false⟩,
        ⟨none, .mov 45 (.t 1)⟩,
        ⟨none, .conv 46 .u64 (.t 45)⟩,
        ⟨none, .bin 47 .neq (.t 44) (.t 46)⟩])
       (.cond (.t 47)
       (.seq (.reg [⟨none, .mov 4 (.k (.int .i64 (-1)))⟩])
        (.ret))
       (.skip)))
      (.seq (.reg [⟨none, .mov 48 (.t 1)⟩,
       ⟨none, .bin 49 .add (.t 48) (.k (.int .i64 1))⟩,
       ⟨none, .mov 1 (.t 49)⟩])
      (.seq (.seq (.reg [⟨none, .mov 50 (.t 0)⟩,
        ⟨none, .mov 51 (.t 5)⟩,
        ⟨none, .idx 52 3 (.t 50) (.t 51)⟩,
        ⟨none, .fad 53 52 4⟩,
        ⟨none, .load 54 53 1 false⟩,
        ⟨none, .mov 55 (.t 1)⟩,
        ⟨none, .bin 56 .neq (.t 54) (.t 55)⟩])
       (.cond (.t 56)
       (.seq (.reg [⟨none, .mov 4 (.k (.int .i64 (-1)))⟩])
        (.ret))
       (.skip)))
      (.reg [⟨none, .mov 57 (.t 1)⟩,
      ⟨none, .bin 58 .add (.t 57) (.k (.int .i64 1))⟩,
      ⟨none, .mov 1 (.t 58)⟩])))))))))))
    (.reg [⟨none, .mov 10 (.t 5)⟩,
    ⟨none, .bin 11 .add (.t 10) (.k (.int .i64 1))⟩,
    ⟨none, .mov 5 (.t 11)⟩]))
/-- laws.heldRequestS -/
def r50 : RF :=
 ⟨2, [.tmp 4],
 .seq (.reg [⟨none, .mov 4 (.k (.int .i64 0))⟩])
 (.seq (.seq (.reg [⟨none, .mov 5 (.k (.int .i64 0))⟩])
  (.block 0 (.loop [0, 1, 5]
   r50L0)))
 (.seq (.reg [⟨none, .mov 59 (.t 1)⟩,
  ⟨none, .mov 4 (.t 59)⟩])
 (.ret)))⟩
/-- laws.eqRequest -/
def r99 : RF :=
 ⟨2, [.tmp 4],
 .seq (.reg [⟨none, .locb 2 (.t 0)⟩,
  ⟨none, .locb 3 (.t 1)⟩,
  ⟨none, .mov 4 (.k (.bool false))⟩])
 (.seq (.seq (.reg [⟨none, .fad 5 2 0⟩,
   ⟨none, .load 6 5 1 false⟩,
   ⟨none, .fad 7 3 0⟩,
   ⟨none, .load 8 7 1 false⟩,
   ⟨none, .bin 9 .neq (.t 6) (.t 8)⟩])
  (.cond (.t 9)
  (.seq (.reg [⟨none, .mov 4 (.k (.bool false))⟩])
   (.ret))
  (.skip)))
 (.seq (.seq (.reg [⟨none, .fad 10 2 1⟩,
   ⟨none, .load 11 10 1 false⟩,
   ⟨none, .fad 12 3 1⟩,
   ⟨none, .load 13 12 1 false⟩,
   ⟨none, .bin 14 .neq (.t 11) (.t 13)⟩])
  (.cond (.t 14)
  (.seq (.reg [⟨none, .mov 4 (.k (.bool false))⟩])
   (.ret))
  (.skip)))
 (.seq (.seq (.reg [⟨none, .fad 15 2 2⟩,
   ⟨none, .load 16 15 1 false⟩,
   ⟨none, .fad 17 3 2⟩,
   ⟨none, .load 18 17 1 false⟩,
   ⟨none, .bin 19 .neq (.t 16) (.t 18)⟩])
  (.cond (.t 19)
  (.seq (.reg [⟨none, .mov 4 (.k (.bool false))⟩])
   (.ret))
  (.skip)))
 (.seq (.seq (.reg [⟨none, .fad 20 2 3⟩,
   ⟨none, .load 21 20 1 false⟩,
   ⟨none, .fad 22 3 3⟩,
   ⟨none, .load 23 22 1 false⟩,
   ⟨none, .bin 24 .neq (.t 21) (.t 23)⟩])
  (.cond (.t 24)
  (.seq (.reg [⟨none, .mov 4 (.k (.bool false))⟩])
   (.ret))
  (.skip)))
 (.seq (.seq (.reg [⟨none, .fad 25 2 4⟩,
   ⟨none, .load 26 25 1 false⟩,
   ⟨none, .fad 27 3 4⟩,
   ⟨none, .load 28 27 1 false⟩,
   ⟨none, .bin 29 .neq (.t 26) (.t 28)⟩])
  (.cond (.t 29)
  (.seq (.reg [⟨none, .mov 4 (.k (.bool false))⟩])
   (.ret))
  (.skip)))
 (.seq (.reg [⟨none, .mov 4 (.k (.bool true))⟩])
 (.ret)))))))⟩
/-- laws.toRequest -/
def r109 : RF :=
 ⟨1, [.cell 2 5 true],
 .seq (.reg [⟨none, .locb 1 (.t 0)⟩,
  ⟨none, .loc 2 [.int .i64 0, .int .i64 0, .int .u64 0, .int .u64 0, .int .i64 0]⟩])
 (.seq (.reg [⟨none, .loc 3 [.int .i64 0, .int .i64 0, .int .u64 0, .int .u64 0, .int .i64 0]⟩])
 (.seq (.reg [⟨none, .fad 4 1 0⟩,
  ⟨none, .load 5 4 1 false⟩,
  ⟨none, .fad 6 3 0⟩,
  ⟨none, .store 6 1 (.t 5)⟩])
 (.seq (.reg [⟨none, .fad 7 1 1⟩,
  ⟨none, .load 8 7 1 false⟩,
  ⟨none, .fad 9 3 1⟩,
  ⟨none, .store 9 1 (.t 8)⟩])
 (.seq (.reg [⟨none, .fad 10 1 2⟩,
  ⟨none, .load 11 10 1 false⟩,
  ⟨none, .fad 12 3 2⟩,
  ⟨none, .store 12 1 (.t 11)⟩])
 (.seq (.reg [⟨none, .fad 13 1 3⟩,
  ⟨none, .load 14 13 1 false⟩,
  ⟨none, .fad 15 3 3⟩,
  ⟨none, .store 15 1 (.t 14)⟩])
 (.seq (.reg [⟨none, .fad 16 1 4⟩,
  ⟨none, .load 17 16 1 false⟩,
  ⟨none, .fad 18 3 4⟩,
  ⟨none, .store 18 1 (.t 17)⟩])
 (.seq (.reg [⟨none, .load 19 3 5 true⟩,
  ⟨none, .store 2 5 (.t 19)⟩])
 (.ret))))))))⟩
/-- The functions of this text, with their numbers. -/
def tLRequest : List (Nat × RF) := [(48, r48), (49, r49), (50, r50), (99, r99), (109, r109)]
end Go.Proofs.Ytlbagejkjkfkjaa.A
/- What the converters of Request compute. -/
namespace Go.Proofs.Ytlbagejkjkfkjaa.A
open Go
set_option linter.unusedSimpArgs false
set_option linter.unusedVariables false
section
variable {F : Nat → Option RF} {Z : CallF} {h : Heap} {x y : Cell} {xs ys : List Request} {fp fq : List Nat}
def Request.zero : List Cell := [.int .i64 0, .int .i64 0, .int .u64 0, .int .u64 0, .int .i64 0]
theorem toRequest_run (hL : Has F tLRequest) (p : Request) (h : Heap) : call F Z 109 [.agg p.enc] h = some (.agg p.enc, h) := by
  rw [call_run F Z (hL.lk (g := 109) rfl) _ _ rfl]
  simp only [Request.enc, run0, run1, run2, run3, run4, noSlot, ownS, ownK, memN, RO.dst, lk, drop, forget, number, Nat.reduceBEq, cut?, splice?, builds, List.length_cons, List.length_nil, List.drop_succ_cons, List.drop_zero, List.take_succ_cons, List.take_zero, List.cons_append, List.nil_append, List.append_nil, List.drop_nil, List.take_nil, Nat.reduceAdd, Nat.reduceLeDiff, Nat.zero_add, Nat.add_zero, ↓reduceIte, Bool.not_true, Bool.not_false, decide_true, decide_false, eq_self, bne_self_eq_false, List.getElem?_cons_zero, List.getElem?_cons_succ, decide_eq_true_eq, Bool.false_eq_true, Bool.true_eq_false, reduceCtorEq, Nat.le_refl]
set_option maxHeartbeats 1000000 in
theorem eqRequest_run (hL : Has F tLRequest) (p q : Request) (h : Heap) : call F Z 99 [.agg p.enc, .agg q.enc] h = some (.c (.bool (decide (p = q))), h) := by
  rw [call_run F Z (hL.lk (g := 99) rfl) _ _ rfl]
  obtain ⟨epoch1, op1, id1, amount1, tx1⟩ := p
  obtain ⟨epoch2, op2, id2, amount2, tx2⟩ := q
  simp only [Request.enc, run0, run1, run2, run3, run4, noSlot, ownS, ownK, memN, RO.dst, lk, drop, forget, number, Nat.reduceBEq, cut?, splice?, builds, List.length_cons, List.length_nil, List.drop_succ_cons, List.drop_zero, List.take_succ_cons, List.take_zero, List.cons_append, List.nil_append, List.append_nil, List.drop_nil, List.take_nil, Nat.reduceAdd, Nat.reduceLeDiff, Nat.zero_add, Nat.add_zero, ↓reduceIte, Bool.not_true, Bool.not_false, decide_true, decide_false, eq_self, bne_self_eq_false, List.getElem?_cons_zero, List.getElem?_cons_succ, decide_eq_true_eq, Bool.false_eq_true, Bool.true_eq_false, reduceCtorEq, Nat.le_refl]
  (repeat' ((first | (rw [gF_if]; split) | (rw [condC_if]; split) | (rw [pickR_if]; split)) <;> (rename_i hh; (try simp only [Bool.not_eq_true, decide_eq_true_eq] at hh); simp only [hh, run0, run1, run2, run3, run4, noSlot, ownS, ownK, memN, RO.dst, lk, drop, forget, number, Nat.reduceBEq, cut?, splice?, builds, List.length_cons, List.length_nil, List.drop_succ_cons, List.drop_zero, List.take_succ_cons, List.take_zero, List.cons_append, List.nil_append, List.append_nil, List.drop_nil, List.take_nil, Nat.reduceAdd, Nat.reduceLeDiff, Nat.zero_add, Nat.add_zero, ↓reduceIte, Bool.not_true, Bool.not_false, decide_true, decide_false, eq_self, bne_self_eq_false, List.getElem?_cons_zero, List.getElem?_cons_succ, decide_eq_true_eq, Bool.false_eq_true, Bool.true_eq_false, reduceCtorEq, Nat.le_refl]))) <;> refine fin_bool ?_ <;> simp_all
theorem toRequest_lit (hL : Has F tLRequest) (epoch1 op1 id1 amount1 tx1 : Int) (h : Heap) : call F Z 109 [.agg [.int .i64 epoch1, .int .i64 op1, .int .u64 id1, .int .u64 amount1, .int .i64 tx1]] h = some (.agg [.int .i64 epoch1, .int .i64 op1, .int .u64 id1, .int .u64 amount1, .int .i64 tx1], h) := toRequest_run hL ⟨epoch1, op1, id1, amount1, tx1⟩ h
theorem eqRequest_lit (hL : Has F tLRequest) (epoch1 op1 id1 amount1 tx1 epoch2 op2 id2 amount2 tx2 : Int) (h : Heap) : call F Z 99 [.agg [.int .i64 epoch1, .int .i64 op1, .int .u64 id1, .int .u64 amount1, .int .i64 tx1], .agg [.int .i64 epoch2, .int .i64 op2, .int .u64 id2, .int .u64 amount2, .int .i64 tx2]] h = some (.c (.bool (decide ((⟨epoch1, op1, id1, amount1, tx1⟩ : Request) = ⟨epoch2, op2, id2, amount2, tx2⟩))), h) := eqRequest_run hL ⟨epoch1, op1, id1, amount1, tx1⟩ ⟨epoch2, op2, id2, amount2, tx2⟩ h
theorem eqRequestS_run (hL : Has F tLRequest) (w : SlR 3 (Fl Request.enc) h x xs fp) (v : SlR 3 (Fl Request.enc) h y ys fq) : call F Z 48 [.c x, .c y] h = some (.c (.bool (decide (xs = ys))), h) := by
  have hw := w.le2
  have hv := v.le2
  rw [call_run F Z (hL.lk (g := 48) rfl) _ _ rfl]
  simp only [run0, run1, run2, run3, run4, noSlot, ownS, ownK, memN, RO.dst, lk, drop, forget, number, Nat.reduceBEq, cut?, splice?, builds, List.length_cons, List.length_nil, List.drop_succ_cons, List.drop_zero, List.take_succ_cons, List.take_zero, List.cons_append, List.nil_append, List.append_nil, List.drop_nil, List.take_nil, Nat.reduceAdd, Nat.reduceLeDiff, Nat.zero_add, Nat.add_zero, ↓reduceIte, Bool.not_true, Bool.not_false, decide_true, decide_false, eq_self, bne_self_eq_false, List.getElem?_cons_zero, List.getElem?_cons_succ, decide_eq_true_eq, Bool.false_eq_true, Bool.true_eq_false, reduceCtorEq, Nat.le_refl, w.len, v.len]
  rw [condC_if]
  split
  · rename_i hne
    have : xs ≠ ys := by rintro rfl; simp at hne
    simp only [run0, run1, run2, run3, run4, noSlot, ownS, ownK, memN, RO.dst, lk, drop, forget, number, Nat.reduceBEq, cut?, splice?, builds, List.length_cons, List.length_nil, List.drop_succ_cons, List.drop_zero, List.take_succ_cons, List.take_zero, List.cons_append, List.nil_append, List.append_nil, List.drop_nil, List.take_nil, Nat.reduceAdd, Nat.reduceLeDiff, Nat.zero_add, Nat.add_zero, ↓reduceIte, Bool.not_true, Bool.not_false, decide_true, decide_false, eq_self, bne_self_eq_false, List.getElem?_cons_zero, List.getElem?_cons_succ, decide_eq_true_eq, Bool.false_eq_true, Bool.true_eq_false, reduceCtorEq, Nat.le_refl, this]
  · rename_i he
    have he : xs.length = ys.length := by simp at he; omega
    simp only [run0, run1, run2, run3, run4, noSlot, ownS, ownK, memN, RO.dst, lk, drop, forget, number, Nat.reduceBEq, cut?, splice?, builds, List.length_cons, List.length_nil, List.drop_succ_cons, List.drop_zero, List.take_succ_cons, List.take_zero, List.cons_append, List.nil_append, List.append_nil, List.drop_nil, List.take_nil, Nat.reduceAdd, Nat.reduceLeDiff, Nat.zero_add, Nat.add_zero, ↓reduceIte, Bool.not_true, Bool.not_false, decide_true, decide_false, eq_self, bne_self_eq_false, List.getElem?_cons_zero, List.getElem?_cons_succ, decide_eq_true_eq, Bool.false_eq_true, Bool.true_eq_false, reduceCtorEq, Nat.le_refl]
    have key := loop_allN (F := F) (Z := Z) (live := [0, 1, 5]) (b := r48L0) xs.length (fun i => ⟨[(0, .c x), (1, .c y), (5, .c (.int .i64 (i : Nat)))], [], [], h⟩) (fun i => decide (xs[i]? = ys[i]?)) (fun s => lk s.env 4 = some (.c (.bool false)) ∧ s.hp = h) fun i hi => by
      have hi' : i < ys.length := by omega
      have hlt : (i : Int) < xs.length := by omega
      rw [loop_run]
      simp only [r48L0, run0, run1, run2, run3, run4, noSlot, ownS, ownK, memN, RO.dst, lk, drop, forget, number, Nat.reduceBEq, cut?, splice?, builds, List.length_cons, List.length_nil, List.drop_succ_cons, List.drop_zero, List.take_succ_cons, List.take_zero, List.cons_append, List.nil_append, List.append_nil, List.drop_nil, List.take_nil, Nat.reduceAdd, Nat.reduceLeDiff, Nat.zero_add, Nat.add_zero, ↓reduceIte, Bool.not_true, Bool.not_false, decide_true, decide_false, eq_self, bne_self_eq_false, List.getElem?_cons_zero, List.getElem?_cons_succ, decide_eq_true_eq, Bool.false_eq_true, Bool.true_eq_false, reduceCtorEq, Nat.le_refl, w.len, hlt, w.idx hi, v.idx hi', w.load hi, v.load hi', Request.len, Request.tak, eqRequest_run hL, wrapS i (by omega)]
      rw [List.getElem?_eq_getElem hi, List.getElem?_eq_getElem hi']
      (repeat' ((first | (rw [gF_if]; split) | (rw [condC_if]; split) | (rw [pickR_if]; split)) <;> (rename_i hh; (try simp only [Bool.not_eq_true, decide_eq_true_eq] at hh); simp only [hh, run0, run1, run2, run3, run4, noSlot, ownS, ownK, memN, RO.dst, lk, drop, forget, number, Nat.reduceBEq, cut?, splice?, builds, List.length_cons, List.length_nil, List.drop_succ_cons, List.drop_zero, List.take_succ_cons, List.take_zero, List.cons_append, List.nil_append, List.append_nil, List.drop_nil, List.take_nil, Nat.reduceAdd, Nat.reduceLeDiff, Nat.zero_add, Nat.add_zero, ↓reduceIte, Bool.not_true, Bool.not_false, decide_true, decide_false, eq_self, bne_self_eq_false, List.getElem?_cons_zero, List.getElem?_cons_succ, decide_eq_true_eq, Bool.false_eq_true, Bool.true_eq_false, reduceCtorEq, Nat.le_refl, wrapS i (by omega)])))
      · exact .inr ⟨by simp_all, _, rfl, rfl, rfl⟩
      · exact .inl ⟨by simp_all, rfl⟩
    rw [all_same he] at key
    rcases key with ⟨k1, k2⟩ | ⟨k1, s, k2, k3, k4⟩
    · simp only [show ((0 : Nat) : Int) = 0 from rfl] at k2
      rw [k2, loop_run]
      have hlt : ¬ (xs.length : Int) < xs.length := by omega
      simp only [r48L0, run0, run1, run2, run3, run4, noSlot, ownS, ownK, memN, RO.dst, lk, drop, forget, number, Nat.reduceBEq, cut?, splice?, builds, List.length_cons, List.length_nil, List.drop_succ_cons, List.drop_zero, List.take_succ_cons, List.take_zero, List.cons_append, List.nil_append, List.append_nil, List.drop_nil, List.take_nil, Nat.reduceAdd, Nat.reduceLeDiff, Nat.zero_add, Nat.add_zero, ↓reduceIte, Bool.not_true, Bool.not_false, decide_true, decide_false, eq_self, bne_self_eq_false, List.getElem?_cons_zero, List.getElem?_cons_succ, decide_eq_true_eq, Bool.false_eq_true, Bool.true_eq_false, reduceCtorEq, Nat.le_refl, w.len, hlt, k1]
    · simp only [show ((0 : Nat) : Int) = 0 from rfl] at k2
      rw [k2]
      simp only [run0, run1, run2, run3, run4, noSlot, ownS, ownK, memN, RO.dst, lk, drop, forget, number, Nat.reduceBEq, cut?, splice?, builds, List.length_cons, List.length_nil, List.drop_succ_cons, List.drop_zero, List.take_succ_cons, List.take_zero, List.cons_append, List.nil_append, List.append_nil, List.drop_nil, List.take_nil, Nat.reduceAdd, Nat.reduceLeDiff, Nat.zero_add, Nat.add_zero, ↓reduceIte, Bool.not_true, Bool.not_false, decide_true, decide_false, eq_self, bne_self_eq_false, List.getElem?_cons_zero, List.getElem?_cons_succ, decide_eq_true_eq, Bool.false_eq_true, Bool.true_eq_false, reduceCtorEq, Nat.le_refl, k3, k4, k1]
/-- What is written to mark one. -/
def Request.mk_ (k : Int) : Request := ⟨k, k + 1, k + 1 + 1, k + 1 + 1 + 1, k + 1 + 1 + 1 + 1⟩
def Request.marks (n : Nat) (k : Int) : List Request := (List.range n).map fun i : Nat => Request.mk_ (k + 5 * (i : Int))
theorem Request.marks_len (n : Nat) (k : Int) : (Request.marks n k).length = n := by simp [Request.marks]
set_option maxHeartbeats 1000000 in
theorem markRequestS_run (hL : Has F tLRequest) (w : SlR 3 (Fl Request.enc) h x xs fp) (hlo : ∀ id, id ∈ fp → h.floor ≤ id) (k : Int) (h1 : 0 ≤ k) (h2 : k + 5 * xs.length ≤ 9200000000000000000) :
    ∃ h', call F Z 49 [.c x, .c (.int .i64 k)] h = some (.c (.int .i64 (k + 5 * xs.length)), h') ∧ Mk h h' fp ∧ SlR 3 (Fl Request.enc) h' x (Request.marks xs.length k) fp := by
  have hle := w.le2
  have hlm := Request.marks_len xs.length k
  rw [call_run F Z (hL.lk (g := 49) rfl) _ _ rfl]
  simp only [run0, run1, run2, run3, run4, noSlot, ownS, ownK, memN, RO.dst, lk, drop, forget, number, Nat.reduceBEq, cut?, splice?, builds, List.length_cons, List.length_nil, List.drop_succ_cons, List.drop_zero, List.take_succ_cons, List.take_zero, List.cons_append, List.nil_append, List.append_nil, List.drop_nil, List.take_nil, Nat.reduceAdd, Nat.reduceLeDiff, Nat.zero_add, Nat.add_zero, ↓reduceIte, Bool.not_true, Bool.not_false, decide_true, decide_false, eq_self, bne_self_eq_false, List.getElem?_cons_zero, List.getElem?_cons_succ, decide_eq_true_eq, Bool.false_eq_true, Bool.true_eq_false, reduceCtorEq, Nat.le_refl]
  rcases w.flat with ⟨rfl, rfl, rfl⟩ | ⟨hx, hg, hn, rfl⟩
  · rw [loop_run]
    simp only [r49L0, run0, run1, run2, run3, run4, noSlot, ownS, ownK, memN, RO.dst, lk, drop, forget, number, Nat.reduceBEq, cut?, splice?, builds, List.length_cons, List.length_nil, List.drop_succ_cons, List.drop_zero, List.take_succ_cons, List.take_zero, List.cons_append, List.nil_append, List.append_nil, List.drop_nil, List.take_nil, Nat.reduceAdd, Nat.reduceLeDiff, Nat.zero_add, Nat.add_zero, ↓reduceIte, Bool.not_true, Bool.not_false, decide_true, decide_false, eq_self, bne_self_eq_false, List.getElem?_cons_zero, List.getElem?_cons_succ, decide_eq_true_eq, Bool.false_eq_true, Bool.true_eq_false, reduceCtorEq, Nat.le_refl, show ¬ ((0 : Int) < 0) from by omega]
    exact ⟨h, by simp, Mk.refl _ _, by simpa [Request.marks] using w⟩
  · have hfl : h.floor ≤ x.sid := hlo _ (by simp)
    have key : loop F Z [0, 1, 5] r49L0 ⟨[(0, .c x), (1, .c (.int .i64 (k + 5 * (0 : Nat)))), (5, .c (.int .i64 (0 : Nat)))], [], [], h.put x.sid (mixR Request.enc (Request.marks xs.length k) xs 0)⟩ = loop F Z [0, 1, 5] r49L0 ⟨[(0, .c x), (1, .c (.int .i64 (k + 5 * (xs.length : Nat)))), (5, .c (.int .i64 (xs.length : Nat)))], [], [], h.put x.sid (mixR Request.enc (Request.marks xs.length k) xs xs.length)⟩ :=
      loop_goesF xs.length (fun i => ⟨[(0, .c x), (1, .c (.int .i64 (k + 5 * (i : Nat)))), (5, .c (.int .i64 (i : Nat)))], [], [], h.put x.sid (mixR Request.enc (Request.marks xs.length k) xs i)⟩) fun i hi => by
        have hlt : (i : Int) < xs.length := by omega
        have hi2 : i < (mixR Request.enc (Request.marks xs.length k) xs i).length := by rw [mixR_len _ hlm]; exact hi
        have hms : (Request.marks xs.length k)[i]'(by omega) = Request.mk_ (k + 5 * i) := by simp [Request.marks]
        have hset := mixR_set Request.enc hlm hi
        rw [hms] at hset
        have hput := storeP_put (h := h) hfl hi2
        rw [← mixR_cur Request.enc hlm hi, ← hset, loop_run]
        simp (disch := omega) only [r49L0, run0, run1, run2, run3, run4, noSlot, ownS, ownK, memN, RO.dst, lk, drop, forget, number, Nat.reduceBEq, cut?, splice?, builds, List.length_cons, List.length_nil, List.drop_succ_cons, List.drop_zero, List.take_succ_cons, List.take_zero, List.cons_append, List.nil_append, List.append_nil, List.drop_nil, List.take_nil, Nat.reduceAdd, Nat.reduceLeDiff, Nat.zero_add, Nat.add_zero, ↓reduceIte, Bool.not_true, Bool.not_false, decide_true, decide_false, eq_self, bne_self_eq_false, List.getElem?_cons_zero, List.getElem?_cons_succ, decide_eq_true_eq, Bool.false_eq_true, Bool.true_eq_false, reduceCtorEq, Nat.le_refl, w.len, hlt, w.idx hi, hput, putM_s, wrapI1, wrapU1, Request.enc, Int.reduceEq, Request.mk_]
        rw [show k + 5 * ((i : Nat) : Int) + 1 + 1 + 1 + 1 + 1 = k + 5 * ((i + 1 : Nat) : Int) from by omega, show ((i : Nat) : Int) + 1 = ((i + 1 : Nat) : Int) from rfl]
    rw [mixR_0, put_same hg, mixR_n _ hlm] at key
    simp only [show ((0 : Nat) : Int) = 0 from rfl, Int.mul_zero, Int.add_zero] at key
    rw [key, loop_run]
    have hlt : ¬ (xs.length : Int) < xs.length := by omega
    simp only [r49L0, run0, run1, run2, run3, run4, noSlot, ownS, ownK, memN, RO.dst, lk, drop, forget, number, Nat.reduceBEq, cut?, splice?, builds, List.length_cons, List.length_nil, List.drop_succ_cons, List.drop_zero, List.take_succ_cons, List.take_zero, List.cons_append, List.nil_append, List.append_nil, List.drop_nil, List.take_nil, Nat.reduceAdd, Nat.reduceLeDiff, Nat.zero_add, Nat.add_zero, ↓reduceIte, Bool.not_true, Bool.not_false, decide_true, decide_false, eq_self, bne_self_eq_false, List.getElem?_cons_zero, List.getElem?_cons_succ, decide_eq_true_eq, Bool.false_eq_true, Bool.true_eq_false, reduceCtorEq, Nat.le_refl, w.len, hlt]
    refine ⟨_, rfl, Mk.put _ _ _, ?_⟩
    have := SlR.ofFlat (tag := 3) (h := h.put x.sid ((Request.marks xs.length k).map Request.enc)) (enc := Request.enc) (xs := Request.marks xs.length k) (id := x.sid) (by rw [hlm]; exact w.le) (by simp [Heap.put]) hn
    rw [hlm, ← hx] at this
    exact this
set_option maxHeartbeats 1000000 in
theorem heldRequestS_run (hL : Has F tLRequest) {n : Nat} {k : Int} (w : SlR 3 (Fl Request.enc) h x (Request.marks n k) fp) (h1 : 0 ≤ k) (h2 : k + 5 * n ≤ 9200000000000000000) :
    call F Z 50 [.c x, .c (.int .i64 k)] h = some (.c (.int .i64 (k + 5 * n)), h) := by
  have hle := w.le2
  have hwl := w.len
  rw [Request.marks_len] at hle hwl
  rw [call_run F Z (hL.lk (g := 50) rfl) _ _ rfl]
  simp only [run0, run1, run2, run3, run4, noSlot, ownS, ownK, memN, RO.dst, lk, drop, forget, number, Nat.reduceBEq, cut?, splice?, builds, List.length_cons, List.length_nil, List.drop_succ_cons, List.drop_zero, List.take_succ_cons, List.take_zero, List.cons_append, List.nil_append, List.append_nil, List.drop_nil, List.take_nil, Nat.reduceAdd, Nat.reduceLeDiff, Nat.zero_add, Nat.add_zero, ↓reduceIte, Bool.not_true, Bool.not_false, decide_true, decide_false, eq_self, bne_self_eq_false, List.getElem?_cons_zero, List.getElem?_cons_succ, decide_eq_true_eq, Bool.false_eq_true, Bool.true_eq_false, reduceCtorEq, Nat.le_refl]
  have key : loop F Z [0, 1, 5] r50L0 ⟨[(0, .c x), (1, .c (.int .i64 (k + 5 * (0 : Nat)))), (5, .c (.int .i64 (0 : Nat)))], [], [], h⟩ = loop F Z [0, 1, 5] r50L0 ⟨[(0, .c x), (1, .c (.int .i64 (k + 5 * (n : Nat)))), (5, .c (.int .i64 (n : Nat)))], [], [], h⟩ :=
    loop_goesF n (fun i => ⟨[(0, .c x), (1, .c (.int .i64 (k + 5 * (i : Nat)))), (5, .c (.int .i64 (i : Nat)))], [], [], h⟩) fun i hi0 => by
      have hi : i < (Request.marks n k).length := by rw [Request.marks_len]; exact hi0
      have hlt : (i : Int) < n := by omega
      have hms : (Request.marks n k)[i] = Request.mk_ (k + 5 * i) := by simp [Request.marks]
      have hld := w.load hi
      rw [hms] at hld
      rw [loop_run]
      simp (disch := omega) only [r50L0, run0, run1, run2, run3, run4, noSlot, ownS, ownK, memN, RO.dst, lk, drop, forget, number, Nat.reduceBEq, cut?, splice?, builds, List.length_cons, List.length_nil, List.drop_succ_cons, List.drop_zero, List.take_succ_cons, List.take_zero, List.cons_append, List.nil_append, List.append_nil, List.drop_nil, List.take_nil, Nat.reduceAdd, Nat.reduceLeDiff, Nat.zero_add, Nat.add_zero, ↓reduceIte, Bool.not_true, Bool.not_false, decide_true, decide_false, eq_self, bne_self_eq_false, List.getElem?_cons_zero, List.getElem?_cons_succ, decide_eq_true_eq, Bool.false_eq_true, Bool.true_eq_false, reduceCtorEq, Nat.le_refl, hwl, hlt, w.idx hi, hld, wrapI1, wrapU1, Request.enc, Request.mk_, Int.reduceEq]
      rw [show k + 5 * ((i : Nat) : Int) + 1 + 1 + 1 + 1 + 1 = k + 5 * ((i + 1 : Nat) : Int) from by omega, show ((i : Nat) : Int) + 1 = ((i + 1 : Nat) : Int) from rfl]
  simp only [show ((0 : Nat) : Int) = 0 from rfl, Int.mul_zero, Int.add_zero] at key
  rw [key, loop_run]
  have hlt : ¬ (n : Int) < n := by omega
  simp only [r50L0, run0, run1, run2, run3, run4, noSlot, ownS, ownK, memN, RO.dst, lk, drop, forget, number, Nat.reduceBEq, cut?, splice?, builds, List.length_cons, List.length_nil, List.drop_succ_cons, List.drop_zero, List.take_succ_cons, List.take_zero, List.cons_append, List.nil_append, List.append_nil, List.drop_nil, List.take_nil, Nat.reduceAdd, Nat.reduceLeDiff, Nat.zero_add, Nat.add_zero, ↓reduceIte, Bool.not_true, Bool.not_false, decide_true, decide_false, eq_self, bne_self_eq_false, List.getElem?_cons_zero, List.getElem?_cons_succ, decide_eq_true_eq, Bool.false_eq_true, Bool.true_eq_false, reduceCtorEq, Nat.le_refl, hwl, hlt]
end
end Go.Proofs.Ytlbagejkjkfkjaa.A
/- Slices that are built by appending: raw rows, made behind a heap. -/
namespace Go.Proofs.Ytlbagejkjkfkjaa.A
open Go
set_option linter.unusedSimpArgs false
set_option linter.unusedVariables false

/-- A cell shows rows that were made behind h0. -/
structure Acc (tag : Nat) (h0 h : Heap) (x : Cell) (rows : List (List Cell)) : Prop where
  on : On h0 h
  sh : ∃ fp, SlR tag (Fl fun r => r) h x rows fp ∧ Fre h0 fp
/-- What append answers, and the heap behind it. -/
def catX (tag : Nat) (h : Heap) (x : Cell) (n : Nat) : Cell := match x with
  | .sl _ _ _ m => .sl tag h.next 0 (m + n)
  | _ => if n = 0 then .nil else .sl tag h.next 0 n
def catH (h : Heap) (x : Cell) (new : List (List Cell)) : Heap := match x with
  | .sl _ id _ _ => (h.kill id).push (((h.get id).getD []) ++ new)
  | _ => if new.length = 0 then h else h.push new
theorem Fre.app {h h1 : Heap} {p q : List Nat} (f : Fre h p) (hl : ∀ id, id ∈ p → id < h1.next) (f1 : Fre h1 q) (hn : h.next ≤ h1.next) : Fre h (p ++ q) :=
  ⟨fun id hid => by
    rcases List.mem_append.1 hid with hid | hid
    · exact f.lo id hid
    · have := f1.lo id hid
      omega, List.nodup_append.2 ⟨f.nd, f1.nd, fun a ha b hb => by
        have := hl a ha
        have := f1.lo b hb
        omega⟩⟩
section
variable {tag : Nat} {h0 h : Heap} {x y : Cell} {rows new : List (List Cell)}
theorem Acc.nil (tag : Nat) (h : Heap) : Acc tag h h .nil [] := ⟨On.refl h, [], SlR.nil _ _ _, Fre.nil h⟩
theorem Acc.none (o : On h0 h) : Acc tag h0 h .nil [] := ⟨o, [], SlR.nil _ _ _, Fre.nil h0⟩
theorem Fre.at {h0 h : Heap} (hn : h0.next ≤ h.next) : Fre h0 [h.next] := ⟨fun id hid => by simp at hid; omega, by simp⟩
theorem Acc.lit (o : On h0 h) (rows : List (List Cell)) (hl : rows.length ≤ 140737488355328) : Acc tag h0 (h.push rows) (.sl tag h.next 0 rows.length) rows :=
  ⟨o.trans (On.push h rows), [h.next], SlR.ofFlat (enc := fun r => r) (by unfold maxLen; omega) (by rw [push_get]; simp) (by rw [push_next]; omega), Fre.at o.ext.1⟩
theorem Acc.lit0 (o : On h0 h) : Acc tag h0 (h.push []) (.sl tag h.next 0 0) [] := Acc.lit o [] (by simp)
theorem Acc.push (a : Acc tag h0 h x rows) (r : List (List Cell)) : Acc tag h0 (h.push r) x rows := by
  obtain ⟨o, fp, w, f⟩ := a
  exact ⟨o.trans (On.push h r), fp, w.on (Fl.ok _) (On.push h r), f⟩
theorem Acc.go {h' : Heap} (a : Acc tag h0 h x rows) (o' : On h h') : Acc tag h0 h' x rows := by
  obtain ⟨o, fp, w, f⟩ := a
  exact ⟨o.trans o', fp, w.on (Fl.ok _) o', f⟩
theorem Acc.cat_eq (a : Acc tag h0 h x rows) (hf : h0.floor ≤ h0.next) {bytes : Nat} (hy : A.isTag tag y = true) (hr : rowsOf h y = some new) (hb : (rows.length + new.length) * bytes ≤ 140737488355328) :
    appF h tag bytes x y = some (catX tag h x new.length, catH h x new) := by
  obtain ⟨o, fp, w, f⟩ := a
  rw [appF, if_pos hy, hr]
  simp only [Option.bind_some]
  rcases w.flat with ⟨rfl, rfl, rfl⟩ | ⟨hx, hg, hn, rfl⟩
  · simp only [List.length_nil, Nat.zero_add] at hb
    simp only [catX, catH]
    split
    · rfl
    · simp [hb]
  · have hfl : h.floor ≤ x.sid := by rw [o.fl]; exact Nat.le_trans hf (f.lo _ (by simp))
    rw [hx]
    simp only [Cell.sid, catX, catH] at hg hfl hb ⊢
    simp only [hg, Option.bind_some, List.length_map]
    simp [hfl, hb]
theorem Acc.cat (a : Acc tag h0 h x rows) (hf : h0.floor ≤ h0.next) (hl : rows.length + new.length ≤ 140737488355328) : Acc tag h0 (catH h x new) (catX tag h x new.length) (rows ++ new) := by
  obtain ⟨o, fp, w, f⟩ := a
  rcases w.flat with ⟨rfl, rfl, rfl⟩ | ⟨hx, hg, hn, rfl⟩
  · simp only [catX, catH]
    split
    · rename_i h0'
      have : new = [] := List.eq_nil_of_length_eq_zero h0'
      subst this
      exact Acc.none o
    · simp only [List.nil_append]
      exact Acc.lit o new (by simp at hl; omega)
  · have hlo : h0.next ≤ x.sid := f.lo _ (by simp)
    have o1 : On h0 (h.kill x.sid) := ⟨⟨o.ext.1, fun id hid => by
      simp only [Heap.kill]
      rw [if_neg (by omega)]
      exact o.ext.2 id hid⟩, o.fl⟩
    rw [hx] at o1 ⊢
    simp only [Cell.sid, catX, catH] at hg o1 ⊢
    simp only [hg, Option.getD_some, List.map_id_fun', id]
    have := Acc.lit (tag := tag) o1 (rows ++ new) (by simpa using hl)
    rw [List.length_append] at this
    exact this
/-- One element, laid and appended. -/
theorem Acc.one_eq (a : Acc tag h0 h x rows) (hf : h0.floor ≤ h0.next) {bytes : Nat} (hb : (rows.length + 1) * bytes ≤ 140737488355328) (row : List Cell) :
    appF (h.push [row]) tag bytes x (.sl tag h.next 0 1) = some (catX tag (h.push [row]) x 1, catH (h.push [row]) x [row]) :=
  (a.push [row]).cat_eq (y := .sl tag h.next 0 1) (new := [row]) hf (by simp [A.isTag]) (by simp [rowsOf, push_get]) hb
theorem Acc.one (a : Acc tag h0 h x rows) (hf : h0.floor ≤ h0.next) (hl : rows.length + 1 ≤ 140737488355328) (row : List Cell) : Acc tag h0 (catH (h.push [row]) x [row]) (catX tag (h.push [row]) x 1) (rows ++ [row]) :=
  (a.push [row]).cat hf (new := [row]) hl
theorem SlR.ofRaw {α : Type} {enc : α → List Cell} {xs : List α} {fp : List Nat} (w : SlR tag (Fl fun r => r) h x (xs.map enc) fp) : SlR tag (Fl enc) h x xs fp := by
  have hl := w.le
  rw [List.length_map] at hl
  rcases w.flat with ⟨rfl, h2, rfl⟩ | ⟨hx, hg, hn, rfl⟩
  · have : xs = [] := List.map_eq_nil_iff.1 h2
    subst this
    exact SlR.nil _ _ _
  · rw [List.length_map] at hx
    rw [hx]
    exact SlR.ofFlat hl (by rw [hg]; simp) hn
theorem Acc.flat {α : Type} {enc : α → List Cell} {xs : List α} (a : Acc tag h0 h x (xs.map enc)) : On h0 h ∧ ∃ fp, SlR tag (Fl enc) h x xs fp ∧ Fre h0 fp := by
  obtain ⟨o, fp, w, f⟩ := a
  exact ⟨o, fp, w.ofRaw, f⟩
end
end Go.Proofs.Ytlbagejkjkfkjaa.A
/- What a transfer sends. -/
namespace Go.Proofs.Ytlbagejkjkfkjaa.A
open Go
set_option linter.unusedSimpArgs false
set_option linter.unusedVariables false
/-- What a right transfer sends to a side. -/
def Tx.side (t : Tx) (two : Bool) : List Request :=
  if t.phase = 0 then bif (bif two then t.yt else t.yf) then [] else [⟨0, bif two then 5 else 4, bif two then t.b else t.a, t.m, t.id⟩]
  else if t.phase = 1 then bif (bif two then t.at_ else t.af) then [] else [⟨0, 6, bif two then t.b else t.a, 0, t.id⟩]
  else if t.phase = 2 then bif (bif two then t.at_ else t.af) then [] else [⟨0, 7, bif two then t.b else t.a, 0, t.id⟩]
  else []
def Tx.sends (t : Tx) : List Request := bif t.ok then t.side false ++ t.side true else []
section
variable {F : Nat → Option RF} {Z : CallF} {h : Heap}
set_option maxHeartbeats 4000000 in
theorem TxSends_run (hI14 : Has F tI14) (hf : h.floor ≤ h.next) (id a b m phase : Int) (yf yt af at_ : Bool) (reason : Int) : ∃ y h', call F Z 47 [.agg [.int .i64 id, .int .u64 a, .int .u64 b, .int .u64 m, .int .i64 phase, .bool yf, .bool yt, .bool af, .bool at_, .int .i64 reason]] h = some (.c y, h') ∧ Acc 3 h h' y ((Tx.sends ⟨id, a, b, m, phase, yf, yt, af, at_, reason⟩).map Request.enc) := by
  rw [call_run F Z (hI14.lk (g := 47) rfl) _ _ rfl]
  have a0 := Acc.lit0 (tag := 3) (On.refl h)
  have e1 := a0.one_eq hf (bytes := 40) (by decide)
  have a1 := a0.one hf (by decide)
  have e2 := fun r => (a1 r).one_eq hf (bytes := 40) (by simp)
  have a2 := fun r => (a1 r).one hf (by simp)
  simp only [run0, run1, run2, run3, run4, noSlot, ownS, ownK, memN, RO.dst, lk, drop, forget, number, Nat.reduceBEq, cut?, splice?, builds, List.length_cons, List.length_nil, List.drop_succ_cons, List.drop_zero, List.take_succ_cons, List.take_zero, List.cons_append, List.nil_append, List.append_nil, List.drop_nil, List.take_nil, Nat.reduceAdd, Nat.reduceLeDiff, Nat.zero_add, Nat.add_zero, ↓reduceIte, Bool.not_true, Bool.not_false, decide_true, decide_false, eq_self, bne_self_eq_false, List.getElem?_cons_zero, List.getElem?_cons_succ, decide_eq_true_eq, Bool.false_eq_true, Bool.true_eq_false, reduceCtorEq, Nat.le_refl, isTx_run hI14, List.replicate_zero]
  (repeat' ((first | (rw [gF_if]; split) | (rw [condC_if]; split) | (rw [pickR_if]; split)) <;> (rename_i hh; (try simp only [Bool.not_eq_true, decide_eq_true_eq] at hh); simp only [hh, run0, run1, run2, run3, run4, noSlot, ownS, ownK, memN, RO.dst, lk, drop, forget, number, Nat.reduceBEq, cut?, splice?, builds, List.length_cons, List.length_nil, List.drop_succ_cons, List.drop_zero, List.take_succ_cons, List.take_zero, List.cons_append, List.nil_append, List.append_nil, List.drop_nil, List.take_nil, Nat.reduceAdd, Nat.reduceLeDiff, Nat.zero_add, Nat.add_zero, ↓reduceIte, Bool.not_true, Bool.not_false, decide_true, decide_false, eq_self, bne_self_eq_false, List.getElem?_cons_zero, List.getElem?_cons_succ, decide_eq_true_eq, Bool.false_eq_true, Bool.true_eq_false, reduceCtorEq, Nat.le_refl, isTx_run hI14, List.replicate_zero, List.replicate_succ, e1, e2, fills, and_self, Nat.zero_lt_one, List.set_cons_zero])))
  all_goals (refine ⟨_, _, rfl, ?_⟩; clear e1 e2; simp_all [Tx.sends, Tx.side, Request.enc])
  all_goals exact Acc.nil 3 h
end
end Go.Proofs.Ytlbagejkjkfkjaa.A
/- What a transfer sends, by the reference. -/
namespace Go.Proofs.Ytlbagejkjkfkjaa.A
open Go
set_option linter.unusedSimpArgs false
set_option linter.unusedVariables false
section
variable {F : Nat → Option RF} {Z : CallF} {h : Heap}
set_option maxHeartbeats 4000000 in
theorem sTxSends_turn {h0 : Heap} {x : Cell} {rows : List (List Cell)} (hf : h0.floor ≤ h0.next) (ac : Acc 3 h0 h x rows) (hl : rows.length ≤ 2) (id a b m phase : Int) (yf yt af at_ : Bool) (reason : Int) (two : Bool) :
    ∃ x' h', Acc 3 h0 h' x' (rows ++ (Tx.side ⟨id, a, b, m, phase, yf, yt, af, at_, reason⟩ two).map Request.enc) ∧ loop F Z [1, 3, 4] r46L0 ⟨[(3, .c x), (4, .c (.int .i64 (bif two then 1 else 0)))], [(1, 1, 0)], [(1, [.int .i64 id, .int .u64 a, .int .u64 b, .int .u64 m, .int .i64 phase, .bool yf, .bool yt, .bool af, .bool at_, .int .i64 reason])], h⟩ = loop F Z [1, 3, 4] r46L0 ⟨[(3, .c x'), (4, .c (.int .i64 (bif two then 2 else 1)))], [(1, 1, 0)], [(1, [.int .i64 id, .int .u64 a, .int .u64 b, .int .u64 m, .int .i64 phase, .bool yf, .bool yt, .bool af, .bool at_, .int .i64 reason])], h'⟩ := by
  have e1 := ac.one_eq hf (bytes := 40) (by omega)
  have a1 := ac.one hf (by omega)
  rw [loop_run]
  conv in (codeF _ _ r46L0 _) => unfold r46L0
  have w1 : IntKind.i64.wrap 1 = 1 := wrapI _ (by omega) (by omega)
  have w2 : IntKind.i64.wrap 2 = 2 := wrapI _ (by omega) (by omega)
  have w3 : IntKind.i64.wrap 4 = 4 := wrapI _ (by omega) (by omega)
  have w4 : IntKind.i64.wrap 5 = 5 := wrapI _ (by omega) (by omega)
  have t0 : (0 : Int) < 2 := by omega
  have t1 : (1 : Int) < 2 := by omega
  cases two
  · simp only [run0, run1, run2, run3, run4, noSlot, ownS, ownK, memN, RO.dst, lk, drop, forget, number, Nat.reduceBEq, cut?, splice?, builds, List.length_cons, List.length_nil, List.drop_succ_cons, List.drop_zero, List.take_succ_cons, List.take_zero, List.cons_append, List.nil_append, List.append_nil, List.drop_nil, List.take_nil, Nat.reduceAdd, Nat.reduceLeDiff, Nat.zero_add, Nat.add_zero, ↓reduceIte, Bool.not_true, Bool.not_false, decide_true, decide_false, eq_self, bne_self_eq_false, List.getElem?_cons_zero, List.getElem?_cons_succ, decide_eq_true_eq, Bool.false_eq_true, Bool.true_eq_false, reduceCtorEq, Nat.le_refl, t0, Int.reduceBEq, Int.reduceAdd, w1]
    (repeat' ((first | (rw [gF_if]; split) | (rw [condC_if]; split) | (rw [pickR_if]; split)) <;> (rename_i hh; (try simp only [Bool.not_eq_true, decide_eq_true_eq] at hh); simp only [hh, run0, run1, run2, run3, run4, noSlot, ownS, ownK, memN, RO.dst, lk, drop, forget, number, Nat.reduceBEq, cut?, splice?, builds, List.length_cons, List.length_nil, List.drop_succ_cons, List.drop_zero, List.take_succ_cons, List.take_zero, List.cons_append, List.nil_append, List.append_nil, List.drop_nil, List.take_nil, Nat.reduceAdd, Nat.reduceLeDiff, Nat.zero_add, Nat.add_zero, ↓reduceIte, Bool.not_true, Bool.not_false, decide_true, decide_false, eq_self, bne_self_eq_false, List.getElem?_cons_zero, List.getElem?_cons_succ, decide_eq_true_eq, Bool.false_eq_true, Bool.true_eq_false, reduceCtorEq, Nat.le_refl, List.replicate_zero, List.replicate_succ, e1, fills, and_self, Nat.zero_lt_one, List.set_cons_zero, Int.reduceAdd, w1, w3, Int.reduceBEq])))
    all_goals (refine ⟨_, _, ?_, rfl⟩; clear e1; simp_all [Tx.side, Request.enc])
  · simp only [run0, run1, run2, run3, run4, noSlot, ownS, ownK, memN, RO.dst, lk, drop, forget, number, Nat.reduceBEq, cut?, splice?, builds, List.length_cons, List.length_nil, List.drop_succ_cons, List.drop_zero, List.take_succ_cons, List.take_zero, List.cons_append, List.nil_append, List.append_nil, List.drop_nil, List.take_nil, Nat.reduceAdd, Nat.reduceLeDiff, Nat.zero_add, Nat.add_zero, ↓reduceIte, Bool.not_true, Bool.not_false, decide_true, decide_false, eq_self, bne_self_eq_false, List.getElem?_cons_zero, List.getElem?_cons_succ, decide_eq_true_eq, Bool.false_eq_true, Bool.true_eq_false, reduceCtorEq, Nat.le_refl, t1, Int.reduceBEq, Int.reduceAdd, w2]
    (repeat' ((first | (rw [gF_if]; split) | (rw [condC_if]; split) | (rw [pickR_if]; split)) <;> (rename_i hh; (try simp only [Bool.not_eq_true, decide_eq_true_eq] at hh); simp only [hh, run0, run1, run2, run3, run4, noSlot, ownS, ownK, memN, RO.dst, lk, drop, forget, number, Nat.reduceBEq, cut?, splice?, builds, List.length_cons, List.length_nil, List.drop_succ_cons, List.drop_zero, List.take_succ_cons, List.take_zero, List.cons_append, List.nil_append, List.append_nil, List.drop_nil, List.take_nil, Nat.reduceAdd, Nat.reduceLeDiff, Nat.zero_add, Nat.add_zero, ↓reduceIte, Bool.not_true, Bool.not_false, decide_true, decide_false, eq_self, bne_self_eq_false, List.getElem?_cons_zero, List.getElem?_cons_succ, decide_eq_true_eq, Bool.false_eq_true, Bool.true_eq_false, reduceCtorEq, Nat.le_refl, List.replicate_zero, List.replicate_succ, e1, fills, and_self, Nat.zero_lt_one, List.set_cons_zero, Int.reduceAdd, w2, w4, Int.reduceBEq])))
    all_goals (refine ⟨_, _, ?_, rfl⟩; clear e1; simp_all [Tx.side, Request.enc])
theorem Tx.side_len (t : Tx) (two : Bool) : (t.side two).length ≤ 1 := by
  unfold Tx.side
  (repeat' split) <;> (try cases (bif two then t.yt else t.yf)) <;> (try cases (bif two then t.at_ else t.af)) <;> simp
theorem sTxSends_run (hS14 : Has F tS14) (hS : Has F tS01d) (hf : h.floor ≤ h.next) (id a b m phase : Int) (yf yt af at_ : Bool) (reason : Int) : ∃ y h', call F Z 46 [.agg [.int .i64 id, .int .u64 a, .int .u64 b, .int .u64 m, .int .i64 phase, .bool yf, .bool yt, .bool af, .bool at_, .int .i64 reason]] h = some (.c y, h') ∧ Acc 3 h h' y ((Tx.sends ⟨id, a, b, m, phase, yf, yt, af, at_, reason⟩).map Request.enc) := by
  rw [call_run F Z (hS14.lk (g := 46) rfl) _ _ rfl]
  have a0 := Acc.lit0 (tag := 3) (On.refl h)
  obtain ⟨x1, h1, a1, l1⟩ := sTxSends_turn (F := F) (Z := Z) hf a0 (by simp) id a b m phase yf yt af at_ reason false
  have s1 := Tx.side_len ⟨id, a, b, m, phase, yf, yt, af, at_, reason⟩ false
  obtain ⟨x2, h2, a2, l2⟩ := sTxSends_turn (F := F) (Z := Z) hf a1 (by simp; omega) id a b m phase yf yt af at_ reason true
  simp only [cond_false, cond_true] at l1 l2
  simp only [run0, run1, run2, run3, run4, noSlot, ownS, ownK, memN, RO.dst, lk, drop, forget, number, Nat.reduceBEq, cut?, splice?, builds, List.length_cons, List.length_nil, List.drop_succ_cons, List.drop_zero, List.take_succ_cons, List.take_zero, List.cons_append, List.nil_append, List.append_nil, List.drop_nil, List.take_nil, Nat.reduceAdd, Nat.reduceLeDiff, Nat.zero_add, Nat.add_zero, ↓reduceIte, Bool.not_true, Bool.not_false, decide_true, decide_false, eq_self, bne_self_eq_false, List.getElem?_cons_zero, List.getElem?_cons_succ, decide_eq_true_eq, Bool.false_eq_true, Bool.true_eq_false, reduceCtorEq, Nat.le_refl, sTxOk_run hS hS14, List.replicate_zero, fills]
  (repeat' ((first | (rw [gF_if]; split) | (rw [condC_if]; split) | (rw [pickR_if]; split)) <;> (rename_i hh; (try simp only [Bool.not_eq_true, decide_eq_true_eq] at hh); simp only [hh, run0, run1, run2, run3, run4, noSlot, ownS, ownK, memN, RO.dst, lk, drop, forget, number, Nat.reduceBEq, cut?, splice?, builds, List.length_cons, List.length_nil, List.drop_succ_cons, List.drop_zero, List.take_succ_cons, List.take_zero, List.cons_append, List.nil_append, List.append_nil, List.drop_nil, List.take_nil, Nat.reduceAdd, Nat.reduceLeDiff, Nat.zero_add, Nat.add_zero, ↓reduceIte, Bool.not_true, Bool.not_false, decide_true, decide_false, eq_self, bne_self_eq_false, List.getElem?_cons_zero, List.getElem?_cons_succ, decide_eq_true_eq, Bool.false_eq_true, Bool.true_eq_false, reduceCtorEq, Nat.le_refl, sTxOk_run hS hS14, List.replicate_zero, fills, l1, l2])))
  all_goals have nn : Acc 3 h (h.push []) .nil [] := Acc.none (On.push _ _)
  all_goals have t2 : ¬ (2 : Int) < 2 := by omega
  all_goals first
    | (rw [loop_run]
       conv in (codeF _ _ r46L0 _) => unfold r46L0
       simp only [run0, run1, run2, run3, run4, noSlot, ownS, ownK, memN, RO.dst, lk, drop, forget, number, Nat.reduceBEq, cut?, splice?, builds, List.length_cons, List.length_nil, List.drop_succ_cons, List.drop_zero, List.take_succ_cons, List.take_zero, List.cons_append, List.nil_append, List.append_nil, List.drop_nil, List.take_nil, Nat.reduceAdd, Nat.reduceLeDiff, Nat.zero_add, Nat.add_zero, ↓reduceIte, Bool.not_true, Bool.not_false, decide_true, decide_false, eq_self, bne_self_eq_false, List.getElem?_cons_zero, List.getElem?_cons_succ, decide_eq_true_eq, Bool.false_eq_true, Bool.true_eq_false, reduceCtorEq, Nat.le_refl, t2]
       exact ⟨_, _, rfl, by simp_all [Tx.sends]⟩)
    | (refine ⟨_, _, rfl, ?_⟩; clear l1 l2 a1 a2 s1; simp_all [Tx.sends]; done)
    | (refine ⟨_, _, rfl, ?_⟩; clear l1 l2 a1 a2 s1; simp_all [Tx.sends, Tx.side]; done)
end
end Go.Proofs.Ytlbagejkjkfkjaa.A
/- The data of a TxEvent, and its cells. -/
namespace Go.Proofs.Ytlbagejkjkfkjaa.A
open Go
set_option linter.unusedSimpArgs false
set_option linter.unusedVariables false
structure TxEvent where
  kind : Int
  side : Int
  code : Int
  deriving DecidableEq
namespace TxEvent
def enc (t : TxEvent) : List Cell := [.int .i64 t.kind, .int .i64 t.side, .int .i64 t.code]
theorem len (t : TxEvent) : t.enc.length = 3 := rfl
theorem tak (t : TxEvent) : t.enc.take 3 = t.enc := rfl
def none_ : TxEvent := ⟨0, 0, 0⟩
/-- The numbers are those of the machine. -/
structure Ok (t : TxEvent) : Prop where
  kind : -9223372036854775808 ≤ t.kind ∧ t.kind ≤ 9223372036854775807
  side : -9223372036854775808 ≤ t.side ∧ t.side ≤ 9223372036854775807
  code : -9223372036854775808 ≤ t.code ∧ t.code ≤ 9223372036854775807
end TxEvent
theorem Wf.isTxEvent {h : Heap} {n : Nat} {cs : List Cell} (w : Wf h (n + 2) shTxEvent cs) : ∃ t : TxEvent, cs = t.enc ∧ t.Ok := by
  obtain ⟨_, _, rfl, _, ⟨kind0, rfl, h0⟩, _, _, rfl, _, ⟨side0, rfl, h1⟩, _, _, rfl, _, ⟨code0, rfl, h2⟩, rfl⟩ := w
  exact ⟨⟨kind0, side0, code0⟩, rfl, ⟨wfI h0, wfI h1, wfI h2⟩⟩
theorem Wf.isTxEventS {h : Heap} {n : Nat} {x : Cell} (w : Wf h (n + 3) shTxEventS [x]) : ∃ xs fp, SlR 6 (Fl TxEvent.enc) h x xs fp ∧ ∀ t, t ∈ xs → t.Ok :=
  SlR.ofWf (fun r hr => by obtain ⟨t, rfl, ht⟩ := Wf.isTxEvent hr.2; exact ⟨t, [], ⟨rfl, rfl⟩, ht⟩) w
theorem Wf.isTxEventS' {h : Heap} {n : Nat} {a : List Cell} (w : Wf h (n + 3) shTxEventS a) : ∃ x xs fp, a = [x] ∧ SlR 6 (Fl TxEvent.enc) h x xs fp ∧ ∀ t, t ∈ xs → t.Ok := by
  have hx : ∃ x, a = [x] := by rcases w with w | ⟨_, _, w, _⟩ <;> exact ⟨_, w⟩
  obtain ⟨x, rfl⟩ := hx
  obtain ⟨xs, fp, v, ok⟩ := Wf.isTxEventS w
  exact ⟨x, xs, fp, rfl, v, ok⟩
end Go.Proofs.Ytlbagejkjkfkjaa.A
/- The compact code of some functions: laws.szTxEventS, laws.toTxEventS, laws.eqTxEventS, laws.markTxEventS, laws.toTxEvent, laws.eqTxEvent. -/
namespace Go.Proofs.Ytlbagejkjkfkjaa.A
open Go
/-- laws.szTxEventS -/
def r57 : RF :=
 ⟨2, [.tmp 4],
 .seq (.reg [⟨none, .mov 4 (.k (.int .i64 0))⟩])
 (.seq (.reg [⟨none, .mov 5 (.t 1)⟩,
  ⟨none, .mov 6 (.t 0)⟩,
  ⟨none, .len 7 (.t 6)⟩,
  ⟨none, .bin 8 .sub (.t 5) (.t 7)⟩,
  ⟨none, .mov 1 (.t 8)⟩])
 (.seq (.seq (.reg [⟨none, .mov 9 (.t 1)⟩,
   ⟨none, .bin 10 .lss (.t 9) (.k (.int .i64 0))⟩])
  (.cond (.t 10)
  (.seq (.reg [⟨none, .mov 4 (.k (.int .i64 (-1)))⟩])
   (.ret))
  (.skip)))
 (.seq (.reg [⟨none, .mov 11 (.t 1)⟩,
  ⟨none, .mov 4 (.t 11)⟩])
 (.ret))))⟩
/-- A loop of laws.toTxEventS. -/
def r58L0 : RC :=
 .seq (.seq (.reg [⟨none, .mov 8 (.t 4)⟩,
      ⟨none, .mov 9 (.t 0)⟩,
      ⟨none, .len 10 (.t 9)⟩,
      ⟨none, .bin 11 .lss (.t 8) (.t 10)⟩])
     (.cond (.t 11)
     (.skip)
     (.exit 0)))
    (.seq (.block 1 (.reg [⟨none, .mov 14 (.t 3)⟩,
      ⟨none, .mov 15 (.t 4)⟩,
      ⟨none, .mov 16 (.t 0)⟩,
      ⟨none, .mov 17 (.t 4)⟩,
      ⟨none, .idx 18 6 (.t 16) (.t 17)⟩,
      ⟨none, .load 19 18 3 true⟩,
      ⟨none, .call (some 20) 100 [(.t 19)] false⟩,
      ⟨none, .idx 21 5 (.t 14) (.t 15)⟩,
      ⟨none, .store 21 3 (.t 20)⟩]))
    (.reg [⟨none, .mov 12 (.t 4)⟩,
    ⟨none, .bin 13 .add (.t 12) (.k (.int .i64 1))⟩,
    ⟨none, .mov 4 (.t 13)⟩]))
/-- laws.toTxEventS -/
def r58 : RF :=
 ⟨1, [.tmp 2],
 .seq (.reg [⟨none, .mov 2 (.k (.nil))⟩])
 (.seq (.reg [⟨none, .mov 5 (.t 0)⟩,
  ⟨none, .len 6 (.t 5)⟩,
  ⟨none, .mks 7 5 24 [.int .i64 0, .int .i64 0, .int .i64 0] (.t 6) (.t 6)⟩,
  ⟨none, .mov 3 (.t 7)⟩])
 (.seq (.seq (.reg [⟨none, .mov 4 (.k (.int .i64 0))⟩])
  (.block 0 (.loop [0, 3, 4]
   r58L0)))
 (.seq (.reg [⟨none, .mov 22 (.t 3)⟩,
  ⟨none, .mov 2 (.t 22)⟩])
 (.ret))))⟩
/-- A loop of laws.eqTxEventS. -/
def r62L0 : RC :=
 .seq (.seq (.reg [⟨none, .mov 11 (.t 5)⟩,
      ⟨none, .mov 12 (.t 0)⟩,
      ⟨none, .len 13 (.t 12)⟩,
      ⟨none, .bin 14 .lss (.t 11) (.t 13)⟩])
     (.cond (.t 14)
     (.skip)
     (.exit 0)))
    (.seq (.block 1 (.seq (.reg [⟨none, .chk []⟩,
       ⟨none, .mov 17 (.t 0)⟩,
       ⟨none, .mov 18 (.t 5)⟩,
       ⟨none, .idx 19 5 (.t 17) (.t 18)⟩,
       ⟨none, .mov 21 (.t 1)⟩,
       ⟨none, .mov 22 (.t 5)⟩,
       ⟨none, .idx 23 5 (.t 21) (.t 22)⟩,
       ⟨none, .load 20 19 3 true⟩,
       ⟨none, .load 24 23 3 true⟩,
       ⟨none, .call (some 25) 101 [(.t 20), (.t 24)] true⟩,
       ⟨none, .not 26 (.t 25)⟩])
      (.cond (.t 26)
      (.seq (.reg [⟨none, .mov 4 (.k (.bool false))⟩])
       (.ret))
      (.skip))))
    (.reg [⟨none, .mov 15 (.t 5)⟩,
    ⟨none, .bin 16 .add (.t 15) (.k (.int .i64 1))⟩,
    ⟨none, .mov 5 (.t 16)⟩]))
/-- laws.eqTxEventS -/
def r62 : RF :=
 ⟨2, [.tmp 4],
 .seq (.reg [⟨none, .mov 4 (.k (.bool false))⟩])
 (.seq (.seq (.reg [⟨none, .mov 6 (.t 0)⟩,
   ⟨none, .len 7 (.t 6)⟩,
   ⟨none, .mov 8 (.t 1)⟩,
   ⟨none, .len 9 (.t 8)⟩,
   ⟨none, .bin 10 .neq (.t 7) (.t 9)⟩])
  (.cond (.t 10)
  (.seq (.reg [⟨none, .mov 4 (.k (.bool false))⟩])
   (.ret))
  (.skip)))
 (.seq (.seq (.reg [⟨none, .mov 5 (.k (.int .i64 0))⟩])
  (.block 0 (.loop [0, 1, 5]
   r62L0)))
 (.seq (.reg [⟨none, .mov 4 (.k (.bool true))⟩])
 (.ret))))⟩
/-- A loop of laws.markTxEventS. -/
def r63L0 : RC :=
 .seq (.seq (.reg [⟨none, .mov 6 (.t 5)⟩,
      ⟨none, .mov 7 (.t 0)⟩,
      ⟨none, .len 8 (.t 7)⟩,
      ⟨none, .bin 9 .lss (.t 6) (.t 8)⟩])
     (.cond (.t 9)
     (.skip)
     (.exit 0)))
    (.seq (.block 1 (.seq (.reg [⟨none, .mov 12 (.t 0)⟩,
       ⟨none, .mov 13 (.t 5)⟩,
       ⟨none, .mov 14 (.t 1)⟩,
       ⟨none, .idx 15 5 (.t 12) (.t 13)⟩,
       ⟨none, .fad 16 15 0⟩,
       ⟨none, .store 16 1 (.t 14)⟩])
      (.seq (.reg [⟨none, .mov 17 (.t 1)⟩,
       ⟨none, .bin 18 .add (.t 17) (.k (.int .i64 1))⟩,
       ⟨none, .mov 1 (.t 18)⟩])
      (.seq (.reg [⟨none, .mov 19 (.t 0)⟩,
       ⟨none, .mov 20 (.t 5)⟩,
       ⟨none, .mov 21 (.t 1)⟩,
       ⟨none, .idx 22 5 (.t 19) (.t 20)⟩,
       ⟨none, .fad 23 22 1⟩,
       ⟨none, .store 23 1 (.t 21)⟩])
      (.seq (.reg [⟨none, .mov 24 (.t 1)⟩,
       ⟨none, .bin 25 .add (.t 24) (.k (.int .i64 1))⟩,
       ⟨none, .mov 1 (.t 25)⟩])
      (.seq (.reg [⟨none, .mov 26 (.t 0)⟩,
       ⟨none, .mov 27 (.t 5)⟩,
       ⟨none, .mov 28 (.t 1)⟩,
       ⟨none, .idx 29 5 (.t 26) (.t 27)⟩,
       ⟨none, .fad 30 29 2⟩,
       ⟨none, .store 30 1 (.t 28)⟩])
      (.reg [⟨none, .mov 31 (.t 1)⟩,
      ⟨none, .bin 32 .add (.t 31) (.k (.int .i64 1))⟩,
      ⟨none, .mov 1 (.t 32)⟩])))))))
    (.reg [⟨none, .mov 10 (.t 5)⟩,
    ⟨none, .bin 11 .add (.t 10) (.k (.int .i64 1))⟩,
    ⟨none, .mov 5 (.t 11)⟩]))
/-- laws.markTxEventS -/
def r63 : RF :=
 ⟨2, [.tmp 4],
 .seq (.reg [⟨none, .mov 4 (.k (.int .i64 0))⟩])
 (.seq (.seq (.reg [⟨none, .mov 5 (.k (.int .i64 0))⟩])
  (.block 0 (.loop [0, 1, 5]
   r63L0)))
 (.seq (.reg [⟨none, .mov 33 (.t 1)⟩,
  ⟨none, .mov 4 (.t 33)⟩])
 (.ret)))⟩
/-- laws.toTxEvent -/
def r100 : RF :=
 ⟨1, [.cell 2 3 true],
 .seq (.reg [⟨none, .locb 1 (.t 0)⟩,
  ⟨none, .loc 2 [.int .i64 0, .int .i64 0, .int .i64 0]⟩])
 (.seq (.reg [⟨none, .loc 3 [.int .i64 0, .int .i64 0, .int .i64 0]⟩])
 (.seq (.reg [⟨none, .fad 4 1 0⟩,
  ⟨none, .load 5 4 1 false⟩,
  ⟨none, .fad 6 3 0⟩,
  ⟨none, .store 6 1 (.t 5)⟩])
 (.seq (.reg [⟨none, .fad 7 1 1⟩,
  ⟨none, .load 8 7 1 false⟩,
  ⟨none, .fad 9 3 1⟩,
  ⟨none, .store 9 1 (.t 8)⟩])
 (.seq (.reg [⟨none, .fad 10 1 2⟩,
  ⟨none, .load 11 10 1 false⟩,
  ⟨none, .fad 12 3 2⟩,
  ⟨none, .store 12 1 (.t 11)⟩])
 (.seq (.reg [⟨none, .load 13 3 3 true⟩,
  ⟨none, .store 2 3 (.t 13)⟩])
 (.ret))))))⟩
/-- laws.eqTxEvent -/
def r101 : RF :=
 ⟨2, [.tmp 4],
 .seq (.reg [⟨none, .locb 2 (.t 0)⟩,
  ⟨none, .locb 3 (.t 1)⟩,
  ⟨none, .mov 4 (.k (.bool false))⟩])
 (.seq (.seq (.reg [⟨none, .fad 5 2 0⟩,
   ⟨none, .load 6 5 1 false⟩,
   ⟨none, .fad 7 3 0⟩,
   ⟨none, .load 8 7 1 false⟩,
   ⟨none, .bin 9 .neq (.t 6) (.t 8)⟩])
  (.cond (.t 9)
  (.seq (.reg [⟨none, .mov 4 (.k (.bool false))⟩])
   (.ret))
  (.skip)))
 (.seq (.seq (.reg [⟨none, .fad 10 2 1⟩,
   ⟨none, .load 11 10 1 false⟩,
   ⟨none, .fad 12 3 1⟩,
   ⟨none, .load 13 12 1 false⟩,
   ⟨none, .bin 14 .neq (.t 11) (.t 13)⟩])
  (.cond (.t 14)
  (.seq (.reg [⟨none, .mov 4 (.k (.bool false))⟩])
   (.ret))
  (.skip)))
 (.seq (.seq (.reg [⟨none, .fad 15 2 2⟩,
   ⟨none, .load 16 15 1 false⟩,
   ⟨none, .fad 17 3 2⟩,
   ⟨none, .load 18 17 1 false⟩,
   ⟨none, .bin 19 .neq (.t 16) (.t 18)⟩])
  (.cond (.t 19)
  (.seq (.reg [⟨none, .mov 4 (.k (.bool false))⟩])
   (.ret))
  (.skip)))
 (.seq (.reg [⟨none, .mov 4 (.k (.bool true))⟩])
 (.ret)))))⟩
/-- The functions of this text, with their numbers. -/
def tLTxEvent : List (Nat × RF) := [(57, r57), (58, r58), (62, r62), (63, r63), (100, r100), (101, r101)]
end Go.Proofs.Ytlbagejkjkfkjaa.A
