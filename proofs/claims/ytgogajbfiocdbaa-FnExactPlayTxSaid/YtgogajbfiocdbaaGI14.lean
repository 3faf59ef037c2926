/- The compact code of some functions: impl.TxOk, impl.TxOutcome, impl.NewTx, impl.TxGiveUp, impl.isTx, impl.txGiveUp, impl.isReason, impl.TxAck, impl.TxVote, impl.txAck, impl.txVote, impl.TxSends, impl.PlayTx. -/
import Derived.Test.YtgogajbfiocdbaaA1
namespace Go.Proofs.Ytgogajbfiocdbaa.A
open Go
/-- impl.TxOk -/
def r15 : RF :=
 ⟨1, [.tmp 2],
 .seq (.reg [⟨none, .locb 1 (.t 0)⟩,
  ⟨none, .mov 2 (.k (.bool false))⟩])
 (.seq (.reg [⟨none, .load 3 1 10 true⟩,
  ⟨none, .call (some 4) 28 [(.t 3)] false⟩,
  ⟨none, .mov 2 (.t 4)⟩])
 (.ret))⟩
/-- impl.TxOutcome -/
def r18 : RF :=
 ⟨1, [.tmp 2],
 .seq (.reg [⟨none, .locb 1 (.t 0)⟩,
  ⟨none, .mov 2 (.k (.int .i64 0))⟩])
 (.seq (.seq (.reg [⟨none, .load 3 1 10 true⟩,
   ⟨none, .call (some 4) 28 [(.t 3)] false⟩,
   ⟨none, .not 5 (.t 4)⟩,
   ⟨none, .mov 6 (.t 5)⟩,
   ⟨some (6, false), .fad 7 1 4⟩,
   ⟨some (6, false), .load 8 7 1 false⟩,
   ⟨some (6, false), .bin 9 .eql (.t 8) (.k (.int .i64 0))⟩,
   ⟨none, .pick 10 (.t 6) (.k (.bool true)) (.t 9)⟩])
  (.cond (.t 10)
  (.seq (.reg [⟨none, .mov 2 (.k (.int .i64 (-1)))⟩])
   (.ret))
  (.skip)))
 (.seq (.reg [⟨none, .fad 11 1 9⟩,
  ⟨none, .load 12 11 1 false⟩,
  ⟨none, .mov 2 (.t 12)⟩])
 (.ret)))⟩
/-- impl.NewTx -/
def r21 : RF :=
 ⟨4, [.cell 8 10 true, .tmp 9],
 .seq (.reg [⟨none, .loc 8 [.int .i64 0, .int .u64 0, .int .u64 0, .int .u64 0, .int .i64 0, .bool false, .bool false, .bool false, .bool false, .int .i64 0]⟩,
  ⟨none, .mov 9 (.k (.bool false))⟩])
 (.seq (.reg [⟨none, .mov 11 (.t 0)⟩,
  ⟨none, .mov 12 (.t 1)⟩,
  ⟨none, .mov 13 (.t 2)⟩,
  ⟨none, .mov 14 (.t 3)⟩,
  ⟨none, .build 15 [.int .i64 0, .int .u64 0, .int .u64 0, .int .u64 0, .int .i64 0, .bool false, .bool false, .bool false, .bool false, .int .i64 0] [(0, 1, (.t 11)), (1, 1, (.t 12)), (2, 1, (.t 13)), (3, 1, (.t 14)), (4, 1, (.k (.int .i64 0)))]⟩,
  ⟨none, .loc 10 [.int .i64 0, .int .u64 0, .int .u64 0, .int .u64 0, .int .i64 0, .bool false, .bool false, .bool false, .bool false, .int .i64 0]⟩,
  ⟨none, .store 10 10 (.t 15)⟩])
 (.seq (.seq (.reg [⟨none, .load 16 10 10 true⟩,
   ⟨none, .call (some 17) 28 [(.t 16)] false⟩,
   ⟨none, .not 18 (.t 17)⟩])
  (.cond (.t 18)
  (.seq (.reg [⟨none, .build 19 [.int .i64 0, .int .u64 0, .int .u64 0, .int .u64 0, .int .i64 0, .bool false, .bool false, .bool false, .bool false, .int .i64 0] []⟩,
    ⟨none, .store 8 10 (.t 19)⟩,
    ⟨none, .mov 9 (.k (.bool false))⟩])
   (.ret))
  (.skip)))
 (.seq (.reg [⟨none, .load 20 10 10 true⟩,
  ⟨none, .store 8 10 (.t 20)⟩,
  ⟨none, .mov 9 (.k (.bool true))⟩])
 (.ret))))⟩
/-- impl.TxGiveUp -/
def r25 : RF :=
 ⟨2, [.cell 4 10 true, .tmp 5],
 .seq (.reg [⟨none, .locb 2 (.t 0)⟩,
  ⟨none, .loc 4 [.int .i64 0, .int .u64 0, .int .u64 0, .int .u64 0, .int .i64 0, .bool false, .bool false, .bool false, .bool false, .int .i64 0]⟩,
  ⟨none, .mov 5 (.k (.bool false))⟩])
 (.seq (.reg [⟨none, .load 6 2 10 true⟩,
  ⟨none, .mov 7 (.t 1)⟩,
  ⟨none, .call (some 8) 29 [(.t 6), (.t 7)] false⟩,
  ⟨none, .ext 9 (.t 8) 0⟩,
  ⟨none, .ext 10 (.t 8) 1⟩,
  ⟨none, .store 4 10 (.t 9)⟩,
  ⟨none, .mov 5 (.t 10)⟩])
 (.ret))⟩
/-- impl.isTx -/
def r28 : RF :=
 ⟨1, [.tmp 2],
 .seq (.reg [⟨none, .locb 1 (.t 0)⟩,
  ⟨none, .mov 2 (.k (.bool false))⟩])
 (.seq (.seq (.reg [⟨none, .fad 5 1 0⟩,
   ⟨none, .load 6 5 1 false⟩,
   ⟨none, .bin 7 .lss (.t 6) (.k (.int .i64 1))⟩,
   ⟨none, .mov 8 (.t 7)⟩,
   ⟨some (8, false), .fad 9 1 1⟩,
   ⟨some (8, false), .load 10 9 1 false⟩,
   ⟨some (8, false), .fad 11 1 2⟩,
   ⟨some (8, false), .load 12 11 1 false⟩,
   ⟨some (8, false), .bin 13 .eql (.t 10) (.t 12)⟩,
   ⟨none, .pick 14 (.t 8) (.k (.bool true)) (.t 13)⟩])
  (.cond (.t 14)
  (.seq (.reg [⟨none, .mov 2 (.k (.bool false))⟩])
   (.ret))
  (.skip)))
 (.seq (.reg [⟨none, .chk []⟩,
  ⟨none, .fad 15 1 5⟩,
  ⟨none, .load 16 15 1 false⟩,
  ⟨none, .mov 17 (.t 16)⟩,
  ⟨some (17, true), .fad 18 1 6⟩,
  ⟨some (17, true), .load 19 18 1 false⟩,
  ⟨none, .pick 20 (.t 17) (.t 19) (.k (.bool false))⟩,
  ⟨none, .fad 21 1 7⟩,
  ⟨none, .load 22 21 1 false⟩,
  ⟨none, .mov 23 (.t 22)⟩,
  ⟨none, .mov 3 (.t 20)⟩,
  ⟨some (23, true), .fad 24 1 8⟩,
  ⟨some (23, true), .load 25 24 1 false⟩,
  ⟨none, .pick 26 (.t 23) (.t 25) (.k (.bool false))⟩,
  ⟨none, .mov 4 (.t 26)⟩])
 (.seq (.seq (.reg [⟨none, .fad 27 1 4⟩,
   ⟨none, .load 28 27 1 false⟩])
  (.block 0 (.seq (.reg [⟨none, .bin 30 .eql (.t 28) (.k (.int .i64 0))⟩,
    ⟨none, .mov 29 (.t 30)⟩])
   (.cond (.t 29)
   (.seq (.reg [⟨none, .mov 31 (.t 3)⟩,
     ⟨none, .not 32 (.t 31)⟩,
     ⟨none, .mov 33 (.t 32)⟩,
     ⟨some (33, true), .fad 34 1 7⟩,
     ⟨some (33, true), .load 35 34 1 false⟩,
     ⟨some (33, true), .not 36 (.t 35)⟩,
     ⟨none, .pick 37 (.t 33) (.t 36) (.k (.bool false))⟩,
     ⟨none, .mov 38 (.t 37)⟩,
     ⟨some (38, true), .fad 39 1 8⟩,
     ⟨some (38, true), .load 40 39 1 false⟩,
     ⟨some (38, true), .not 41 (.t 40)⟩,
     ⟨none, .pick 42 (.t 38) (.t 41) (.k (.bool false))⟩,
     ⟨none, .mov 43 (.t 42)⟩,
     ⟨some (43, true), .fad 44 1 9⟩,
     ⟨some (43, true), .load 45 44 1 false⟩,
     ⟨some (43, true), .bin 46 .eql (.t 45) (.k (.int .i64 0))⟩,
     ⟨none, .pick 47 (.t 43) (.t 46) (.k (.bool false))⟩,
     ⟨none, .mov 2 (.t 47)⟩])
    (.ret))
   (.seq (.reg [⟨none, .bin 49 .eql (.t 28) (.k (.int .i64 1))⟩,
     ⟨none, .mov 48 (.t 49)⟩])
    (.cond (.t 48)
    (.seq (.reg [⟨none, .mov 50 (.t 3)⟩,
      ⟨none, .mov 51 (.t 50)⟩,
      ⟨some (51, true), .mov 52 (.t 4)⟩,
      ⟨some (51, true), .not 53 (.t 52)⟩,
      ⟨none, .pick 54 (.t 51) (.t 53) (.k (.bool false))⟩,
      ⟨none, .mov 55 (.t 54)⟩,
      ⟨some (55, true), .fad 56 1 9⟩,
      ⟨some (55, true), .load 57 56 1 false⟩,
      ⟨some (55, true), .bin 58 .eql (.t 57) (.k (.int .i64 0))⟩,
      ⟨none, .pick 59 (.t 55) (.t 58) (.k (.bool false))⟩,
      ⟨none, .mov 2 (.t 59)⟩])
     (.ret))
    (.seq (.reg [⟨none, .bin 61 .eql (.t 28) (.k (.int .i64 2))⟩,
      ⟨none, .mov 60 (.t 61)⟩])
     (.cond (.t 60)
     (.seq (.reg [⟨none, .mov 62 (.t 3)⟩,
       ⟨none, .not 63 (.t 62)⟩,
       ⟨none, .mov 64 (.t 63)⟩,
       ⟨some (64, true), .mov 65 (.t 4)⟩,
       ⟨some (64, true), .not 66 (.t 65)⟩,
       ⟨none, .pick 67 (.t 64) (.t 66) (.k (.bool false))⟩,
       ⟨none, .mov 68 (.t 67)⟩,
       ⟨some (68, true), .fad 69 1 9⟩,
       ⟨some (68, true), .load 70 69 1 false⟩,
       ⟨some (68, true), .call (some 71) 30 [(.t 70)] false⟩,
       ⟨none, .pick 72 (.t 68) (.t 71) (.k (.bool false))⟩,
       ⟨none, .mov 2 (.t 72)⟩])
      (.ret))
     (.seq (.reg [⟨none, .bin 74 .eql (.t 28) (.k (.int .i64 3))⟩,
       ⟨none, .mov 73 (.t 74)⟩])
      (.cond (.t 73)
      (.seq (.reg [⟨none, .mov 75 (.t 4)⟩,
        ⟨none, .mov 76 (.t 75)⟩,
        ⟨some (76, true), .mov 77 (.t 3)⟩,
        ⟨some (76, true), .mov 78 (.t 77)⟩,
        ⟨some (78, true), .fad 79 1 9⟩,
        ⟨some (78, true), .load 80 79 1 false⟩,
        ⟨some (78, true), .bin 81 .eql (.t 80) (.k (.int .i64 0))⟩,
        ⟨some (76, true), .pick 82 (.t 78) (.t 81) (.k (.bool false))⟩,
        ⟨some (76, true), .mov 83 (.t 82)⟩,
        ⟨some (83, false), .mov 84 (.t 3)⟩,
        ⟨some (83, false), .not 85 (.t 84)⟩,
        ⟨some (83, false), .mov 86 (.t 85)⟩,
        ⟨some (86, true), .fad 87 1 9⟩,
        ⟨some (86, true), .load 88 87 1 false⟩,
        ⟨some (86, true), .call (some 89) 30 [(.t 88)] false⟩,
        ⟨some (83, false), .pick 90 (.t 86) (.t 89) (.k (.bool false))⟩,
        ⟨some (76, true), .pick 91 (.t 83) (.k (.bool true)) (.t 90)⟩,
        ⟨none, .pick 92 (.t 76) (.t 91) (.k (.bool false))⟩,
        ⟨none, .mov 2 (.t 92)⟩])
       (.ret))
      (.skip)))))))))))
 (.seq (.reg [⟨none, .mov 2 (.k (.bool false))⟩])
 (.ret)))))⟩
/-- impl.txGiveUp -/
def r29 : RF :=
 ⟨2, [.cell 4 10 true, .tmp 5],
 .seq (.reg [⟨none, .locb 2 (.t 0)⟩,
  ⟨none, .loc 4 [.int .i64 0, .int .u64 0, .int .u64 0, .int .u64 0, .int .i64 0, .bool false, .bool false, .bool false, .bool false, .int .i64 0]⟩,
  ⟨none, .mov 5 (.k (.bool false))⟩])
 (.seq (.seq (.reg [⟨none, .load 6 2 10 true⟩,
   ⟨none, .call (some 7) 28 [(.t 6)] false⟩,
   ⟨none, .not 8 (.t 7)⟩,
   ⟨none, .mov 9 (.t 8)⟩,
   ⟨some (9, false), .fad 10 2 4⟩,
   ⟨some (9, false), .load 11 10 1 false⟩,
   ⟨some (9, false), .bin 12 .neq (.t 11) (.k (.int .i64 0))⟩,
   ⟨none, .pick 13 (.t 9) (.k (.bool true)) (.t 12)⟩,
   ⟨none, .mov 14 (.t 13)⟩,
   ⟨some (14, false), .mov 15 (.t 1)⟩,
   ⟨some (14, false), .call (some 16) 30 [(.t 15)] false⟩,
   ⟨some (14, false), .not 17 (.t 16)⟩,
   ⟨none, .pick 18 (.t 14) (.k (.bool true)) (.t 17)⟩])
  (.cond (.t 18)
  (.seq (.reg [⟨none, .load 19 2 10 true⟩,
    ⟨none, .store 4 10 (.t 19)⟩,
    ⟨none, .mov 5 (.k (.bool false))⟩])
   (.ret))
  (.skip)))
 (.seq (.reg [⟨none, .fad 20 2 4⟩,
  ⟨none, .store 20 1 (.k (.int .i64 2))⟩])
 (.seq (.reg [⟨none, .mov 21 (.t 1)⟩,
  ⟨none, .fad 22 2 9⟩,
  ⟨none, .store 22 1 (.t 21)⟩])
 (.seq (.reg [⟨none, .load 23 2 10 true⟩,
  ⟨none, .store 4 10 (.t 23)⟩,
  ⟨none, .mov 5 (.k (.bool true))⟩])
 (.ret)))))⟩
/-- impl.isReason -/
def r30 : RF :=
 ⟨1, [.tmp 2],
 .seq (.reg [⟨none, .mov 2 (.k (.bool false))⟩])
 (.seq (.reg [⟨none, .mov 3 (.t 0)⟩,
  ⟨none, .bin 4 .geq (.t 3) (.k (.int .i64 1))⟩,
  ⟨none, .mov 5 (.t 4)⟩,
  ⟨some (5, true), .mov 6 (.t 0)⟩,
  ⟨some (5, true), .bin 7 .leq (.t 6) (.k (.int .i64 99))⟩,
  ⟨none, .pick 8 (.t 5) (.t 7) (.k (.bool false))⟩,
  ⟨none, .mov 2 (.t 8)⟩])
 (.ret))⟩
/-- impl.TxAck -/
def r33 : RF :=
 ⟨2, [.cell 4 10 true, .tmp 5],
 .seq (.reg [⟨none, .locb 2 (.t 0)⟩,
  ⟨none, .loc 4 [.int .i64 0, .int .u64 0, .int .u64 0, .int .u64 0, .int .i64 0, .bool false, .bool false, .bool false, .bool false, .int .i64 0]⟩,
  ⟨none, .mov 5 (.k (.bool false))⟩])
 (.seq (.reg [⟨none, .load 6 2 10 true⟩,
  ⟨none, .mov 7 (.t 1)⟩,
  ⟨none, .call (some 8) 37 [(.t 6), (.t 7)] false⟩,
  ⟨none, .ext 9 (.t 8) 0⟩,
  ⟨none, .ext 10 (.t 8) 1⟩,
  ⟨none, .store 4 10 (.t 9)⟩,
  ⟨none, .mov 5 (.t 10)⟩])
 (.ret))⟩
/-- impl.TxVote -/
def r36 : RF :=
 ⟨3, [.cell 6 10 true, .tmp 7],
 .seq (.reg [⟨none, .locb 3 (.t 0)⟩,
  ⟨none, .loc 6 [.int .i64 0, .int .u64 0, .int .u64 0, .int .u64 0, .int .i64 0, .bool false, .bool false, .bool false, .bool false, .int .i64 0]⟩,
  ⟨none, .mov 7 (.k (.bool false))⟩])
 (.seq (.reg [⟨none, .load 8 3 10 true⟩,
  ⟨none, .mov 9 (.t 1)⟩,
  ⟨none, .mov 10 (.t 2)⟩,
  ⟨none, .call (some 11) 38 [(.t 8), (.t 9), (.t 10)] false⟩,
  ⟨none, .ext 12 (.t 11) 0⟩,
  ⟨none, .ext 13 (.t 11) 1⟩,
  ⟨none, .store 6 10 (.t 12)⟩,
  ⟨none, .mov 7 (.t 13)⟩])
 (.ret))⟩
/-- impl.txAck -/
def r37 : RF :=
 ⟨2, [.cell 4 10 true, .tmp 5],
 .seq (.reg [⟨none, .locb 2 (.t 0)⟩,
  ⟨none, .loc 4 [.int .i64 0, .int .u64 0, .int .u64 0, .int .u64 0, .int .i64 0, .bool false, .bool false, .bool false, .bool false, .int .i64 0]⟩,
  ⟨none, .mov 5 (.k (.bool false))⟩])
 (.seq (.seq (.reg [⟨none, .load 6 2 10 true⟩,
   ⟨none, .call (some 7) 28 [(.t 6)] false⟩,
   ⟨none, .not 8 (.t 7)⟩,
   ⟨none, .mov 9 (.t 8)⟩,
   ⟨some (9, false), .fad 10 2 4⟩,
   ⟨some (9, false), .load 11 10 1 false⟩,
   ⟨some (9, false), .bin 12 .neq (.t 11) (.k (.int .i64 1))⟩,
   ⟨some (9, false), .mov 13 (.t 12)⟩,
   ⟨some (13, true), .fad 14 2 4⟩,
   ⟨some (13, true), .load 15 14 1 false⟩,
   ⟨some (13, true), .bin 16 .neq (.t 15) (.k (.int .i64 2))⟩,
   ⟨some (9, false), .pick 17 (.t 13) (.t 16) (.k (.bool false))⟩,
   ⟨none, .pick 18 (.t 9) (.k (.bool true)) (.t 17)⟩,
   ⟨none, .mov 19 (.t 18)⟩,
   ⟨some (19, false), .mov 20 (.t 1)⟩,
   ⟨some (19, false), .bin 21 .lss (.t 20) (.k (.int .i64 0))⟩,
   ⟨none, .pick 22 (.t 19) (.k (.bool true)) (.t 21)⟩,
   ⟨none, .mov 23 (.t 22)⟩,
   ⟨some (23, false), .mov 24 (.t 1)⟩,
   ⟨some (23, false), .bin 25 .gtr (.t 24) (.k (.int .i64 1))⟩,
   ⟨none, .pick 26 (.t 23) (.k (.bool true)) (.t 25)⟩,
   ⟨none, .mov 27 (.t 26)⟩,
   ⟨some (27, false), .mov 28 (.t 1)⟩,
   ⟨some (27, false), .bin 29 .eql (.t 28) (.k (.int .i64 0))⟩,
   ⟨some (27, false), .mov 30 (.t 29)⟩,
   ⟨some (30, true), .fad 31 2 7⟩,
   ⟨some (30, true), .load 32 31 1 false⟩,
   ⟨some (27, false), .pick 33 (.t 30) (.t 32) (.k (.bool false))⟩,
   ⟨none, .pick 34 (.t 27) (.k (.bool true)) (.t 33)⟩,
   ⟨none, .mov 35 (.t 34)⟩,
   ⟨some (35, false), .mov 36 (.t 1)⟩,
   ⟨some (35, false), .bin 37 .eql (.t 36) (.k (.int .i64 1))⟩,
   ⟨some (35, false), .mov 38 (.t 37)⟩,
   ⟨some (38, true), .fad 39 2 8⟩,
   ⟨some (38, true), .load 40 39 1 false⟩,
   ⟨some (35, false), .pick 41 (.t 38) (.t 40) (.k (.bool false))⟩,
   ⟨none, .pick 42 (.t 35) (.k (.bool true)) (.t 41)⟩])
  (.cond (.t 42)
  (.seq (.reg [⟨none, .load 43 2 10 true⟩,
    ⟨none, .store 4 10 (.t 43)⟩,
    ⟨none, .mov 5 (.k (.bool false))⟩])
   (.ret))
  (.skip)))
 (.seq (.seq (.reg [⟨none, .mov 44 (.t 1)⟩,
   ⟨none, .bin 45 .eql (.t 44) (.k (.int .i64 0))⟩])
  (.cond (.t 45)
  (.reg [⟨none, .fad 46 2 7⟩,
   ⟨none, .store 46 1 (.k (.bool true))⟩])
  (.reg [⟨none, .fad 47 2 8⟩,
   ⟨none, .store 47 1 (.k (.bool true))⟩])))
 (.seq (.seq (.reg [⟨none, .fad 48 2 7⟩,
   ⟨none, .load 49 48 1 false⟩,
   ⟨none, .mov 50 (.t 49)⟩,
   ⟨some (50, true), .fad 51 2 8⟩,
   ⟨some (50, true), .load 52 51 1 false⟩,
   ⟨none, .pick 53 (.t 50) (.t 52) (.k (.bool false))⟩])
  (.cond (.t 53)
  (.reg [⟨none, .fad 54 2 4⟩,
   ⟨none, .store 54 1 (.k (.int .i64 3))⟩])
  (.skip)))
 (.seq (.reg [⟨none, .load 55 2 10 true⟩,
  ⟨none, .store 4 10 (.t 55)⟩,
  ⟨none, .mov 5 (.k (.bool true))⟩])
 (.ret)))))⟩
/-- impl.txVote -/
def r38 : RF :=
 ⟨3, [.cell 6 10 true, .tmp 7],
 .seq (.reg [⟨none, .locb 3 (.t 0)⟩,
  ⟨none, .loc 6 [.int .i64 0, .int .u64 0, .int .u64 0, .int .u64 0, .int .i64 0, .bool false, .bool false, .bool false, .bool false, .int .i64 0]⟩,
  ⟨none, .mov 7 (.k (.bool false))⟩])
 (.seq (.seq (.reg [⟨none, .load 8 3 10 true⟩,
   ⟨none, .call (some 9) 28 [(.t 8)] false⟩,
   ⟨none, .not 10 (.t 9)⟩,
   ⟨none, .mov 11 (.t 10)⟩,
   ⟨some (11, false), .fad 12 3 4⟩,
   ⟨some (11, false), .load 13 12 1 false⟩,
   ⟨some (11, false), .bin 14 .neq (.t 13) (.k (.int .i64 0))⟩,
   ⟨none, .pick 15 (.t 11) (.k (.bool true)) (.t 14)⟩,
   ⟨none, .mov 16 (.t 15)⟩,
   ⟨some (16, false), .mov 17 (.t 1)⟩,
   ⟨some (16, false), .bin 18 .lss (.t 17) (.k (.int .i64 0))⟩,
   ⟨none, .pick 19 (.t 16) (.k (.bool true)) (.t 18)⟩,
   ⟨none, .mov 20 (.t 19)⟩,
   ⟨some (20, false), .mov 21 (.t 1)⟩,
   ⟨some (20, false), .bin 22 .gtr (.t 21) (.k (.int .i64 1))⟩,
   ⟨none, .pick 23 (.t 20) (.k (.bool true)) (.t 22)⟩,
   ⟨none, .mov 24 (.t 23)⟩,
   ⟨some (24, false), .mov 25 (.t 2)⟩,
   ⟨some (24, false), .bin 26 .lss (.t 25) (.k (.int .i64 0))⟩,
   ⟨none, .pick 27 (.t 24) (.k (.bool true)) (.t 26)⟩,
   ⟨none, .mov 28 (.t 27)⟩,
   ⟨some (28, false), .mov 29 (.t 2)⟩,
   ⟨some (28, false), .bin 30 .gtr (.t 29) (.k (.int .i64 99))⟩,
   ⟨none, .pick 31 (.t 28) (.k (.bool true)) (.t 30)⟩,
   ⟨none, .mov 32 (.t 31)⟩,
   ⟨some (32, false), .mov 33 (.t 1)⟩,
   ⟨some (32, false), .bin 34 .eql (.t 33) (.k (.int .i64 0))⟩,
   ⟨some (32, false), .mov 35 (.t 34)⟩,
   ⟨some (35, true), .fad 36 3 5⟩,
   ⟨some (35, true), .load 37 36 1 false⟩,
   ⟨some (32, false), .pick 38 (.t 35) (.t 37) (.k (.bool false))⟩,
   ⟨none, .pick 39 (.t 32) (.k (.bool true)) (.t 38)⟩,
   ⟨none, .mov 40 (.t 39)⟩,
   ⟨some (40, false), .mov 41 (.t 1)⟩,
   ⟨some (40, false), .bin 42 .eql (.t 41) (.k (.int .i64 1))⟩,
   ⟨some (40, false), .mov 43 (.t 42)⟩,
   ⟨some (43, true), .fad 44 3 6⟩,
   ⟨some (43, true), .load 45 44 1 false⟩,
   ⟨some (40, false), .pick 46 (.t 43) (.t 45) (.k (.bool false))⟩,
   ⟨none, .pick 47 (.t 40) (.k (.bool true)) (.t 46)⟩])
  (.cond (.t 47)
  (.seq (.reg [⟨none, .load 48 3 10 true⟩,
    ⟨none, .store 6 10 (.t 48)⟩,
    ⟨none, .mov 7 (.k (.bool false))⟩])
   (.ret))
  (.skip)))
 (.seq (.seq (.reg [⟨none, .mov 49 (.t 2)⟩,
   ⟨none, .bin 50 .gtr (.t 49) (.k (.int .i64 0))⟩])
  (.cond (.t 50)
  (.seq (.reg [⟨none, .fad 51 3 4⟩,
    ⟨none, .store 51 1 (.k (.int .i64 2))⟩])
   (.seq (.reg [⟨none, .mov 52 (.t 2)⟩,
    ⟨none, .fad 53 3 9⟩,
    ⟨none, .store 53 1 (.t 52)⟩])
   (.seq (.reg [⟨none, .load 54 3 10 true⟩,
    ⟨none, .store 6 10 (.t 54)⟩,
    ⟨none, .mov 7 (.k (.bool true))⟩])
   (.ret))))
  (.skip)))
 (.seq (.seq (.reg [⟨none, .mov 55 (.t 1)⟩,
   ⟨none, .bin 56 .eql (.t 55) (.k (.int .i64 0))⟩])
  (.cond (.t 56)
  (.reg [⟨none, .fad 57 3 5⟩,
   ⟨none, .store 57 1 (.k (.bool true))⟩])
  (.reg [⟨none, .fad 58 3 6⟩,
   ⟨none, .store 58 1 (.k (.bool true))⟩])))
 (.seq (.seq (.reg [⟨none, .fad 59 3 5⟩,
   ⟨none, .load 60 59 1 false⟩,
   ⟨none, .mov 61 (.t 60)⟩,
   ⟨some (61, true), .fad 62 3 6⟩,
   ⟨some (61, true), .load 63 62 1 false⟩,
   ⟨none, .pick 64 (.t 61) (.t 63) (.k (.bool false))⟩])
  (.cond (.t 64)
  (.reg [⟨none, .fad 65 3 4⟩,
   ⟨none, .store 65 1 (.k (.int .i64 1))⟩])
  (.skip)))
 (.seq (.reg [⟨none, .load 66 3 10 true⟩,
  ⟨none, .store 6 10 (.t 66)⟩,
  ⟨none, .mov 7 (.k (.bool true))⟩])
 (.ret))))))⟩
/-- impl.TxSends -/
def r47 : RF :=
 ⟨1, [.tmp 2],
 .seq (.reg [⟨none, .locb 1 (.t 0)⟩,
  ⟨none, .mov 2 (.k (.nil))⟩])
 (.seq (.seq (.reg [⟨none, .load 5 1 10 true⟩,
   ⟨none, .call (some 6) 28 [(.t 5)] false⟩,
   ⟨none, .not 7 (.t 6)⟩])
  (.cond (.t 7)
  (.seq (.reg [⟨none, .mov 2 (.k (.nil))⟩])
   (.ret))
  (.skip)))
 (.seq (.reg [⟨none, .lit 8 3 0 [.int .i64 0, .int .i64 0, .int .u64 0, .int .u64 0, .int .i64 0] []⟩,
  ⟨none, .mov 3 (.t 8)⟩])
 (.seq (.seq (.reg [⟨none, .fad 9 1 4⟩,
   ⟨none, .load 10 9 1 false⟩])
  (.block 0 (.seq (.reg [⟨none, .bin 12 .eql (.t 10) (.k (.int .i64 0))⟩,
    ⟨none, .mov 11 (.t 12)⟩])
   (.cond (.t 11)
   (.seq (.seq (.reg [⟨none, .fad 13 1 5⟩,
      ⟨none, .load 14 13 1 false⟩,
      ⟨none, .not 15 (.t 14)⟩])
     (.cond (.t 15)
     (.reg [⟨none, .mov 16 (.t 3)⟩,
      ⟨none, .fad 17 1 1⟩,
      ⟨none, .load 18 17 1 false⟩,
      ⟨none, .fad 19 1 3⟩,
      ⟨none, .load 20 19 1 false⟩,
      ⟨none, .fad 21 1 0⟩,
      ⟨none, .load 22 21 1 false⟩,
      ⟨none, .build 23 [.int .i64 0, .int .i64 0, .int .u64 0, .int .u64 0, .int .i64 0] [(1, 1, (.k (.int .i64 4))), (2, 1, (.t 18)), (3, 1, (.t 20)), (4, 1, (.t 22))]⟩,
      ⟨none, .lit 24 3 1 [.int .i64 0, .int .i64 0, .int .u64 0, .int .u64 0, .int .i64 0] [(0, (.t 23))]⟩,
      ⟨none, .app 25 3 40 (.t 16) (.t 24)⟩,
      ⟨none, .mov 3 (.t 25)⟩])
     (.skip)))
    (.seq (.reg [⟨none, .fad 26 1 6⟩,
     ⟨none, .load 27 26 1 false⟩,
     ⟨none, .not 28 (.t 27)⟩])
    (.cond (.t 28)
    (.reg [⟨none, .mov 29 (.t 3)⟩,
     ⟨none, .fad 30 1 2⟩,
     ⟨none, .load 31 30 1 false⟩,
     ⟨none, .fad 32 1 3⟩,
     ⟨none, .load 33 32 1 false⟩,
     ⟨none, .fad 34 1 0⟩,
     ⟨none, .load 35 34 1 false⟩,
     ⟨none, .build 36 [.int .i64 0, .int .i64 0, .int .u64 0, .int .u64 0, .int .i64 0] [(1, 1, (.k (.int .i64 5))), (2, 1, (.t 31)), (3, 1, (.t 33)), (4, 1, (.t 35))]⟩,
     ⟨none, .lit 37 3 1 [.int .i64 0, .int .i64 0, .int .u64 0, .int .u64 0, .int .i64 0] [(0, (.t 36))]⟩,
     ⟨none, .app 38 3 40 (.t 29) (.t 37)⟩,
     ⟨none, .mov 3 (.t 38)⟩])
    (.skip))))
   (.seq (.seq (.reg [⟨none, .bin 40 .eql (.t 10) (.k (.int .i64 1))⟩,
      ⟨none, .mov 39 (.t 40)⟩])
     (.cond (.t 39)
     (.skip)
     (.reg [⟨none, .bin 41 .eql (.t 10) (.k (.int .i64 2))⟩,
      ⟨none, .mov 39 (.t 41)⟩])))
    (.cond (.t 39)
    (.seq (.reg [⟨none, .mov 4 (.k (.int .i64 6))⟩])
     (.seq (.seq (.reg [⟨none, .fad 42 1 4⟩,
       ⟨none, .load 43 42 1 false⟩,
       ⟨none, .bin 44 .eql (.t 43) (.k (.int .i64 2))⟩])
      (.cond (.t 44)
      (.reg [⟨none, .mov 4 (.k (.int .i64 7))⟩])
      (.skip)))
     (.seq (.seq (.reg [⟨none, .fad 45 1 7⟩,
       ⟨none, .load 46 45 1 false⟩,
       ⟨none, .not 47 (.t 46)⟩])
      (.cond (.t 47)
      (.reg [⟨none, .mov 48 (.t 3)⟩,
       ⟨none, .mov 49 (.t 4)⟩,
       ⟨none, .fad 50 1 1⟩,
       ⟨none, .load 51 50 1 false⟩,
       ⟨none, .fad 52 1 0⟩,
       ⟨none, .load 53 52 1 false⟩,
       ⟨none, .build 54 [.int .i64 0, .int .i64 0, .int .u64 0, .int .u64 0, .int .i64 0] [(1, 1, (.t 49)), (2, 1, (.t 51)), (4, 1, (.t 53))]⟩,
       ⟨none, .lit 55 3 1 [.int .i64 0, .int .i64 0, .int .u64 0, .int .u64 0, .int .i64 0] [(0, (.t 54))]⟩,
       ⟨none, .app 56 3 40 (.t 48) (.t 55)⟩,
       ⟨none, .mov 3 (.t 56)⟩])
      (.skip)))
     (.seq (.reg [⟨none, .fad 57 1 8⟩,
      ⟨none, .load 58 57 1 false⟩,
      ⟨none, .not 59 (.t 58)⟩])
     (.cond (.t 59)
     (.reg [⟨none, .mov 60 (.t 3)⟩,
      ⟨none, .mov 61 (.t 4)⟩,
      ⟨none, .fad 62 1 2⟩,
      ⟨none, .load 63 62 1 false⟩,
      ⟨none, .fad 64 1 0⟩,
      ⟨none, .load 65 64 1 false⟩,
      ⟨none, .build 66 [.int .i64 0, .int .i64 0, .int .u64 0, .int .u64 0, .int .i64 0] [(1, 1, (.t 61)), (2, 1, (.t 63)), (4, 1, (.t 65))]⟩,
      ⟨none, .lit 67 3 1 [.int .i64 0, .int .i64 0, .int .u64 0, .int .u64 0, .int .i64 0] [(0, (.t 66))]⟩,
      ⟨none, .app 68 3 40 (.t 60) (.t 67)⟩,
      ⟨none, .mov 3 (.t 68)⟩])
     (.skip))))))
    (.skip)))))))
 (.seq (.reg [⟨none, .mov 69 (.t 3)⟩,
  ⟨none, .mov 2 (.t 69)⟩])
 (.ret)))))⟩
/-- A loop of impl.PlayTx. -/
def r60L0 : RC :=
 .seq (.reg [⟨none, .bin 23 .lss (.t 22) (.t 21)⟩])
    (.seq (.cond (.t 23)
     (.skip)
     (.exit 0))
    (.seq (.block 1 (.seq (.reg [⟨none, .idx 24 5 (.t 20) (.t 22)⟩,
       ⟨none, .load 25 24 3 true⟩,
       ⟨none, .loc 8 [.int .i64 0, .int .i64 0, .int .i64 0]⟩,
       ⟨none, .store 8 3 (.t 25)⟩])
      (.seq (.reg [⟨none, .mov 9 (.k (.bool false))⟩])
      (.seq (.seq (.reg [⟨none, .fad 26 8 0⟩,
        ⟨none, .load 27 26 1 false⟩])
       (.block 2 (.seq (.reg [⟨none, .bin 29 .eql (.t 27) (.k (.int .i64 0))⟩,
         ⟨none, .mov 28 (.t 29)⟩])
        (.cond (.t 28)
        (.reg [⟨none, .load 31 2 10 true⟩,
         ⟨none, .fad 32 8 1⟩,
         ⟨none, .load 33 32 1 false⟩,
         ⟨none, .fad 34 8 2⟩,
         ⟨none, .load 35 34 1 false⟩,
         ⟨none, .call (some 36) 38 [(.t 31), (.t 33), (.t 35)] false⟩,
         ⟨none, .mov 30 (.t 36)⟩,
         ⟨none, .ext 37 (.t 30) 0⟩,
         ⟨none, .ext 38 (.t 30) 1⟩,
         ⟨none, .store 2 10 (.t 37)⟩,
         ⟨none, .mov 9 (.t 38)⟩])
        (.seq (.reg [⟨none, .bin 40 .eql (.t 27) (.k (.int .i64 1))⟩,
          ⟨none, .mov 39 (.t 40)⟩])
         (.cond (.t 39)
         (.reg [⟨none, .load 42 2 10 true⟩,
          ⟨none, .fad 43 8 1⟩,
          ⟨none, .load 44 43 1 false⟩,
          ⟨none, .call (some 45) 37 [(.t 42), (.t 44)] false⟩,
          ⟨none, .mov 41 (.t 45)⟩,
          ⟨none, .ext 46 (.t 41) 0⟩,
          ⟨none, .ext 47 (.t 41) 1⟩,
          ⟨none, .store 2 10 (.t 46)⟩,
          ⟨none, .mov 9 (.t 47)⟩])
         (.seq (.reg [⟨none, .bin 49 .eql (.t 27) (.k (.int .i64 2))⟩,
           ⟨none, .mov 48 (.t 49)⟩])
          (.cond (.t 48)
          (.reg [⟨none, .load 51 2 10 true⟩,
           ⟨none, .fad 52 8 2⟩,
           ⟨none, .load 53 52 1 false⟩,
           ⟨none, .call (some 54) 29 [(.t 51), (.t 53)] false⟩,
           ⟨none, .mov 50 (.t 54)⟩,
           ⟨none, .ext 55 (.t 50) 0⟩,
           ⟨none, .ext 56 (.t 50) 1⟩,
           ⟨none, .store 2 10 (.t 55)⟩,
           ⟨none, .mov 9 (.t 56)⟩])
          (.skip)))))))))
      (.reg [⟨none, .mov 57 (.t 6)⟩,
      ⟨none, .mov 58 (.t 9)⟩,
      ⟨none, .lit 59 4 1 [.bool false] [(0, (.t 58))]⟩,
      ⟨none, .app 60 4 1 (.t 57) (.t 59)⟩,
      ⟨none, .mov 6 (.t 60)⟩])))))
    (.reg [⟨none, .bin 61 .add (.t 22) (.k (.int .i64 1))⟩,
    ⟨none, .mov 22 (.t 61)⟩])))
/-- impl.PlayTx -/
def r60 : RF :=
 ⟨2, [.cell 4 10 true, .tmp 5],
 .seq (.reg [⟨none, .locb 2 (.t 0)⟩,
  ⟨none, .loc 4 [.int .i64 0, .int .u64 0, .int .u64 0, .int .u64 0, .int .i64 0, .bool false, .bool false, .bool false, .bool false, .int .i64 0]⟩,
  ⟨none, .mov 5 (.k (.nil))⟩])
 (.seq (.seq (.reg [⟨none, .load 10 2 10 true⟩,
   ⟨none, .call (some 11) 28 [(.t 10)] false⟩,
   ⟨none, .not 12 (.t 11)⟩,
   ⟨none, .mov 13 (.t 12)⟩,
   ⟨some (13, false), .mov 14 (.t 1)⟩,
   ⟨some (13, false), .len 15 (.t 14)⟩,
   ⟨some (13, false), .bin 16 .gtr (.t 15) (.k (.int .i64 100))⟩,
   ⟨none, .pick 17 (.t 13) (.k (.bool true)) (.t 16)⟩])
  (.cond (.t 17)
  (.seq (.reg [⟨none, .load 18 2 10 true⟩,
    ⟨none, .store 4 10 (.t 18)⟩,
    ⟨none, .mov 5 (.k (.nil))⟩])
   (.ret))
  (.skip)))
 (.seq (.reg [⟨none, .lit 19 4 0 [.bool false] []⟩,
  ⟨none, .mov 6 (.t 19)⟩])
 (.seq (.seq (.reg [⟨none, .mov 20 (.t 1)⟩,
   ⟨none, .len 21 (.t 20)⟩,
   ⟨none, .mov 22 (.k (.int .i64 0))⟩])
  (.block 0 (.loop [2, 4, 6, 20, 21, 22]
   r60L0)))
 (.seq (.reg [⟨none, .load 62 2 10 true⟩,
  ⟨none, .mov 63 (.t 6)⟩,
  ⟨none, .store 4 10 (.t 62)⟩,
  ⟨none, .mov 5 (.t 63)⟩])
 (.ret)))))⟩
/-- The functions of this text, with their numbers. -/
def tI14 : List (Nat × RF) := [(15, r15), (18, r18), (21, r21), (25, r25), (28, r28), (29, r29), (30, r30), (33, r33), (36, r36), (37, r37), (38, r38), (47, r47), (60, r60)]
end Go.Proofs.Ytgogajbfiocdbaa.A
