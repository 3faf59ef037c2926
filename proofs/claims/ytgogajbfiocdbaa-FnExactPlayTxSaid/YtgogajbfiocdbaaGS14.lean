/- The compact code of some functions: spec.TxOk, spec.TxOutcome, spec.NewTx, spec.TxGiveUp, spec.TxAck, spec.TxVote, spec.TxSends, spec.PlayTx. -/
import Derived.Test.YtgogajbfiocdbaaA1
namespace Go.Proofs.Ytgogajbfiocdbaa.A
open Go
/-- spec.TxOk -/
def r14 : RF :=
 ⟨1, [.tmp 2],
 .seq (.reg [⟨none, .locb 1 (.t 0)⟩,
  ⟨none, .mov 2 (.k (.bool false))⟩])
 (.seq (.reg [⟨none, .chk []⟩,
  ⟨none, .fad 5 1 5⟩,
  ⟨none, .load 6 5 1 false⟩,
  ⟨none, .mov 7 (.t 6)⟩,
  ⟨some (7, true), .fad 8 1 6⟩,
  ⟨some (7, true), .load 9 8 1 false⟩,
  ⟨none, .pick 10 (.t 7) (.t 9) (.k (.bool false))⟩,
  ⟨none, .fad 11 1 7⟩,
  ⟨none, .load 12 11 1 false⟩,
  ⟨none, .mov 13 (.t 12)⟩,
  ⟨none, .mov 3 (.t 10)⟩,
  ⟨some (13, true), .fad 14 1 8⟩,
  ⟨some (13, true), .load 15 14 1 false⟩,
  ⟨none, .pick 16 (.t 13) (.t 15) (.k (.bool false))⟩,
  ⟨none, .mov 4 (.t 16)⟩])
 (.seq (.seq (.reg [⟨none, .fad 17 1 0⟩,
   ⟨none, .load 18 17 1 false⟩,
   ⟨none, .bin 19 .lss (.t 18) (.k (.int .i64 1))⟩,
   ⟨none, .mov 20 (.t 19)⟩,
   ⟨some (20, false), .fad 21 1 1⟩,
   ⟨some (20, false), .load 22 21 1 false⟩,
   ⟨some (20, false), .fad 23 1 2⟩,
   ⟨some (20, false), .load 24 23 1 false⟩,
   ⟨some (20, false), .bin 25 .eql (.t 22) (.t 24)⟩,
   ⟨none, .pick 26 (.t 20) (.k (.bool true)) (.t 25)⟩])
  (.cond (.t 26)
  (.seq (.reg [⟨none, .mov 2 (.k (.bool false))⟩])
   (.ret))
  (.skip)))
 (.seq (.seq (.reg [⟨none, .fad 27 1 4⟩,
   ⟨none, .load 28 27 1 false⟩])
  (.block 0 (.seq (.reg [⟨none, .bin 30 .eql (.t 28) (.k (.int .i64 0))⟩,
    ⟨none, .mov 29 (.t 30)⟩])
   (.cond (.t 29)
   (.seq (.reg [⟨none, .mov 31 (.t 3)⟩,
     ⟨none, .not 32 (.t 31)⟩,
     ⟨none, .mov 33 (.t 32)⟩,
     ⟨some (33, true), .fad 34 1 7⟩,
     ⟨some (33, true), .load 35 34 1 false⟩,
     ⟨some (33, true), .not 36 (.t 35)⟩,
     ⟨none, .pick 37 (.t 33) (.t 36) (.k (.bool false))⟩,
     ⟨none, .mov 38 (.t 37)⟩,
     ⟨some (38, true), .fad 39 1 8⟩,
     ⟨some (38, true), .load 40 39 1 false⟩,
     ⟨some (38, true), .not 41 (.t 40)⟩,
     ⟨none, .pick 42 (.t 38) (.t 41) (.k (.bool false))⟩,
     ⟨none, .mov 43 (.t 42)⟩,
     ⟨some (43, true), .fad 44 1 9⟩,
     ⟨some (43, true), .load 45 44 1 false⟩,
     ⟨some (43, true), .bin 46 .eql (.t 45) (.k (.int .i64 0))⟩,
     ⟨none, .pick 47 (.t 43) (.t 46) (.k (.bool false))⟩,
     ⟨none, .mov 2 (.t 47)⟩])
    (.ret))
   (.seq (.reg [⟨none, .bin 49 .eql (.t 28) (.k (.int .i64 1))⟩,
     ⟨none, .mov 48 (.t 49)⟩])
    (.cond (.t 48)
    (.seq (.reg [⟨none, .mov 50 (.t 3)⟩,
      ⟨none, .mov 51 (.t 50)⟩,
      ⟨some (51, true), .mov 52 (.t 4)⟩,
      ⟨some (51, true), .not 53 (.t 52)⟩,
      ⟨none, .pick 54 (.t 51) (.t 53) (.k (.bool false))⟩,
      ⟨none, .mov 55 (.t 54)⟩,
      ⟨some (55, true), .fad 56 1 9⟩,
      ⟨some (55, true), .load 57 56 1 false⟩,
      ⟨some (55, true), .bin 58 .eql (.t 57) (.k (.int .i64 0))⟩,
      ⟨none, .pick 59 (.t 55) (.t 58) (.k (.bool false))⟩,
      ⟨none, .mov 2 (.t 59)⟩])
     (.ret))
    (.seq (.reg [⟨none, .bin 61 .eql (.t 28) (.k (.int .i64 2))⟩,
      ⟨none, .mov 60 (.t 61)⟩])
     (.cond (.t 60)
     (.seq (.reg [⟨none, .mov 62 (.t 3)⟩,
       ⟨none, .not 63 (.t 62)⟩,
       ⟨none, .mov 64 (.t 63)⟩,
       ⟨some (64, true), .mov 65 (.t 4)⟩,
       ⟨some (64, true), .not 66 (.t 65)⟩,
       ⟨none, .pick 67 (.t 64) (.t 66) (.k (.bool false))⟩,
       ⟨none, .mov 68 (.t 67)⟩,
       ⟨some (68, true), .fad 69 1 9⟩,
       ⟨some (68, true), .load 70 69 1 false⟩,
       ⟨some (68, true), .call (some 71) 5 [(.t 70), (.k (.int .i64 1)), (.k (.int .i64 99))] false⟩,
       ⟨none, .pick 72 (.t 68) (.t 71) (.k (.bool false))⟩,
       ⟨none, .mov 2 (.t 72)⟩])
      (.ret))
     (.seq (.reg [⟨none, .bin 74 .eql (.t 28) (.k (.int .i64 3))⟩,
       ⟨none, .mov 73 (.t 74)⟩])
      (.cond (.t 73)
      (.seq (.reg [⟨none, .mov 75 (.t 4)⟩,
        ⟨none, .mov 76 (.t 75)⟩,
        ⟨some (76, true), .mov 77 (.t 3)⟩,
        ⟨some (76, true), .mov 78 (.t 77)⟩,
        ⟨some (78, true), .fad 79 1 9⟩,
        ⟨some (78, true), .load 80 79 1 false⟩,
        ⟨some (78, true), .bin 81 .eql (.t 80) (.k (.int .i64 0))⟩,
        ⟨some (76, true), .pick 82 (.t 78) (.t 81) (.k (.bool false))⟩,
        ⟨some (76, true), .mov 83 (.t 82)⟩,
        ⟨some (83, false), .mov 84 (.t 3)⟩,
        ⟨some (83, false), .not 85 (.t 84)⟩,
        ⟨some (83, false), .mov 86 (.t 85)⟩,
        ⟨some (86, true), .fad 87 1 9⟩,
        ⟨some (86, true), .load 88 87 1 false⟩,
        ⟨some (86, true), .call (some 89) 5 [(.t 88), (.k (.int .i64 1)), (.k (.int .i64 99))] false⟩,
        ⟨some (83, false), .pick 90 (.t 86) (.t 89) (.k (.bool false))⟩,
        ⟨some (76, true), .pick 91 (.t 83) (.k (.bool true)) (.t 90)⟩,
        ⟨none, .pick 92 (.t 76) (.t 91) (.k (.bool false))⟩,
        ⟨none, .mov 2 (.t 92)⟩])
       (.ret))
      (.skip)))))))))))
 (.seq (.reg [⟨none, .mov 2 (.k (.bool false))⟩])
 (.ret)))))⟩
/-- spec.TxOutcome -/
def r17 : RF :=
 ⟨1, [.tmp 2],
 .seq (.reg [⟨none, .locb 1 (.t 0)⟩,
  ⟨none, .mov 2 (.k (.int .i64 0))⟩])
 (.seq (.seq (.reg [⟨none, .load 3 1 10 true⟩,
   ⟨none, .call (some 4) 14 [(.t 3)] false⟩,
   ⟨none, .not 5 (.t 4)⟩,
   ⟨none, .mov 6 (.t 5)⟩,
   ⟨some (6, false), .fad 7 1 4⟩,
   ⟨some (6, false), .load 8 7 1 false⟩,
   ⟨some (6, false), .bin 9 .eql (.t 8) (.k (.int .i64 0))⟩,
   ⟨none, .pick 10 (.t 6) (.k (.bool true)) (.t 9)⟩])
  (.cond (.t 10)
  (.seq (.reg [⟨none, .mov 2 (.k (.int .i64 (-1)))⟩])
   (.ret))
  (.skip)))
 (.seq (.reg [⟨none, .fad 11 1 9⟩,
  ⟨none, .load 12 11 1 false⟩,
  ⟨none, .mov 2 (.t 12)⟩])
 (.ret)))⟩
/-- spec.NewTx -/
def r20 : RF :=
 ⟨4, [.cell 8 10 true, .tmp 9],
 .seq (.reg [⟨none, .loc 8 [.int .i64 0, .int .u64 0, .int .u64 0, .int .u64 0, .int .i64 0, .bool false, .bool false, .bool false, .bool false, .int .i64 0]⟩,
  ⟨none, .mov 9 (.k (.bool false))⟩])
 (.seq (.reg [⟨none, .mov 11 (.t 0)⟩,
  ⟨none, .mov 12 (.t 1)⟩,
  ⟨none, .mov 13 (.t 2)⟩,
  ⟨none, .mov 14 (.t 3)⟩,
  ⟨none, .build 15 [.int .i64 0, .int .u64 0, .int .u64 0, .int .u64 0, .int .i64 0, .bool false, .bool false, .bool false, .bool false, .int .i64 0] [(0, 1, (.t 11)), (1, 1, (.t 12)), (2, 1, (.t 13)), (3, 1, (.t 14))]⟩,
  ⟨none, .loc 10 [.int .i64 0, .int .u64 0, .int .u64 0, .int .u64 0, .int .i64 0, .bool false, .bool false, .bool false, .bool false, .int .i64 0]⟩,
  ⟨none, .store 10 10 (.t 15)⟩])
 (.seq (.seq (.reg [⟨none, .load 16 10 10 true⟩,
   ⟨none, .call (some 17) 14 [(.t 16)] false⟩,
   ⟨none, .not 18 (.t 17)⟩])
  (.cond (.t 18)
  (.seq (.reg [⟨none, .build 19 [.int .i64 0, .int .u64 0, .int .u64 0, .int .u64 0, .int .i64 0, .bool false, .bool false, .bool false, .bool false, .int .i64 0] []⟩,
    ⟨none, .store 8 10 (.t 19)⟩,
    ⟨none, .mov 9 (.k (.bool false))⟩])
   (.ret))
  (.skip)))
 (.seq (.reg [⟨none, .load 20 10 10 true⟩,
  ⟨none, .store 8 10 (.t 20)⟩,
  ⟨none, .mov 9 (.k (.bool true))⟩])
 (.ret))))⟩
/-- spec.TxGiveUp -/
def r24 : RF :=
 ⟨2, [.cell 4 10 true, .tmp 5],
 .seq (.reg [⟨none, .locb 2 (.t 0)⟩,
  ⟨none, .loc 4 [.int .i64 0, .int .u64 0, .int .u64 0, .int .u64 0, .int .i64 0, .bool false, .bool false, .bool false, .bool false, .int .i64 0]⟩,
  ⟨none, .mov 5 (.k (.bool false))⟩])
 (.seq (.seq (.reg [⟨none, .load 7 2 10 true⟩,
   ⟨none, .call (some 8) 14 [(.t 7)] false⟩,
   ⟨none, .not 9 (.t 8)⟩,
   ⟨none, .mov 10 (.t 9)⟩,
   ⟨some (10, false), .fad 11 2 4⟩,
   ⟨some (10, false), .load 12 11 1 false⟩,
   ⟨some (10, false), .bin 13 .neq (.t 12) (.k (.int .i64 0))⟩,
   ⟨none, .pick 14 (.t 10) (.k (.bool true)) (.t 13)⟩,
   ⟨none, .mov 15 (.t 14)⟩,
   ⟨some (15, false), .mov 16 (.t 1)⟩,
   ⟨some (15, false), .call (some 17) 5 [(.t 16), (.k (.int .i64 1)), (.k (.int .i64 99))] false⟩,
   ⟨some (15, false), .not 18 (.t 17)⟩,
   ⟨none, .pick 19 (.t 15) (.k (.bool true)) (.t 18)⟩])
  (.cond (.t 19)
  (.seq (.reg [⟨none, .load 20 2 10 true⟩,
    ⟨none, .store 4 10 (.t 20)⟩,
    ⟨none, .mov 5 (.k (.bool false))⟩])
   (.ret))
  (.skip)))
 (.seq (.reg [⟨none, .load 21 2 10 true⟩,
  ⟨none, .loc 6 [.int .i64 0, .int .u64 0, .int .u64 0, .int .u64 0, .int .i64 0, .bool false, .bool false, .bool false, .bool false, .int .i64 0]⟩,
  ⟨none, .store 6 10 (.t 21)⟩])
 (.seq (.reg [⟨none, .fad 22 6 4⟩,
  ⟨none, .store 22 1 (.k (.int .i64 2))⟩])
 (.seq (.reg [⟨none, .mov 23 (.t 1)⟩,
  ⟨none, .fad 24 6 9⟩,
  ⟨none, .store 24 1 (.t 23)⟩])
 (.seq (.reg [⟨none, .load 25 6 10 true⟩,
  ⟨none, .store 4 10 (.t 25)⟩,
  ⟨none, .mov 5 (.k (.bool true))⟩])
 (.ret))))))⟩
/-- spec.TxAck -/
def r32 : RF :=
 ⟨2, [.cell 4 10 true, .tmp 5],
 .seq (.reg [⟨none, .locb 2 (.t 0)⟩,
  ⟨none, .loc 4 [.int .i64 0, .int .u64 0, .int .u64 0, .int .u64 0, .int .i64 0, .bool false, .bool false, .bool false, .bool false, .int .i64 0]⟩,
  ⟨none, .mov 5 (.k (.bool false))⟩])
 (.seq (.seq (.reg [⟨none, .load 7 2 10 true⟩,
   ⟨none, .call (some 8) 14 [(.t 7)] false⟩,
   ⟨none, .not 9 (.t 8)⟩,
   ⟨none, .mov 10 (.t 9)⟩,
   ⟨some (10, false), .fad 11 2 4⟩,
   ⟨some (10, false), .load 12 11 1 false⟩,
   ⟨some (10, false), .call (some 13) 5 [(.t 12), (.k (.int .i64 1)), (.k (.int .i64 2))] false⟩,
   ⟨some (10, false), .not 14 (.t 13)⟩,
   ⟨none, .pick 15 (.t 10) (.k (.bool true)) (.t 14)⟩,
   ⟨none, .mov 16 (.t 15)⟩,
   ⟨some (16, false), .mov 17 (.t 1)⟩,
   ⟨some (16, false), .call (some 18) 5 [(.t 17), (.k (.int .i64 0)), (.k (.int .i64 1))] false⟩,
   ⟨some (16, false), .not 19 (.t 18)⟩,
   ⟨none, .pick 20 (.t 16) (.k (.bool true)) (.t 19)⟩,
   ⟨none, .mov 21 (.t 20)⟩,
   ⟨some (21, false), .mov 22 (.t 1)⟩,
   ⟨some (21, false), .bin 23 .eql (.t 22) (.k (.int .i64 0))⟩,
   ⟨some (21, false), .mov 24 (.t 23)⟩,
   ⟨some (24, true), .fad 25 2 7⟩,
   ⟨some (24, true), .load 26 25 1 false⟩,
   ⟨some (21, false), .pick 27 (.t 24) (.t 26) (.k (.bool false))⟩,
   ⟨none, .pick 28 (.t 21) (.k (.bool true)) (.t 27)⟩,
   ⟨none, .mov 29 (.t 28)⟩,
   ⟨some (29, false), .mov 30 (.t 1)⟩,
   ⟨some (29, false), .bin 31 .eql (.t 30) (.k (.int .i64 1))⟩,
   ⟨some (29, false), .mov 32 (.t 31)⟩,
   ⟨some (32, true), .fad 33 2 8⟩,
   ⟨some (32, true), .load 34 33 1 false⟩,
   ⟨some (29, false), .pick 35 (.t 32) (.t 34) (.k (.bool false))⟩,
   ⟨none, .pick 36 (.t 29) (.k (.bool true)) (.t 35)⟩])
  (.cond (.t 36)
  (.seq (.reg [⟨none, .load 37 2 10 true⟩,
    ⟨none, .store 4 10 (.t 37)⟩,
    ⟨none, .mov 5 (.k (.bool false))⟩])
   (.ret))
  (.skip)))
 (.seq (.reg [⟨none, .load 38 2 10 true⟩,
  ⟨none, .loc 6 [.int .i64 0, .int .u64 0, .int .u64 0, .int .u64 0, .int .i64 0, .bool false, .bool false, .bool false, .bool false, .int .i64 0]⟩,
  ⟨none, .store 6 10 (.t 38)⟩])
 (.seq (.reg [⟨none, .fad 39 2 7⟩,
  ⟨none, .load 40 39 1 false⟩,
  ⟨none, .mov 41 (.t 40)⟩,
  ⟨some (41, false), .mov 42 (.t 1)⟩,
  ⟨some (41, false), .bin 43 .eql (.t 42) (.k (.int .i64 0))⟩,
  ⟨none, .pick 44 (.t 41) (.k (.bool true)) (.t 43)⟩,
  ⟨none, .fad 45 6 7⟩,
  ⟨none, .store 45 1 (.t 44)⟩])
 (.seq (.reg [⟨none, .fad 46 2 8⟩,
  ⟨none, .load 47 46 1 false⟩,
  ⟨none, .mov 48 (.t 47)⟩,
  ⟨some (48, false), .mov 49 (.t 1)⟩,
  ⟨some (48, false), .bin 50 .eql (.t 49) (.k (.int .i64 1))⟩,
  ⟨none, .pick 51 (.t 48) (.k (.bool true)) (.t 50)⟩,
  ⟨none, .fad 52 6 8⟩,
  ⟨none, .store 52 1 (.t 51)⟩])
 (.seq (.seq (.reg [⟨none, .fad 53 6 7⟩,
   ⟨none, .load 54 53 1 false⟩,
   ⟨none, .mov 55 (.t 54)⟩,
   ⟨some (55, true), .fad 56 6 8⟩,
   ⟨some (55, true), .load 57 56 1 false⟩,
   ⟨none, .pick 58 (.t 55) (.t 57) (.k (.bool false))⟩])
  (.cond (.t 58)
  (.reg [⟨none, .fad 59 6 4⟩,
   ⟨none, .store 59 1 (.k (.int .i64 3))⟩])
  (.skip)))
 (.seq (.reg [⟨none, .load 60 6 10 true⟩,
  ⟨none, .store 4 10 (.t 60)⟩,
  ⟨none, .mov 5 (.k (.bool true))⟩])
 (.ret)))))))⟩
/-- spec.TxVote -/
def r35 : RF :=
 ⟨3, [.cell 6 10 true, .tmp 7],
 .seq (.reg [⟨none, .locb 3 (.t 0)⟩,
  ⟨none, .loc 6 [.int .i64 0, .int .u64 0, .int .u64 0, .int .u64 0, .int .i64 0, .bool false, .bool false, .bool false, .bool false, .int .i64 0]⟩,
  ⟨none, .mov 7 (.k (.bool false))⟩])
 (.seq (.seq (.reg [⟨none, .load 9 3 10 true⟩,
   ⟨none, .call (some 10) 14 [(.t 9)] false⟩,
   ⟨none, .not 11 (.t 10)⟩,
   ⟨none, .mov 12 (.t 11)⟩,
   ⟨some (12, false), .fad 13 3 4⟩,
   ⟨some (12, false), .load 14 13 1 false⟩,
   ⟨some (12, false), .bin 15 .neq (.t 14) (.k (.int .i64 0))⟩,
   ⟨none, .pick 16 (.t 12) (.k (.bool true)) (.t 15)⟩,
   ⟨none, .mov 17 (.t 16)⟩,
   ⟨some (17, false), .mov 18 (.t 1)⟩,
   ⟨some (17, false), .call (some 19) 5 [(.t 18), (.k (.int .i64 0)), (.k (.int .i64 1))] false⟩,
   ⟨some (17, false), .not 20 (.t 19)⟩,
   ⟨none, .pick 21 (.t 17) (.k (.bool true)) (.t 20)⟩,
   ⟨none, .mov 22 (.t 21)⟩,
   ⟨some (22, false), .mov 23 (.t 2)⟩,
   ⟨some (22, false), .call (some 24) 5 [(.t 23), (.k (.int .i64 0)), (.k (.int .i64 99))] false⟩,
   ⟨some (22, false), .not 25 (.t 24)⟩,
   ⟨none, .pick 26 (.t 22) (.k (.bool true)) (.t 25)⟩,
   ⟨none, .mov 27 (.t 26)⟩,
   ⟨some (27, false), .mov 28 (.t 1)⟩,
   ⟨some (27, false), .bin 29 .eql (.t 28) (.k (.int .i64 0))⟩,
   ⟨some (27, false), .mov 30 (.t 29)⟩,
   ⟨some (30, true), .fad 31 3 5⟩,
   ⟨some (30, true), .load 32 31 1 false⟩,
   ⟨some (27, false), .pick 33 (.t 30) (.t 32) (.k (.bool false))⟩,
   ⟨none, .pick 34 (.t 27) (.k (.bool true)) (.t 33)⟩,
   ⟨none, .mov 35 (.t 34)⟩,
   ⟨some (35, false), .mov 36 (.t 1)⟩,
   ⟨some (35, false), .bin 37 .eql (.t 36) (.k (.int .i64 1))⟩,
   ⟨some (35, false), .mov 38 (.t 37)⟩,
   ⟨some (38, true), .fad 39 3 6⟩,
   ⟨some (38, true), .load 40 39 1 false⟩,
   ⟨some (35, false), .pick 41 (.t 38) (.t 40) (.k (.bool false))⟩,
   ⟨none, .pick 42 (.t 35) (.k (.bool true)) (.t 41)⟩])
  (.cond (.t 42)
  (.seq (.reg [⟨none, .load 43 3 10 true⟩,
    ⟨none, .store 6 10 (.t 43)⟩,
    ⟨none, .mov 7 (.k (.bool false))⟩])
   (.ret))
  (.skip)))
 (.seq (.reg [⟨none, .load 44 3 10 true⟩,
  ⟨none, .loc 8 [.int .i64 0, .int .u64 0, .int .u64 0, .int .u64 0, .int .i64 0, .bool false, .bool false, .bool false, .bool false, .int .i64 0]⟩,
  ⟨none, .store 8 10 (.t 44)⟩])
 (.seq (.seq (.reg [⟨none, .mov 45 (.t 2)⟩,
   ⟨none, .bin 46 .gtr (.t 45) (.k (.int .i64 0))⟩])
  (.cond (.t 46)
  (.seq (.reg [⟨none, .fad 47 8 4⟩,
    ⟨none, .store 47 1 (.k (.int .i64 2))⟩])
   (.seq (.reg [⟨none, .mov 48 (.t 2)⟩,
    ⟨none, .fad 49 8 9⟩,
    ⟨none, .store 49 1 (.t 48)⟩])
   (.seq (.reg [⟨none, .load 50 8 10 true⟩,
    ⟨none, .store 6 10 (.t 50)⟩,
    ⟨none, .mov 7 (.k (.bool true))⟩])
   (.ret))))
  (.skip)))
 (.seq (.reg [⟨none, .fad 51 3 5⟩,
  ⟨none, .load 52 51 1 false⟩,
  ⟨none, .mov 53 (.t 52)⟩,
  ⟨some (53, false), .mov 54 (.t 1)⟩,
  ⟨some (53, false), .bin 55 .eql (.t 54) (.k (.int .i64 0))⟩,
  ⟨none, .pick 56 (.t 53) (.k (.bool true)) (.t 55)⟩,
  ⟨none, .fad 57 8 5⟩,
  ⟨none, .store 57 1 (.t 56)⟩])
 (.seq (.reg [⟨none, .fad 58 3 6⟩,
  ⟨none, .load 59 58 1 false⟩,
  ⟨none, .mov 60 (.t 59)⟩,
  ⟨some (60, false), .mov 61 (.t 1)⟩,
  ⟨some (60, false), .bin 62 .eql (.t 61) (.k (.int .i64 1))⟩,
  ⟨none, .pick 63 (.t 60) (.k (.bool true)) (.t 62)⟩,
  ⟨none, .fad 64 8 6⟩,
  ⟨none, .store 64 1 (.t 63)⟩])
 (.seq (.seq (.reg [⟨none, .fad 65 8 5⟩,
   ⟨none, .load 66 65 1 false⟩,
   ⟨none, .mov 67 (.t 66)⟩,
   ⟨some (67, true), .fad 68 8 6⟩,
   ⟨some (67, true), .load 69 68 1 false⟩,
   ⟨none, .pick 70 (.t 67) (.t 69) (.k (.bool false))⟩])
  (.cond (.t 70)
  (.reg [⟨none, .fad 71 8 4⟩,
   ⟨none, .store 71 1 (.k (.int .i64 1))⟩])
  (.skip)))
 (.seq (.reg [⟨none, .load 72 8 10 true⟩,
  ⟨none, .store 6 10 (.t 72)⟩,
  ⟨none, .mov 7 (.k (.bool true))⟩])
 (.ret))))))))⟩
/-- A loop of spec.TxSends. -/
def r46L0 : RC :=
 .seq (.seq (.reg [⟨none, .mov 17 (.t 4)⟩,
      ⟨none, .bin 18 .lss (.t 17) (.k (.int .i64 2))⟩])
     (.cond (.t 18)
     (.skip)
     (.exit 0)))
    (.seq (.block 1 (.seq (.reg [⟨none, .fad 21 1 1⟩,
       ⟨none, .load 22 21 1 false⟩,
       ⟨none, .fad 23 1 0⟩,
       ⟨none, .load 24 23 1 false⟩,
       ⟨none, .build 25 [.int .i64 0, .int .i64 0, .int .u64 0, .int .u64 0, .int .i64 0] [(2, 1, (.t 22)), (4, 1, (.t 24))]⟩,
       ⟨none, .loc 5 [.int .i64 0, .int .i64 0, .int .u64 0, .int .u64 0, .int .i64 0]⟩,
       ⟨none, .store 5 5 (.t 25)⟩])
      (.seq (.reg [⟨none, .chk []⟩,
       ⟨none, .fad 26 1 5⟩,
       ⟨none, .load 27 26 1 false⟩,
       ⟨none, .mov 6 (.t 27)⟩,
       ⟨none, .fad 28 1 7⟩,
       ⟨none, .load 29 28 1 false⟩,
       ⟨none, .mov 7 (.t 29)⟩])
      (.seq (.seq (.reg [⟨none, .mov 30 (.t 4)⟩,
        ⟨none, .bin 31 .eql (.t 30) (.k (.int .i64 1))⟩])
       (.cond (.t 31)
       (.seq (.reg [⟨none, .fad 32 1 2⟩,
         ⟨none, .load 33 32 1 false⟩,
         ⟨none, .fad 34 5 2⟩,
         ⟨none, .store 34 1 (.t 33)⟩])
        (.reg [⟨none, .chk []⟩,
        ⟨none, .fad 35 1 6⟩,
        ⟨none, .load 36 35 1 false⟩,
        ⟨none, .mov 6 (.t 36)⟩,
        ⟨none, .fad 37 1 8⟩,
        ⟨none, .load 38 37 1 false⟩,
        ⟨none, .mov 7 (.t 38)⟩]))
       (.skip)))
      (.block 2 (.seq (.reg [⟨none, .fad 40 1 4⟩,
        ⟨none, .load 41 40 1 false⟩,
        ⟨none, .bin 42 .eql (.t 41) (.k (.int .i64 0))⟩,
        ⟨none, .mov 43 (.t 42)⟩,
        ⟨some (43, true), .mov 44 (.t 6)⟩,
        ⟨some (43, true), .not 45 (.t 44)⟩,
        ⟨none, .pick 46 (.t 43) (.t 45) (.k (.bool false))⟩,
        ⟨none, .mov 39 (.t 46)⟩])
       (.cond (.t 39)
       (.seq (.reg [⟨none, .mov 47 (.t 4)⟩,
         ⟨none, .bin 48 .add (.k (.int .i64 4)) (.t 47)⟩,
         ⟨none, .fad 49 5 1⟩,
         ⟨none, .store 49 1 (.t 48)⟩])
        (.seq (.reg [⟨none, .fad 50 1 3⟩,
         ⟨none, .load 51 50 1 false⟩,
         ⟨none, .fad 52 5 3⟩,
         ⟨none, .store 52 1 (.t 51)⟩])
        (.reg [⟨none, .mov 53 (.t 3)⟩,
        ⟨none, .load 54 5 5 true⟩,
        ⟨none, .lit 55 3 1 [.int .i64 0, .int .i64 0, .int .u64 0, .int .u64 0, .int .i64 0] [(0, (.t 54))]⟩,
        ⟨none, .app 56 3 40 (.t 53) (.t 55)⟩,
        ⟨none, .mov 3 (.t 56)⟩])))
       (.seq (.reg [⟨none, .fad 58 1 4⟩,
         ⟨none, .load 59 58 1 false⟩,
         ⟨none, .bin 60 .eql (.t 59) (.k (.int .i64 1))⟩,
         ⟨none, .mov 61 (.t 60)⟩,
         ⟨some (61, true), .mov 62 (.t 7)⟩,
         ⟨some (61, true), .not 63 (.t 62)⟩,
         ⟨none, .pick 64 (.t 61) (.t 63) (.k (.bool false))⟩,
         ⟨none, .mov 57 (.t 64)⟩])
        (.cond (.t 57)
        (.seq (.reg [⟨none, .fad 65 5 1⟩,
          ⟨none, .store 65 1 (.k (.int .i64 6))⟩])
         (.reg [⟨none, .mov 66 (.t 3)⟩,
         ⟨none, .load 67 5 5 true⟩,
         ⟨none, .lit 68 3 1 [.int .i64 0, .int .i64 0, .int .u64 0, .int .u64 0, .int .i64 0] [(0, (.t 67))]⟩,
         ⟨none, .app 69 3 40 (.t 66) (.t 68)⟩,
         ⟨none, .mov 3 (.t 69)⟩]))
        (.seq (.reg [⟨none, .fad 71 1 4⟩,
          ⟨none, .load 72 71 1 false⟩,
          ⟨none, .bin 73 .eql (.t 72) (.k (.int .i64 2))⟩,
          ⟨none, .mov 74 (.t 73)⟩,
          ⟨some (74, true), .mov 75 (.t 7)⟩,
          ⟨some (74, true), .not 76 (.t 75)⟩,
          ⟨none, .pick 77 (.t 74) (.t 76) (.k (.bool false))⟩,
          ⟨none, .mov 70 (.t 77)⟩])
         (.cond (.t 70)
         (.seq (.reg [⟨none, .fad 78 5 1⟩,
           ⟨none, .store 78 1 (.k (.int .i64 7))⟩])
          (.reg [⟨none, .mov 79 (.t 3)⟩,
          ⟨none, .load 80 5 5 true⟩,
          ⟨none, .lit 81 3 1 [.int .i64 0, .int .i64 0, .int .u64 0, .int .u64 0, .int .i64 0] [(0, (.t 80))]⟩,
          ⟨none, .app 82 3 40 (.t 79) (.t 81)⟩,
          ⟨none, .mov 3 (.t 82)⟩]))
         (.skip))))))))))))
    (.reg [⟨none, .mov 19 (.t 4)⟩,
    ⟨none, .bin 20 .add (.t 19) (.k (.int .i64 1))⟩,
    ⟨none, .mov 4 (.t 20)⟩]))
/-- spec.TxSends -/
def r46 : RF :=
 ⟨1, [.tmp 2],
 .seq (.reg [⟨none, .locb 1 (.t 0)⟩,
  ⟨none, .mov 2 (.k (.nil))⟩])
 (.seq (.reg [⟨none, .lit 8 3 0 [.int .i64 0, .int .i64 0, .int .u64 0, .int .u64 0, .int .i64 0] []⟩,
  ⟨none, .mov 3 (.t 8)⟩])
 (.seq (.seq (.reg [⟨none, .load 9 1 10 true⟩,
   ⟨none, .call (some 10) 14 [(.t 9)] false⟩,
   ⟨none, .not 11 (.t 10)⟩,
   ⟨none, .mov 12 (.t 11)⟩,
   ⟨some (12, false), .fad 13 1 4⟩,
   ⟨some (12, false), .load 14 13 1 false⟩,
   ⟨some (12, false), .bin 15 .eql (.t 14) (.k (.int .i64 3))⟩,
   ⟨none, .pick 16 (.t 12) (.k (.bool true)) (.t 15)⟩])
  (.cond (.t 16)
  (.seq (.reg [⟨none, .mov 2 (.k (.nil))⟩])
   (.ret))
  (.skip)))
 (.seq (.seq (.reg [⟨none, .mov 4 (.k (.int .i64 0))⟩])
  (.block 0 (.loop [1, 3, 4]
   r46L0)))
 (.seq (.reg [⟨none, .mov 83 (.t 3)⟩,
  ⟨none, .mov 2 (.t 83)⟩])
 (.ret)))))⟩
/-- A loop of spec.PlayTx. -/
def r59L0 : RC :=
 .seq (.seq (.reg [⟨none, .mov 20 (.t 7)⟩,
      ⟨none, .mov 21 (.t 1)⟩,
      ⟨none, .len 22 (.t 21)⟩,
      ⟨none, .bin 23 .lss (.t 20) (.t 22)⟩])
     (.cond (.t 23)
     (.skip)
     (.exit 0)))
    (.seq (.block 1 (.seq (.reg [⟨none, .mov 8 (.k (.bool false))⟩])
      (.seq (.reg [⟨none, .mov 26 (.t 1)⟩,
       ⟨none, .mov 27 (.t 7)⟩,
       ⟨none, .idx 28 5 (.t 26) (.t 27)⟩,
       ⟨none, .load 29 28 3 true⟩,
       ⟨none, .loc 9 [.int .i64 0, .int .i64 0, .int .i64 0]⟩,
       ⟨none, .store 9 3 (.t 29)⟩])
      (.seq (.seq (.reg [⟨none, .fad 30 9 0⟩,
        ⟨none, .load 31 30 1 false⟩])
       (.block 2 (.seq (.reg [⟨none, .bin 33 .eql (.t 31) (.k (.int .i64 0))⟩,
         ⟨none, .mov 32 (.t 33)⟩])
        (.cond (.t 32)
        (.reg [⟨none, .load 35 2 10 true⟩,
         ⟨none, .fad 36 9 1⟩,
         ⟨none, .load 37 36 1 false⟩,
         ⟨none, .fad 38 9 2⟩,
         ⟨none, .load 39 38 1 false⟩,
         ⟨none, .call (some 40) 35 [(.t 35), (.t 37), (.t 39)] false⟩,
         ⟨none, .mov 34 (.t 40)⟩,
         ⟨none, .ext 41 (.t 34) 0⟩,
         ⟨none, .ext 42 (.t 34) 1⟩,
         ⟨none, .store 2 10 (.t 41)⟩,
         ⟨none, .mov 8 (.t 42)⟩])
        (.seq (.reg [⟨none, .bin 44 .eql (.t 31) (.k (.int .i64 1))⟩,
          ⟨none, .mov 43 (.t 44)⟩])
         (.cond (.t 43)
         (.reg [⟨none, .load 46 2 10 true⟩,
          ⟨none, .fad 47 9 1⟩,
          ⟨none, .load 48 47 1 false⟩,
          ⟨none, .call (some 49) 32 [(.t 46), (.t 48)] false⟩,
          ⟨none, .mov 45 (.t 49)⟩,
          ⟨none, .ext 50 (.t 45) 0⟩,
          ⟨none, .ext 51 (.t 45) 1⟩,
          ⟨none, .store 2 10 (.t 50)⟩,
          ⟨none, .mov 8 (.t 51)⟩])
         (.seq (.reg [⟨none, .bin 53 .eql (.t 31) (.k (.int .i64 2))⟩,
           ⟨none, .mov 52 (.t 53)⟩])
          (.cond (.t 52)
          (.reg [⟨none, .load 55 2 10 true⟩,
           ⟨none, .fad 56 9 2⟩,
           ⟨none, .load 57 56 1 false⟩,
           ⟨none, .call (some 58) 24 [(.t 55), (.t 57)] false⟩,
           ⟨none, .mov 54 (.t 58)⟩,
           ⟨none, .ext 59 (.t 54) 0⟩,
           ⟨none, .ext 60 (.t 54) 1⟩,
           ⟨none, .store 2 10 (.t 59)⟩,
           ⟨none, .mov 8 (.t 60)⟩])
          (.skip)))))))))
      (.reg [⟨none, .mov 61 (.t 6)⟩,
      ⟨none, .mov 62 (.t 8)⟩,
      ⟨none, .lit 63 4 1 [.bool false] [(0, (.t 62))]⟩,
      ⟨none, .app 64 4 1 (.t 61) (.t 63)⟩,
      ⟨none, .mov 6 (.t 64)⟩])))))
    (.reg [⟨none, .mov 24 (.t 7)⟩,
    ⟨none, .bin 25 .add (.t 24) (.k (.int .i64 1))⟩,
    ⟨none, .mov 7 (.t 25)⟩]))
/-- spec.PlayTx -/
def r59 : RF :=
 ⟨2, [.cell 4 10 true, .tmp 5],
 .seq (.reg [⟨none, .locb 2 (.t 0)⟩,
  ⟨none, .loc 4 [.int .i64 0, .int .u64 0, .int .u64 0, .int .u64 0, .int .i64 0, .bool false, .bool false, .bool false, .bool false, .int .i64 0]⟩,
  ⟨none, .mov 5 (.k (.nil))⟩])
 (.seq (.seq (.reg [⟨none, .load 10 2 10 true⟩,
   ⟨none, .call (some 11) 14 [(.t 10)] false⟩,
   ⟨none, .not 12 (.t 11)⟩,
   ⟨none, .mov 13 (.t 12)⟩,
   ⟨some (13, false), .mov 14 (.t 1)⟩,
   ⟨some (13, false), .len 15 (.t 14)⟩,
   ⟨some (13, false), .bin 16 .gtr (.t 15) (.k (.int .i64 100))⟩,
   ⟨none, .pick 17 (.t 13) (.k (.bool true)) (.t 16)⟩])
  (.cond (.t 17)
  (.seq (.reg [⟨none, .load 18 2 10 true⟩,
    ⟨none, .store 4 10 (.t 18)⟩,
    ⟨none, .mov 5 (.k (.nil))⟩])
   (.ret))
  (.skip)))
 (.seq (.reg [⟨none, .lit 19 4 0 [.bool false] []⟩,
  ⟨none, .mov 6 (.t 19)⟩])
 (.seq (.seq (.reg [⟨none, .mov 7 (.k (.int .i64 0))⟩])
  (.block 0 (.loop [1, 2, 4, 6, 7]
   r59L0)))
 (.seq (.reg [⟨none, .load 65 2 10 true⟩,
  ⟨none, .mov 66 (.t 6)⟩,
  ⟨none, .store 4 10 (.t 65)⟩,
  ⟨none, .mov 5 (.t 66)⟩])
 (.ret)))))⟩
/-- The functions of this text, with their numbers. -/
def tS14 : List (Nat × RF) := [(14, r14), (17, r17), (20, r20), (24, r24), (32, r32), (35, r35), (46, r46), (59, r59)]
end Go.Proofs.Ytgogajbfiocdbaa.A
