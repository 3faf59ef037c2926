/- The functions that the statement reaches, part 2: bodies and what they compute. No condition. -/
import Derived.Test.YtlfepembgjjejaaHCExactHolders1
import Derived.Test.YtlfepembgjjejaaA1
import Derived.Test.YtlfepembgjjejaaB8
import Derived.Test.YtlfepembgjjejaaB6
import Derived.Test.YtlfepembgjjejaaB5
import Derived.Test.YtlfepembgjjejaaD
/- The compact code of some functions: spec.HandOk, spec.HandDone, spec.HandHas, spec.LiveTotal, spec.l15All, spec.l15Newest, spec.Holders, spec.HandSend, spec.HandTake. -/
namespace Go.Proofs.Ytlfepembgjjejaa.A
open Go
/-- spec.HandOk -/
def r3 : RF :=
 ⟨1, [.tmp 2],
 .seq (.reg [⟨none, .locb 1 (.t 0)⟩,
  ⟨none, .mov 2 (.k (.bool false))⟩])
 (.seq (.reg [⟨none, .fad 3 1 1⟩,
  ⟨none, .load 4 3 1 false⟩,
  ⟨none, .call (some 5) 5 [(.t 4), (.k (.int .i64 0)), (.k (.int .i64 99))] false⟩,
  ⟨none, .mov 6 (.t 5)⟩,
  ⟨some (6, true), .fad 7 1 2⟩,
  ⟨some (6, true), .load 8 7 1 false⟩,
  ⟨some (6, true), .call (some 9) 5 [(.t 8), (.k (.int .i64 0)), (.k (.int .i64 99))] false⟩,
  ⟨none, .pick 10 (.t 6) (.t 9) (.k (.bool false))⟩,
  ⟨none, .mov 11 (.t 10)⟩,
  ⟨some (11, true), .fad 12 1 1⟩,
  ⟨some (11, true), .load 13 12 1 false⟩,
  ⟨some (11, true), .fad 14 1 2⟩,
  ⟨some (11, true), .load 15 14 1 false⟩,
  ⟨some (11, true), .bin 16 .neq (.t 13) (.t 15)⟩,
  ⟨none, .pick 17 (.t 11) (.t 16) (.k (.bool false))⟩,
  ⟨none, .mov 18 (.t 17)⟩,
  ⟨some (18, true), .fad 19 1 3⟩,
  ⟨some (18, true), .load 20 19 1 false⟩,
  ⟨some (18, true), .call (some 21) 5 [(.t 20), (.k (.int .i64 1)), (.k (.int .i64 999999))] false⟩,
  ⟨none, .pick 22 (.t 18) (.t 21) (.k (.bool false))⟩,
  ⟨none, .mov 23 (.t 22)⟩,
  ⟨some (23, true), .fad 24 1 4⟩,
  ⟨some (23, true), .load 25 24 1 false⟩,
  ⟨some (23, true), .call (some 26) 5 [(.t 25), (.k (.int .i64 0)), (.k (.int .i64 3))] false⟩,
  ⟨none, .pick 27 (.t 23) (.t 26) (.k (.bool false))⟩,
  ⟨none, .mov 2 (.t 27)⟩])
 (.ret))⟩
/-- spec.HandDone -/
def r84 : RF :=
 ⟨2, [.cell 4 5 true, .tmp 5],
 .seq (.reg [⟨none, .locb 2 (.t 0)⟩,
  ⟨none, .locb 3 (.t 1)⟩,
  ⟨none, .loc 4 [.int .u64 0, .int .i64 0, .int .i64 0, .int .i64 0, .int .i64 0]⟩,
  ⟨none, .mov 5 (.k (.bool false))⟩])
 (.seq (.reg [⟨none, .fad 7 2 3⟩,
  ⟨none, .load 8 7 1 false⟩,
  ⟨none, .mov 6 (.t 8)⟩])
 (.seq (.seq (.reg [⟨none, .fad 9 2 4⟩,
   ⟨none, .load 10 9 1 false⟩,
   ⟨none, .bin 11 .eql (.t 10) (.k (.int .i64 1))⟩])
  (.cond (.t 11)
  (.reg [⟨none, .fad 12 2 3⟩,
   ⟨none, .load 13 12 1 false⟩,
   ⟨none, .bin 14 .add (.t 13) (.k (.int .i64 1))⟩,
   ⟨none, .mov 6 (.t 14)⟩])
  (.skip)))
 (.seq (.seq (.reg [⟨none, .load 15 2 5 true⟩,
   ⟨none, .call (some 16) 3 [(.t 15)] false⟩,
   ⟨none, .not 17 (.t 16)⟩,
   ⟨none, .mov 18 (.t 17)⟩,
   ⟨some (18, false), .fad 19 2 4⟩,
   ⟨some (18, false), .load 20 19 1 false⟩,
   ⟨some (18, false), .bin 21 .eql (.t 20) (.k (.int .i64 3))⟩,
   ⟨none, .pick 22 (.t 18) (.k (.bool true)) (.t 21)⟩,
   ⟨none, .mov 23 (.t 22)⟩,
   ⟨some (23, false), .fad 24 3 0⟩,
   ⟨some (23, false), .load 25 24 1 false⟩,
   ⟨some (23, false), .fad 26 2 4⟩,
   ⟨some (23, false), .load 27 26 1 false⟩,
   ⟨some (23, false), .bin 28 .neq (.t 25) (.t 27)⟩,
   ⟨none, .pick 29 (.t 23) (.k (.bool true)) (.t 28)⟩,
   ⟨none, .mov 30 (.t 29)⟩,
   ⟨some (30, false), .fad 31 3 1⟩,
   ⟨some (30, false), .load 32 31 1 false⟩,
   ⟨some (30, false), .fad 33 2 0⟩,
   ⟨some (30, false), .load 34 33 1 false⟩,
   ⟨some (30, false), .bin 35 .neq (.t 32) (.t 34)⟩,
   ⟨none, .pick 36 (.t 30) (.k (.bool true)) (.t 35)⟩,
   ⟨none, .mov 37 (.t 36)⟩,
   ⟨some (37, false), .fad 38 3 3⟩,
   ⟨some (37, false), .load 39 38 1 false⟩,
   ⟨some (37, false), .mov 40 (.t 6)⟩,
   ⟨some (37, false), .bin 41 .neq (.t 39) (.t 40)⟩,
   ⟨none, .pick 42 (.t 37) (.k (.bool true)) (.t 41)⟩])
  (.cond (.t 42)
  (.seq (.reg [⟨none, .load 43 2 5 true⟩,
    ⟨none, .store 4 5 (.t 43)⟩,
    ⟨none, .mov 5 (.k (.bool false))⟩])
   (.ret))
  (.skip)))
 (.seq (.reg [⟨none, .fad 44 2 4⟩,
  ⟨none, .load 45 44 1 false⟩,
  ⟨none, .bin 46 .add (.t 45) (.k (.int .i64 1))⟩,
  ⟨none, .fad 47 2 4⟩,
  ⟨none, .store 47 1 (.t 46)⟩])
 (.seq (.reg [⟨none, .load 48 2 5 true⟩,
  ⟨none, .store 4 5 (.t 48)⟩,
  ⟨none, .mov 5 (.k (.bool true))⟩])
 (.ret))))))⟩
/-- spec.HandHas -/
def r166 : RF :=
 ⟨2, [.tmp 4],
 .seq (.reg [⟨none, .locb 2 (.t 0)⟩,
  ⟨none, .locb 3 (.t 1)⟩,
  ⟨none, .mov 4 (.k (.bool false))⟩])
 (.seq (.seq (.reg [⟨none, .load 7 2 3 true⟩,
   ⟨none, .call (some 8) 156 [(.t 7)] false⟩,
   ⟨none, .not 9 (.t 8)⟩,
   ⟨none, .mov 10 (.t 9)⟩,
   ⟨some (10, false), .fad 11 2 0⟩,
   ⟨some (10, false), .load 12 11 1 false⟩,
   ⟨some (10, false), .fad 13 3 2⟩,
   ⟨some (10, false), .load 14 13 1 false⟩,
   ⟨some (10, false), .bin 15 .neq (.t 12) (.t 14)⟩,
   ⟨none, .pick 16 (.t 10) (.k (.bool true)) (.t 15)⟩])
  (.cond (.t 16)
  (.seq (.reg [⟨none, .mov 4 (.k (.bool false))⟩])
   (.ret))
  (.skip)))
 (.seq (.reg [⟨none, .chk []⟩,
  ⟨none, .load 17 2 3 true⟩,
  ⟨none, .fad 18 3 1⟩,
  ⟨none, .load 19 18 1 false⟩,
  ⟨none, .load 21 2 3 true⟩,
  ⟨none, .fad 22 3 1⟩,
  ⟨none, .load 23 22 1 false⟩,
  ⟨none, .call (some 20) 210 [(.t 17), (.t 19), (.k (.int .i64 1))] true⟩,
  ⟨none, .call (some 24) 210 [(.t 21), (.t 23), (.k (.int .i64 0))] true⟩,
  ⟨none, .mov 5 (.t 20)⟩,
  ⟨none, .mov 6 (.t 24)⟩])
 (.seq (.seq (.reg [⟨none, .fad 25 3 0⟩,
   ⟨none, .load 26 25 1 false⟩])
  (.block 0 (.seq (.reg [⟨none, .bin 28 .eql (.t 26) (.k (.int .i64 0))⟩,
    ⟨none, .mov 27 (.t 28)⟩])
   (.cond (.t 27)
   (.seq (.reg [⟨none, .chk []⟩,
     ⟨none, .mov 29 (.t 5)⟩,
     ⟨none, .bin 30 .geq (.t 29) (.k (.int .i64 0))⟩,
     ⟨none, .mov 31 (.t 30)⟩,
     ⟨some (31, true), .mov 34 (.t 5)⟩,
     ⟨some (31, true), .fad 32 2 2⟩,
     ⟨some (31, true), .load 33 32 1 false⟩,
     ⟨some (31, true), .idx 35 16 (.t 33) (.t 34)⟩,
     ⟨some (31, true), .fad 36 35 3⟩,
     ⟨some (31, true), .load 37 36 1 false⟩,
     ⟨some (31, true), .fad 38 3 3⟩,
     ⟨some (31, true), .load 39 38 1 false⟩,
     ⟨some (31, true), .bin 40 .eql (.t 37) (.t 39)⟩,
     ⟨none, .pick 41 (.t 31) (.t 40) (.k (.bool false))⟩,
     ⟨none, .mov 4 (.t 41)⟩])
    (.ret))
   (.seq (.reg [⟨none, .bin 43 .eql (.t 26) (.k (.int .i64 1))⟩,
     ⟨none, .mov 42 (.t 43)⟩])
    (.cond (.t 42)
    (.seq (.reg [⟨none, .chk []⟩,
      ⟨none, .mov 44 (.t 6)⟩,
      ⟨none, .bin 45 .geq (.t 44) (.k (.int .i64 0))⟩,
      ⟨none, .mov 46 (.t 45)⟩,
      ⟨some (46, true), .mov 49 (.t 6)⟩,
      ⟨some (46, true), .fad 47 2 2⟩,
      ⟨some (46, true), .load 48 47 1 false⟩,
      ⟨some (46, true), .idx 50 16 (.t 48) (.t 49)⟩,
      ⟨some (46, true), .fad 51 50 3⟩,
      ⟨some (46, true), .load 52 51 1 false⟩,
      ⟨some (46, true), .fad 53 3 3⟩,
      ⟨some (46, true), .load 54 53 1 false⟩,
      ⟨some (46, true), .bin 55 .eql (.t 52) (.t 54)⟩,
      ⟨none, .pick 56 (.t 46) (.t 55) (.k (.bool false))⟩,
      ⟨none, .mov 4 (.t 56)⟩])
     (.ret))
    (.seq (.reg [⟨none, .bin 58 .eql (.t 26) (.k (.int .i64 2))⟩,
      ⟨none, .mov 57 (.t 58)⟩])
     (.cond (.t 57)
     (.seq (.reg [⟨none, .load 59 2 3 true⟩,
       ⟨none, .fad 60 3 1⟩,
       ⟨none, .load 61 60 1 false⟩,
       ⟨none, .call (some 62) 211 [(.t 59), (.t 61)] false⟩,
       ⟨none, .bin 63 .lss (.t 62) (.k (.int .i64 0))⟩,
       ⟨none, .mov 64 (.t 63)⟩,
       ⟨some (64, true), .fad 65 2 1⟩,
       ⟨some (64, true), .load 66 65 1 false⟩,
       ⟨some (64, true), .fad 67 3 3⟩,
       ⟨some (64, true), .load 68 67 1 false⟩,
       ⟨some (64, true), .bin 69 .geq (.t 66) (.t 68)⟩,
       ⟨none, .pick 70 (.t 64) (.t 69) (.k (.bool false))⟩,
       ⟨none, .mov 4 (.t 70)⟩])
      (.ret))
     (.skip)))))))))
 (.seq (.reg [⟨none, .mov 4 (.k (.bool false))⟩])
 (.ret)))))⟩
/-- A loop of spec.LiveTotal. -/
def r171L0 : RC :=
 .seq (.seq (.reg [⟨none, .mov 17 (.t 7)⟩,
          ⟨none, .mov 18 (.t 0)⟩,
          ⟨none, .mov 19 (.t 6)⟩,
          ⟨none, .idx 20 18 (.t 18) (.t 19)⟩,
          ⟨none, .fad 21 20 2⟩,
          ⟨none, .load 22 21 1 false⟩,
          ⟨none, .len 23 (.t 22)⟩,
          ⟨none, .bin 24 .lss (.t 17) (.t 23)⟩])
         (.cond (.t 24)
         (.skip)
         (.exit 2)))
        (.seq (.block 3 (.seq (.reg [⟨none, .mov 27 (.t 0)⟩,
           ⟨none, .mov 28 (.t 0)⟩,
           ⟨none, .mov 29 (.t 6)⟩,
           ⟨none, .idx 30 18 (.t 28) (.t 29)⟩,
           ⟨none, .fad 31 30 2⟩,
           ⟨none, .load 32 31 1 false⟩,
           ⟨none, .mov 33 (.t 7)⟩,
           ⟨none, .idx 34 16 (.t 32) (.t 33)⟩,
           ⟨none, .load 35 34 6 true⟩,
           ⟨none, .call (some 36) 215 [(.t 27), (.t 35)] false⟩])
          (.cond (.t 36)
          (.reg [⟨none, .mov 38 (.t 4)⟩,
           ⟨none, .mov 39 (.t 5)⟩,
           ⟨none, .mov 40 (.t 0)⟩,
           ⟨none, .mov 41 (.t 6)⟩,
           ⟨none, .idx 42 18 (.t 40) (.t 41)⟩,
           ⟨none, .fad 43 42 2⟩,
           ⟨none, .load 44 43 1 false⟩,
           ⟨none, .mov 45 (.t 7)⟩,
           ⟨none, .idx 46 16 (.t 44) (.t 45)⟩,
           ⟨none, .fad 47 46 4⟩,
           ⟨none, .load 48 47 1 true⟩,
           ⟨none, .call (some 49) 208 [(.t 38), (.t 39), (.t 48)] false⟩,
           ⟨none, .mov 37 (.t 49)⟩,
           ⟨none, .ext 50 (.t 37) 0⟩,
           ⟨none, .ext 51 (.t 37) 1⟩,
           ⟨none, .mov 4 (.t 50)⟩,
           ⟨none, .mov 5 (.t 51)⟩])
          (.skip))))
        (.reg [⟨none, .mov 25 (.t 7)⟩,
        ⟨none, .bin 26 .add (.t 25) (.k (.int .i64 1))⟩,
        ⟨none, .mov 7 (.t 26)⟩]))
/-- A loop of spec.LiveTotal. -/
def r171L1 : RC :=
 .seq (.seq (.reg [⟨none, .mov 11 (.t 6)⟩,
      ⟨none, .mov 12 (.t 0)⟩,
      ⟨none, .len 13 (.t 12)⟩,
      ⟨none, .bin 14 .lss (.t 11) (.t 13)⟩])
     (.cond (.t 14)
     (.skip)
     (.exit 0)))
    (.seq (.block 1 (.seq (.reg [⟨none, .mov 7 (.k (.int .i64 0))⟩])
      (.block 2 (.loop [0, 4, 5, 6, 7]
       r171L0))))
    (.reg [⟨none, .mov 15 (.t 6)⟩,
    ⟨none, .bin 16 .add (.t 15) (.k (.int .i64 1))⟩,
    ⟨none, .mov 6 (.t 16)⟩]))
/-- spec.LiveTotal -/
def r171 : RF :=
 ⟨1, [.tmp 2, .tmp 3],
 .seq (.reg [⟨none, .mov 2 (.k (.int .u64 0))⟩,
  ⟨none, .mov 3 (.k (.int .u64 0))⟩])
 (.seq (.reg [⟨none, .mov 4 (.k (.int .u64 0))⟩,
  ⟨none, .mov 5 (.k (.int .u64 0))⟩])
 (.seq (.seq (.reg [⟨none, .mov 8 (.t 0)⟩,
   ⟨none, .call (some 9) 214 [(.t 8)] false⟩,
   ⟨none, .not 10 (.t 9)⟩])
  (.cond (.t 10)
  (.seq (.reg [⟨none, .mov 2 (.k (.int .u64 0))⟩,
    ⟨none, .mov 3 (.k (.int .u64 0))⟩])
   (.ret))
  (.skip)))
 (.seq (.seq (.reg [⟨none, .mov 6 (.k (.int .i64 0))⟩])
  (.block 0 (.loop [0, 4, 5, 6]
   r171L1)))
 (.seq (.reg [⟨none, .mov 52 (.t 4)⟩,
  ⟨none, .mov 53 (.t 5)⟩,
  ⟨none, .mov 2 (.t 52)⟩,
  ⟨none, .mov 3 (.t 53)⟩])
 (.ret)))))⟩
/-- A loop of spec.l15All. -/
def r214L0 : RC :=
 .seq (.seq (.reg [⟨none, .mov 4 (.t 3)⟩,
      ⟨none, .mov 5 (.t 0)⟩,
      ⟨none, .len 6 (.t 5)⟩,
      ⟨none, .bin 7 .lss (.t 4) (.t 6)⟩,
      ⟨none, .mov 8 (.t 7)⟩,
      ⟨some (8, true), .mov 9 (.t 0)⟩,
      ⟨some (8, true), .len 10 (.t 9)⟩,
      ⟨some (8, true), .bin 11 .leq (.t 10) (.k (.int .i64 40))⟩,
      ⟨none, .pick 12 (.t 8) (.t 11) (.k (.bool false))⟩])
     (.cond (.t 12)
     (.skip)
     (.exit 0)))
    (.seq (.block 1 (.seq (.reg [⟨none, .mov 15 (.t 0)⟩,
       ⟨none, .mov 16 (.t 3)⟩,
       ⟨none, .idx 17 18 (.t 15) (.t 16)⟩,
       ⟨none, .load 18 17 3 true⟩,
       ⟨none, .call (some 19) 156 [(.t 18)] false⟩,
       ⟨none, .not 20 (.t 19)⟩])
      (.cond (.t 20)
      (.seq (.reg [⟨none, .mov 2 (.k (.bool false))⟩])
       (.ret))
      (.skip))))
    (.reg [⟨none, .mov 13 (.t 3)⟩,
    ⟨none, .bin 14 .add (.t 13) (.k (.int .i64 1))⟩,
    ⟨none, .mov 3 (.t 14)⟩]))
/-- spec.l15All -/
def r214 : RF :=
 ⟨1, [.tmp 2],
 .seq (.reg [⟨none, .mov 2 (.k (.bool false))⟩])
 (.seq (.seq (.reg [⟨none, .mov 3 (.k (.int .i64 0))⟩])
  (.block 0 (.loop [0, 3]
   r214L0)))
 (.seq (.reg [⟨none, .mov 21 (.t 0)⟩,
  ⟨none, .len 22 (.t 21)⟩,
  ⟨none, .bin 23 .leq (.t 22) (.k (.int .i64 40))⟩,
  ⟨none, .mov 2 (.t 23)⟩])
 (.ret)))⟩
/-- A loop of spec.l15Newest. -/
def r215L0 : RC :=
 .seq (.seq (.reg [⟨none, .mov 14 (.t 6)⟩,
          ⟨none, .mov 15 (.t 0)⟩,
          ⟨none, .mov 16 (.t 5)⟩,
          ⟨none, .idx 17 18 (.t 15) (.t 16)⟩,
          ⟨none, .fad 18 17 2⟩,
          ⟨none, .load 19 18 1 false⟩,
          ⟨none, .len 20 (.t 19)⟩,
          ⟨none, .bin 21 .lss (.t 14) (.t 20)⟩])
         (.cond (.t 21)
         (.skip)
         (.exit 2)))
        (.seq (.block 3 (.seq (.reg [⟨none, .mov 24 (.t 0)⟩,
           ⟨none, .mov 25 (.t 5)⟩,
           ⟨none, .idx 26 18 (.t 24) (.t 25)⟩,
           ⟨none, .fad 27 26 2⟩,
           ⟨none, .load 28 27 1 false⟩,
           ⟨none, .mov 29 (.t 6)⟩,
           ⟨none, .idx 30 16 (.t 28) (.t 29)⟩,
           ⟨none, .load 31 30 6 true⟩,
           ⟨none, .loc 7 [.int .u64 0, .int .u64 0, .int .i64 0, .int .i64 0, .nil, .nil]⟩,
           ⟨none, .store 7 6 (.t 31)⟩])
          (.seq (.reg [⟨none, .fad 32 7 3⟩,
           ⟨none, .load 33 32 1 false⟩,
           ⟨none, .fad 34 3 3⟩,
           ⟨none, .load 35 34 1 false⟩,
           ⟨none, .bin 36 .gtr (.t 33) (.t 35)⟩,
           ⟨none, .mov 37 (.t 36)⟩,
           ⟨some (37, true), .fad 38 7 0⟩,
           ⟨some (37, true), .load 39 38 1 false⟩,
           ⟨some (37, true), .fad 40 3 1⟩,
           ⟨some (37, true), .load 41 40 1 false⟩,
           ⟨some (37, true), .bin 42 .leq (.t 39) (.t 41)⟩,
           ⟨none, .pick 43 (.t 37) (.t 42) (.k (.bool false))⟩,
           ⟨none, .mov 44 (.t 43)⟩,
           ⟨some (44, true), .fad 45 3 0⟩,
           ⟨some (44, true), .load 46 45 1 false⟩,
           ⟨some (44, true), .fad 47 7 1⟩,
           ⟨some (44, true), .load 48 47 1 false⟩,
           ⟨some (44, true), .bin 49 .leq (.t 46) (.t 48)⟩,
           ⟨none, .pick 50 (.t 44) (.t 49) (.k (.bool false))⟩])
          (.cond (.t 50)
          (.seq (.reg [⟨none, .mov 4 (.k (.bool false))⟩])
           (.ret))
          (.skip)))))
        (.reg [⟨none, .mov 22 (.t 6)⟩,
        ⟨none, .bin 23 .add (.t 22) (.k (.int .i64 1))⟩,
        ⟨none, .mov 6 (.t 23)⟩]))
/-- A loop of spec.l15Newest. -/
def r215L1 : RC :=
 .seq (.seq (.reg [⟨none, .mov 8 (.t 5)⟩,
      ⟨none, .mov 9 (.t 0)⟩,
      ⟨none, .len 10 (.t 9)⟩,
      ⟨none, .bin 11 .lss (.t 8) (.t 10)⟩])
     (.cond (.t 11)
     (.skip)
     (.exit 0)))
    (.seq (.block 1 (.seq (.reg [⟨none, .mov 6 (.k (.int .i64 0))⟩])
      (.block 2 (.loop [0, 3, 5, 6]
       r215L0))))
    (.reg [⟨none, .mov 12 (.t 5)⟩,
    ⟨none, .bin 13 .add (.t 12) (.k (.int .i64 1))⟩,
    ⟨none, .mov 5 (.t 13)⟩]))
/-- spec.l15Newest -/
def r215 : RF :=
 ⟨2, [.tmp 4],
 .seq (.reg [⟨none, .locb 3 (.t 1)⟩,
  ⟨none, .mov 4 (.k (.bool false))⟩])
 (.seq (.seq (.reg [⟨none, .mov 5 (.k (.int .i64 0))⟩])
  (.block 0 (.loop [0, 3, 5]
   r215L1)))
 (.seq (.reg [⟨none, .mov 4 (.k (.bool true))⟩])
 (.ret)))⟩
/-- A loop of spec.Holders. -/
def r283L0 : RC :=
 .seq (.seq (.reg [⟨none, .mov 12 (.t 6)⟩,
      ⟨none, .mov 13 (.t 0)⟩,
      ⟨none, .len 14 (.t 13)⟩,
      ⟨none, .bin 15 .lss (.t 12) (.t 14)⟩])
     (.cond (.t 15)
     (.skip)
     (.exit 0)))
    (.seq (.block 1 (.seq (.reg [⟨none, .mov 18 (.t 0)⟩,
       ⟨none, .mov 19 (.t 6)⟩,
       ⟨none, .idx 20 18 (.t 18) (.t 19)⟩,
       ⟨none, .load 21 20 3 true⟩,
       ⟨none, .mov 22 (.t 1)⟩,
       ⟨none, .call (some 23) 211 [(.t 21), (.t 22)] false⟩,
       ⟨none, .mov 7 (.t 23)⟩])
      (.seq (.reg [⟨none, .mov 24 (.t 7)⟩,
       ⟨none, .bin 25 .geq (.t 24) (.k (.int .i64 0))⟩,
       ⟨none, .mov 26 (.t 25)⟩,
       ⟨some (26, true), .mov 27 (.t 0)⟩,
       ⟨some (26, true), .mov 28 (.t 6)⟩,
       ⟨some (26, true), .idx 29 18 (.t 27) (.t 28)⟩,
       ⟨some (26, true), .fad 30 29 2⟩,
       ⟨some (26, true), .load 31 30 1 false⟩,
       ⟨some (26, true), .mov 32 (.t 7)⟩,
       ⟨some (26, true), .idx 33 16 (.t 31) (.t 32)⟩,
       ⟨some (26, true), .fad 34 33 2⟩,
       ⟨some (26, true), .load 35 34 1 false⟩,
       ⟨some (26, true), .bin 36 .eql (.t 35) (.k (.int .i64 0))⟩,
       ⟨none, .pick 37 (.t 26) (.t 36) (.k (.bool false))⟩])
      (.cond (.t 37)
      (.reg [⟨none, .mov 38 (.t 5)⟩,
       ⟨none, .mov 39 (.t 6)⟩,
       ⟨none, .lit 40 15 1 [.int .i64 0] [(0, (.t 39))]⟩,
       ⟨none, .app 41 15 8 (.t 38) (.t 40)⟩,
       ⟨none, .mov 5 (.t 41)⟩])
      (.skip)))))
    (.reg [⟨none, .mov 16 (.t 6)⟩,
    ⟨none, .bin 17 .add (.t 16) (.k (.int .i64 1))⟩,
    ⟨none, .mov 6 (.t 17)⟩]))
/-- spec.Holders -/
def r283 : RF :=
 ⟨2, [.tmp 4],
 .seq (.reg [⟨none, .mov 4 (.k (.nil))⟩])
 (.seq (.reg [⟨none, .lit 8 15 0 [.int .i64 0] []⟩,
  ⟨none, .mov 5 (.t 8)⟩])
 (.seq (.seq (.reg [⟨none, .mov 9 (.t 0)⟩,
   ⟨none, .call (some 10) 214 [(.t 9)] false⟩,
   ⟨none, .not 11 (.t 10)⟩])
  (.cond (.t 11)
  (.seq (.reg [⟨none, .mov 4 (.k (.nil))⟩])
   (.ret))
  (.skip)))
 (.seq (.seq (.reg [⟨none, .mov 6 (.k (.int .i64 0))⟩])
  (.block 0 (.loop [0, 1, 5, 6]
   r283L0)))
 (.seq (.reg [⟨none, .mov 42 (.t 5)⟩,
  ⟨none, .mov 4 (.t 42)⟩])
 (.ret)))))⟩
/-- spec.HandSend -/
def r303 : RF :=
 ⟨2, [.cell 4 10 true, .tmp 5],
 .seq (.reg [⟨none, .locb 2 (.t 0)⟩,
  ⟨none, .locb 3 (.t 1)⟩,
  ⟨none, .loc 4 [.int .i64 0, .int .u64 0, .int .i64 0, .int .i64 0, .int .u64 0, .int .u64 0, .int .i64 0, .int .i64 0, .nil, .nil]⟩,
  ⟨none, .mov 5 (.k (.bool false))⟩])
 (.seq (.seq (.reg [⟨none, .load 9 2 5 true⟩,
   ⟨none, .call (some 10) 3 [(.t 9)] false⟩,
   ⟨none, .not 11 (.t 10)⟩,
   ⟨none, .mov 12 (.t 11)⟩,
   ⟨some (12, false), .fad 13 2 4⟩,
   ⟨some (12, false), .load 14 13 1 false⟩,
   ⟨some (12, false), .bin 15 .eql (.t 14) (.k (.int .i64 3))⟩,
   ⟨none, .pick 16 (.t 12) (.k (.bool true)) (.t 15)⟩])
  (.cond (.t 16)
  (.seq (.reg [⟨none, .build 17 [.int .i64 0, .int .u64 0, .int .i64 0, .int .i64 0, .int .u64 0, .int .u64 0, .int .i64 0, .int .i64 0, .nil, .nil] []⟩,
    ⟨none, .store 4 10 (.t 17)⟩,
    ⟨none, .mov 5 (.k (.bool false))⟩])
   (.ret))
  (.skip)))
 (.seq (.reg [⟨none, .fad 18 2 4⟩,
  ⟨none, .load 19 18 1 false⟩,
  ⟨none, .fad 20 2 0⟩,
  ⟨none, .load 21 20 1 false⟩,
  ⟨none, .fad 22 2 1⟩,
  ⟨none, .load 23 22 1 false⟩,
  ⟨none, .fad 24 2 3⟩,
  ⟨none, .load 25 24 1 false⟩,
  ⟨none, .build 26 [.int .i64 0, .int .u64 0, .int .i64 0, .int .i64 0, .int .u64 0, .int .u64 0, .int .i64 0, .int .i64 0, .nil, .nil] [(0, 1, (.t 19)), (1, 1, (.t 21)), (2, 1, (.t 23)), (3, 1, (.t 25))]⟩,
  ⟨none, .loc 6 [.int .i64 0, .int .u64 0, .int .i64 0, .int .i64 0, .int .u64 0, .int .u64 0, .int .i64 0, .int .i64 0, .nil, .nil]⟩,
  ⟨none, .store 6 10 (.t 26)⟩])
 (.seq (.seq (.reg [⟨none, .fad 27 2 4⟩,
   ⟨none, .load 28 27 1 false⟩,
   ⟨none, .bin 29 .eql (.t 28) (.k (.int .i64 1))⟩])
  (.cond (.t 29)
  (.seq (.reg [⟨none, .load 31 3 3 true⟩,
    ⟨none, .fad 32 2 0⟩,
    ⟨none, .load 33 32 1 false⟩,
    ⟨none, .call (some 34) 189 [(.t 31), (.t 33)] false⟩,
    ⟨none, .mov 30 (.t 34)⟩,
    ⟨none, .ext 35 (.t 30) 0⟩,
    ⟨none, .ext 36 (.t 30) 1⟩,
    ⟨none, .loc 7 [.int .u64 0, .int .u64 0, .int .i64 0, .int .i64 0, .nil, .nil]⟩,
    ⟨none, .store 7 6 (.t 35)⟩,
    ⟨none, .mov 8 (.t 36)⟩])
   (.seq (.seq (.reg [⟨none, .mov 37 (.t 8)⟩,
     ⟨none, .not 38 (.t 37)⟩,
     ⟨none, .mov 39 (.t 38)⟩,
     ⟨some (39, false), .fad 40 7 3⟩,
     ⟨some (39, false), .load 41 40 1 false⟩,
     ⟨some (39, false), .fad 42 2 3⟩,
     ⟨some (39, false), .load 43 42 1 false⟩,
     ⟨some (39, false), .bin 44 .neq (.t 41) (.t 43)⟩,
     ⟨none, .pick 45 (.t 39) (.k (.bool true)) (.t 44)⟩])
    (.cond (.t 45)
    (.seq (.reg [⟨none, .build 46 [.int .i64 0, .int .u64 0, .int .i64 0, .int .i64 0, .int .u64 0, .int .u64 0, .int .i64 0, .int .i64 0, .nil, .nil] []⟩,
      ⟨none, .store 4 10 (.t 46)⟩,
      ⟨none, .mov 5 (.k (.bool false))⟩])
     (.ret))
    (.skip)))
   (.seq (.reg [⟨none, .fad 47 2 2⟩,
    ⟨none, .load 48 47 1 false⟩,
    ⟨none, .fad 49 6 2⟩,
    ⟨none, .store 49 1 (.t 48)⟩])
   (.seq (.reg [⟨none, .fad 50 2 3⟩,
    ⟨none, .load 51 50 1 false⟩,
    ⟨none, .bin 52 .add (.t 51) (.k (.int .i64 1))⟩,
    ⟨none, .fad 53 6 3⟩,
    ⟨none, .store 53 1 (.t 52)⟩])
   (.reg [⟨none, .load 54 7 6 true⟩,
   ⟨none, .fad 55 6 4⟩,
   ⟨none, .store 55 6 (.t 54)⟩])))))
  (.skip)))
 (.seq (.reg [⟨none, .load 56 6 10 true⟩,
  ⟨none, .store 4 10 (.t 56)⟩,
  ⟨none, .mov 5 (.k (.bool true))⟩])
 (.ret)))))⟩
/-- spec.HandTake -/
def r314 : RF :=
 ⟨2, [.cell 4 3 true, .tmp 5],
 .seq (.reg [⟨none, .locb 2 (.t 0)⟩,
  ⟨none, .locb 3 (.t 1)⟩,
  ⟨none, .loc 4 [.int .i64 0, .int .i64 0, .nil]⟩,
  ⟨none, .mov 5 (.k (.bool false))⟩])
 (.seq (.seq (.reg [⟨none, .fad 8 2 0⟩,
   ⟨none, .load 9 8 1 false⟩,
   ⟨none, .fad 10 3 2⟩,
   ⟨none, .load 11 10 1 false⟩,
   ⟨none, .bin 12 .neq (.t 9) (.t 11)⟩])
  (.cond (.t 12)
  (.seq (.reg [⟨none, .load 13 2 3 true⟩,
    ⟨none, .call (some 14) 317 [(.t 13)] false⟩,
    ⟨none, .store 4 3 (.t 14)⟩,
    ⟨none, .mov 5 (.k (.bool false))⟩])
   (.ret))
  (.skip)))
 (.seq (.reg [⟨none, .mov 6 (.k (.bool false))⟩])
 (.seq (.reg [⟨none, .load 15 2 3 true⟩,
  ⟨none, .loc 7 [.int .i64 0, .int .i64 0, .nil]⟩,
  ⟨none, .store 7 3 (.t 15)⟩])
 (.seq (.seq (.reg [⟨none, .fad 16 3 0⟩,
   ⟨none, .load 17 16 1 false⟩])
  (.block 0 (.seq (.reg [⟨none, .bin 19 .eql (.t 17) (.k (.int .i64 0))⟩,
    ⟨none, .mov 18 (.t 19)⟩])
   (.cond (.t 18)
   (.reg [⟨none, .load 21 2 3 true⟩,
    ⟨none, .fad 22 3 1⟩,
    ⟨none, .load 23 22 1 false⟩,
    ⟨none, .fad 24 3 3⟩,
    ⟨none, .load 25 24 1 false⟩,
    ⟨none, .call (some 26) 300 [(.t 21), (.t 23), (.t 25)] false⟩,
    ⟨none, .mov 20 (.t 26)⟩,
    ⟨none, .ext 27 (.t 20) 0⟩,
    ⟨none, .ext 28 (.t 20) 1⟩,
    ⟨none, .store 7 3 (.t 27)⟩,
    ⟨none, .mov 6 (.t 28)⟩])
   (.seq (.reg [⟨none, .bin 30 .eql (.t 17) (.k (.int .i64 1))⟩,
     ⟨none, .mov 29 (.t 30)⟩])
    (.cond (.t 29)
    (.reg [⟨none, .load 32 2 3 true⟩,
     ⟨none, .fad 33 3 4⟩,
     ⟨none, .load 34 33 6 true⟩,
     ⟨none, .fad 35 3 3⟩,
     ⟨none, .load 36 35 1 false⟩,
     ⟨none, .call (some 37) 308 [(.t 32), (.t 34), (.t 36)] false⟩,
     ⟨none, .mov 31 (.t 37)⟩,
     ⟨none, .ext 38 (.t 31) 0⟩,
     ⟨none, .ext 39 (.t 31) 1⟩,
     ⟨none, .store 7 3 (.t 38)⟩,
     ⟨none, .mov 6 (.t 39)⟩])
    (.seq (.reg [⟨none, .bin 41 .eql (.t 17) (.k (.int .i64 2))⟩,
      ⟨none, .mov 40 (.t 41)⟩])
     (.cond (.t 40)
     (.reg [⟨none, .load 43 2 3 true⟩,
      ⟨none, .fad 44 3 1⟩,
      ⟨none, .load 45 44 1 false⟩,
      ⟨none, .fad 46 3 3⟩,
      ⟨none, .load 47 46 1 false⟩,
      ⟨none, .call (some 48) 297 [(.t 43), (.t 45), (.t 47)] false⟩,
      ⟨none, .mov 42 (.t 48)⟩,
      ⟨none, .ext 49 (.t 42) 0⟩,
      ⟨none, .ext 50 (.t 42) 1⟩,
      ⟨none, .store 7 3 (.t 49)⟩,
      ⟨none, .mov 6 (.t 50)⟩])
     (.skip)))))))))
 (.seq (.reg [⟨none, .load 51 7 3 true⟩,
  ⟨none, .call (some 52) 317 [(.t 51)] false⟩,
  ⟨none, .mov 53 (.t 6)⟩,
  ⟨none, .store 4 3 (.t 52)⟩,
  ⟨none, .mov 5 (.t 53)⟩])
 (.ret))))))⟩
/-- The functions of this text, with their numbers. -/
def tS15 : List (Nat × RF) := [(3, r3), (84, r84), (166, r166), (171, r171), (214, r214), (215, r215), (283, r283), (303, r303), (314, r314)]
end Go.Proofs.Ytlfepembgjjejaa.A
/- The compact code of some functions: laws.FnExactHolders. -/
namespace Go.Proofs.Ytlfepembgjjejaa.A
open Go
/-- laws.FnExactHolders -/
def r282 : RF :=
 ⟨2, [.tmp 4],
 .seq (.reg [⟨none, .mov 4 (.k (.bool false))⟩])
 (.seq (.reg [⟨none, .mov 5 (.k (.int .i64 1048576))⟩])
 (.seq (.reg [⟨none, .mov 13 (.t 0)⟩,
  ⟨none, .mov 14 (.t 5)⟩,
  ⟨none, .call (some 15) 169 [(.t 13), (.t 14)] false⟩,
  ⟨none, .mov 5 (.t 15)⟩])
 (.seq (.seq (.reg [⟨none, .mov 16 (.t 5)⟩,
   ⟨none, .bin 17 .lss (.t 16) (.k (.int .i64 0))⟩])
  (.cond (.t 17)
  (.seq (.reg [⟨none, .mov 4 (.k (.bool true))⟩])
   (.ret))
  (.skip)))
 (.seq (.reg [⟨none, .mov 18 (.t 0)⟩,
  ⟨none, .call (some 19) 170 [(.t 18)] false⟩,
  ⟨none, .mov 20 (.t 1)⟩,
  ⟨none, .call (some 21) 283 [(.t 19), (.t 20)] false⟩,
  ⟨none, .mov 6 (.t 21)⟩])
 (.seq (.reg [⟨none, .mov 22 (.t 0)⟩,
  ⟨none, .call (some 23) 170 [(.t 22)] false⟩,
  ⟨none, .mov 7 (.t 23)⟩])
 (.seq (.reg [⟨none, .mov 24 (.t 7)⟩,
  ⟨none, .mov 25 (.t 1)⟩,
  ⟨none, .call (some 26) 284 [(.t 24), (.t 25)] false⟩,
  ⟨none, .mov 8 (.t 26)⟩])
 (.seq (.seq (.reg [⟨none, .mov 27 (.t 8)⟩,
   ⟨none, .mov 28 (.t 6)⟩,
   ⟨none, .call (some 29) 285 [(.t 27), (.t 28)] false⟩,
   ⟨none, .not 30 (.t 29)⟩])
  (.cond (.t 30)
  (.seq (.reg [⟨none, .mov 4 (.k (.bool false))⟩])
   (.ret))
  (.skip)))
 (.seq (.seq (.reg [⟨none, .mov 31 (.t 7)⟩,
   ⟨none, .mov 32 (.t 0)⟩,
   ⟨none, .call (some 33) 170 [(.t 32)] false⟩,
   ⟨none, .call (some 34) 173 [(.t 31), (.t 33)] false⟩,
   ⟨none, .not 35 (.t 34)⟩])
  (.cond (.t 35)
  (.seq (.reg [⟨none, .mov 4 (.k (.bool false))⟩])
   (.ret))
  (.skip)))
 (.seq (.reg [⟨none, .mov 9 (.k (.int .i64 1))⟩])
 (.seq (.reg [⟨none, .mov 36 (.t 7)⟩,
  ⟨none, .mov 37 (.t 9)⟩,
  ⟨none, .call (some 38) 286 [(.t 36), (.t 37)] false⟩,
  ⟨none, .mov 9 (.t 38)⟩])
 (.seq (.seq (.reg [⟨none, .mov 39 (.t 9)⟩,
   ⟨none, .bin 40 .lss (.t 39) (.k (.int .i64 0))⟩,
   ⟨none, .mov 41 (.t 40)⟩,
   ⟨some (41, false), .mov 42 (.t 8)⟩,
   ⟨some (41, false), .mov 43 (.t 6)⟩,
   ⟨some (41, false), .call (some 44) 285 [(.t 42), (.t 43)] false⟩,
   ⟨some (41, false), .not 45 (.t 44)⟩,
   ⟨none, .pick 46 (.t 41) (.k (.bool true)) (.t 45)⟩])
  (.cond (.t 46)
  (.seq (.reg [⟨none, .mov 4 (.k (.bool false))⟩])
   (.ret))
  (.skip)))
 (.seq (.reg [⟨none, .mov 10 (.k (.int .i64 1))⟩])
 (.seq (.reg [⟨none, .mov 47 (.t 8)⟩,
  ⟨none, .mov 48 (.t 10)⟩,
  ⟨none, .call (some 49) 287 [(.t 47), (.t 48)] false⟩,
  ⟨none, .mov 10 (.t 49)⟩])
 (.seq (.reg [⟨none, .mov 11 (.k (.int .i64 1))⟩])
 (.seq (.reg [⟨none, .mov 50 (.t 8)⟩,
  ⟨none, .mov 51 (.t 11)⟩,
  ⟨none, .call (some 52) 288 [(.t 50), (.t 51)] false⟩,
  ⟨none, .mov 11 (.t 52)⟩])
 (.seq (.seq (.reg [⟨none, .mov 53 (.t 11)⟩,
   ⟨none, .bin 54 .lss (.t 53) (.k (.int .i64 0))⟩])
  (.cond (.t 54)
  (.seq (.reg [⟨none, .mov 4 (.k (.bool false))⟩])
   (.ret))
  (.skip)))
 (.seq (.seq (.reg [⟨none, .mov 55 (.t 11)⟩,
   ⟨none, .mov 56 (.t 10)⟩,
   ⟨none, .bin 57 .neq (.t 55) (.t 56)⟩])
  (.cond (.t 57)
  (.seq (.reg [⟨none, .mov 4 (.k (.bool false))⟩])
   (.ret))
  (.skip)))
 (.seq (.reg [⟨none, .mov 58 (.t 0)⟩,
  ⟨none, .call (some 59) 170 [(.t 58)] false⟩,
  ⟨none, .mov 60 (.t 1)⟩,
  ⟨none, .call (some 61) 284 [(.t 59), (.t 60)] false⟩,
  ⟨none, .mov 12 (.t 61)⟩])
 (.seq (.seq (.reg [⟨none, .mov 62 (.t 12)⟩,
   ⟨none, .mov 63 (.t 6)⟩,
   ⟨none, .call (some 64) 285 [(.t 62), (.t 63)] false⟩,
   ⟨none, .not 65 (.t 64)⟩])
  (.cond (.t 65)
  (.seq (.reg [⟨none, .mov 4 (.k (.bool false))⟩])
   (.ret))
  (.skip)))
 (.seq (.reg [⟨none, .mov 11 (.k (.int .i64 1))⟩])
 (.seq (.reg [⟨none, .mov 66 (.t 8)⟩,
  ⟨none, .mov 67 (.t 11)⟩,
  ⟨none, .call (some 68) 288 [(.t 66), (.t 67)] false⟩,
  ⟨none, .mov 11 (.t 68)⟩])
 (.seq (.seq (.reg [⟨none, .mov 69 (.t 11)⟩,
   ⟨none, .bin 70 .lss (.t 69) (.k (.int .i64 0))⟩])
  (.cond (.t 70)
  (.seq (.reg [⟨none, .mov 4 (.k (.bool false))⟩])
   (.ret))
  (.skip)))
 (.seq (.seq (.reg [⟨none, .mov 71 (.t 11)⟩,
   ⟨none, .mov 72 (.t 10)⟩,
   ⟨none, .bin 73 .neq (.t 71) (.t 72)⟩])
  (.cond (.t 73)
  (.seq (.reg [⟨none, .mov 4 (.k (.bool false))⟩])
   (.ret))
  (.skip)))
 (.seq (.reg [⟨none, .mov 4 (.k (.bool true))⟩])
 (.ret)))))))))))))))))))))))))⟩
/-- The functions of this text, with their numbers. -/
def tWHolders : List (Nat × RF) := [(282, r282)]
end Go.Proofs.Ytlfepembgjjejaa.A
/- Small functions of bounds that many use. -/
namespace Go.Proofs.Ytlfepembgjjejaa.A
open Go
set_option linter.unusedSimpArgs false
set_option linter.unusedVariables false
/-- A table's functions are those of F. -/
abbrev Has (F : Nat → Option RF) (t : List (Nat × RF)) : Prop := AllT (fun x => F x.1 = some x.2) t
def inR (x lo hi : Int) : Bool := decide (lo ≤ x) && decide (x ≤ hi)
section
variable {F : Nat → Option RF} {Z : CallF}
theorem isGroupId_run (hI11 : Has F tI11) (n : Int) (h : Heap) :
    call F Z 7 [.c (.int .i64 n)] h = some (.c (.bool (inR n 0 99)), h) := by
  rw [call_run F Z (hI11.lk (g := 7) rfl) _ _ rfl]
  simp only [run0, run1, run2, run3, run4, noSlot, memN, RO.dst, lk, drop, forget, number, Nat.reduceBEq, cut?, splice?, builds, List.length_cons, List.length_nil, List.drop_succ_cons, List.drop_zero, List.take_succ_cons, List.take_zero, List.cons_append, List.nil_append, List.append_nil, List.drop_nil, List.take_nil, Nat.reduceAdd, Nat.reduceLeDiff, Nat.zero_add, Nat.add_zero, ↓reduceIte, Bool.not_true, Bool.not_false, decide_true, decide_false, eq_self, bne_self_eq_false, List.getElem?_cons_zero, List.getElem?_cons_succ, decide_eq_true_eq, Bool.false_eq_true, Bool.true_eq_false, reduceCtorEq, Nat.le_refl]
  (repeat' ((first | (rw [gF_if]; split) | (rw [condC_if]; split) | (rw [pickR_if]; split)) <;> (rename_i hh; (try simp only [Bool.not_eq_true, decide_eq_true_eq] at hh); simp only [hh, run0, run1, run2, run3, run4, noSlot, memN, RO.dst, lk, drop, forget, number, Nat.reduceBEq, cut?, splice?, builds, List.length_cons, List.length_nil, List.drop_succ_cons, List.drop_zero, List.take_succ_cons, List.take_zero, List.cons_append, List.nil_append, List.append_nil, List.drop_nil, List.take_nil, Nat.reduceAdd, Nat.reduceLeDiff, Nat.zero_add, Nat.add_zero, ↓reduceIte, Bool.not_true, Bool.not_false, decide_true, decide_false, eq_self, bne_self_eq_false, List.getElem?_cons_zero, List.getElem?_cons_succ, decide_eq_true_eq, Bool.false_eq_true, Bool.true_eq_false, reduceCtorEq, Nat.le_refl]))) <;> simp [inR, *]
theorem l01In_run (hS : Has F tS01d) (n lo hi : Int) (h : Heap) :
    call F Z 5 [.c (.int .i64 n), .c (.int .i64 lo), .c (.int .i64 hi)] h = some (.c (.bool (inR n lo hi)), h) := by
  rw [call_run F Z (hS.lk (g := 5) rfl) _ _ rfl]
  simp only [run0, run1, run2, run3, run4, noSlot, memN, RO.dst, lk, drop, forget, number, Nat.reduceBEq, cut?, splice?, builds, List.length_cons, List.length_nil, List.drop_succ_cons, List.drop_zero, List.take_succ_cons, List.take_zero, List.cons_append, List.nil_append, List.append_nil, List.drop_nil, List.take_nil, Nat.reduceAdd, Nat.reduceLeDiff, Nat.zero_add, Nat.add_zero, ↓reduceIte, Bool.not_true, Bool.not_false, decide_true, decide_false, eq_self, bne_self_eq_false, List.getElem?_cons_zero, List.getElem?_cons_succ, decide_eq_true_eq, Bool.false_eq_true, Bool.true_eq_false, reduceCtorEq, Nat.le_refl]
  (repeat' ((first | (rw [gF_if]; split) | (rw [condC_if]; split) | (rw [pickR_if]; split)) <;> (rename_i hh; (try simp only [Bool.not_eq_true, decide_eq_true_eq] at hh); simp only [hh, run0, run1, run2, run3, run4, noSlot, memN, RO.dst, lk, drop, forget, number, Nat.reduceBEq, cut?, splice?, builds, List.length_cons, List.length_nil, List.drop_succ_cons, List.drop_zero, List.take_succ_cons, List.take_zero, List.cons_append, List.nil_append, List.append_nil, List.drop_nil, List.take_nil, Nat.reduceAdd, Nat.reduceLeDiff, Nat.zero_add, Nat.add_zero, ↓reduceIte, Bool.not_true, Bool.not_false, decide_true, decide_false, eq_self, bne_self_eq_false, List.getElem?_cons_zero, List.getElem?_cons_succ, decide_eq_true_eq, Bool.false_eq_true, Bool.true_eq_false, reduceCtorEq, Nat.le_refl]))) <;> simp [inR, *]
end
end Go.Proofs.Ytlfepembgjjejaa.A
/- Slices that show data: relations between cells of a heap and data, with their footprints; loops by their turns. -/
namespace Go.Proofs.Ytlfepembgjjejaa.A
open Go
set_option linter.unusedSimpArgs false
set_option linter.unusedVariables false

/-! ### numbers -/
theorem wrapI (z : Int) (h1 : -9223372036854775808 ≤ z) (h2 : z ≤ 9223372036854775807) : IntKind.i64.wrap z = z := by
  show (if (true && decide (z % 18446744073709551616 ≥ 9223372036854775808)) = true then z % 18446744073709551616 - 18446744073709551616 else z % 18446744073709551616) = z
  simp only [Bool.true_and, decide_eq_true_eq]
  split <;> omega
theorem wrapU (z : Int) (h1 : 0 ≤ z) (h2 : z ≤ 18446744073709551615) : IntKind.u64.wrap z = z := by
  show (if (false && decide (z % 18446744073709551616 ≥ 9223372036854775808)) = true then z % 18446744073709551616 - 18446744073709551616 else z % 18446744073709551616) = z
  rw [if_neg (by simp)]
  omega
theorem wrapS (i : Nat) (h : i < 9223372036854775807) : IntKind.i64.wrap ((i : Int) + 1) = ((i + 1 : Nat) : Int) := by rw [wrapI _ (by omega) (by omega)]; rfl

/-! ### cells that show data -/
/-- Cells of a heap show data; the rows that they lie in. -/
abbrev Rel (α : Type) := Heap → List Cell → α → List Nat → Prop
structure RelOk {α : Type} (R : Rel α) : Prop where
  lt : ∀ {h cs a fp}, R h cs a fp → ∀ id, id ∈ fp → id < h.next
  mv : ∀ {h h' cs a fp}, R h cs a fp → h.next ≤ h'.next → (∀ id, id ∈ fp → h'.get id = h.get id) → R h' cs a fp
def Fl {α : Type} (enc : α → List Cell) : Rel α := fun _ cs a fp => cs = enc a ∧ fp = []
theorem Fl.ok {α : Type} (enc : α → List Cell) : RelOk (Fl enc) where
  lt := by rintro h cs a fp ⟨rfl, rfl⟩ id hid; cases hid
  mv := fun e _ _ => e
def AllR {α : Type} (R : Rel α) (h : Heap) : List (List Cell) → List α → List (List Nat) → Prop
  | [], [], [] => True
  | r :: rs, a :: bs, f :: fs => R h r a f ∧ AllR R h rs bs fs
  | _, _, _ => False
def Cell.sid : Cell → Nat
  | .sl _ id _ _ => id
  | _ => 0
/-- A cell shows a list. -/
def SlR {α : Type} (tag : Nat) (R : Rel α) (h : Heap) (x : Cell) (xs : List α) (fp : List Nat) : Prop :=
  xs.length ≤ maxLen ∧ ((x = .nil ∧ xs = [] ∧ fp = []) ∨ ∃ id rows fps, x = .sl tag id 0 xs.length ∧ h.get id = some rows ∧ id < h.next ∧ fp = id :: fps.flatten ∧ AllR R h rows xs fps)

section
variable {α : Type} {R : Rel α} {h h' : Heap}
theorem AllR.len : ∀ {rows : List (List Cell)} {xs : List α} {fps : List (List Nat)}, AllR R h rows xs fps → rows.length = xs.length
  | [], [], [], _ => rfl
  | _ :: _, _ :: _, _ :: _, ⟨_, w⟩ => by simp only [List.length_cons, AllR.len w]
  | [], [], _ :: _, w => w.elim
  | [], _ :: _, _, w => w.elim
  | _ :: _, [], _, w => w.elim
  | _ :: _, _ :: _, [], w => w.elim
theorem AllR.at : ∀ {rows : List (List Cell)} {xs : List α} {fps : List (List Nat)}, AllR R h rows xs fps → ∀ (i : Nat) (hi : i < xs.length), ∃ r f, rows[i]? = some r ∧ fps[i]? = some f ∧ R h r xs[i] f
  | [], [], [], _ => fun i hi => absurd hi (Nat.not_lt_zero _)
  | r :: _, _ :: _, f :: _, ⟨w1, w⟩ => fun i hi => by
    cases i with
    | zero => exact ⟨r, f, rfl, rfl, w1⟩
    | succ i => exact AllR.at w i (by simpa using hi)
  | [], [], _ :: _, w => w.elim
  | [], _ :: _, _, w => w.elim
  | _ :: _, [], _, w => w.elim
  | _ :: _, _ :: _, [], w => w.elim
theorem AllR.mv (ok : RelOk R) : ∀ {rows : List (List Cell)} {xs : List α} {fps : List (List Nat)}, AllR R h rows xs fps → h.next ≤ h'.next → (∀ id, id ∈ fps.flatten → h'.get id = h.get id) → AllR R h' rows xs fps
  | [], [], [], _ => fun _ _ => trivial
  | _ :: _, _ :: _, _ :: _, ⟨w1, w⟩ => fun hn hg => ⟨ok.mv w1 hn fun id hid => hg id (by simp [hid]), w.mv ok hn fun id hid => hg id (by rw [List.flatten_cons]; exact List.mem_append_right _ hid)⟩
  | [], [], _ :: _, w => w.elim
  | [], _ :: _, _, w => w.elim
  | _ :: _, [], _, w => w.elim
  | _ :: _, _ :: _, [], w => w.elim
theorem AllR.lt (ok : RelOk R) : ∀ {rows : List (List Cell)} {xs : List α} {fps : List (List Nat)}, AllR R h rows xs fps → ∀ id, id ∈ fps.flatten → id < h.next
  | [], [], [], _ => fun id hid => by simp at hid
  | _ :: _, _ :: _, _ :: _, ⟨w1, w⟩ => fun id hid => by
    rw [List.flatten_cons] at hid
    rcases List.mem_append.1 hid with hid | hid
    · exact ok.lt w1 id hid
    · exact w.lt ok id hid
  | [], [], _ :: _, w => w.elim
  | [], _ :: _, _, w => w.elim
  | _ :: _, [], _, w => w.elim
  | _ :: _, _ :: _, [], w => w.elim
theorem AllR.flat {enc : α → List Cell} : ∀ {rows : List (List Cell)} {xs : List α} {fps : List (List Nat)}, AllR (Fl enc) h rows xs fps → rows = xs.map enc ∧ fps.flatten = []
  | [], [], [], _ => ⟨rfl, rfl⟩
  | _ :: _, _ :: _, _ :: _, ⟨⟨rfl, rfl⟩, w⟩ => ⟨by rw [w.flat.1]; rfl, by rw [List.flatten_cons, w.flat.2]; rfl⟩
  | [], [], _ :: _, w => w.elim
  | [], _ :: _, _, w => w.elim
  | _ :: _, [], _, w => w.elim
  | _ :: _, _ :: _, [], w => w.elim
theorem AllR.ofFlat {enc : α → List Cell} : ∀ (xs : List α), AllR (Fl enc) h (xs.map enc) xs (xs.map fun _ => [])
  | [] => trivial
  | _ :: r => ⟨⟨rfl, rfl⟩, AllR.ofFlat r⟩
variable {tag : Nat} {x : Cell} {xs : List α} {fp : List Nat}
theorem SlR.le (w : SlR tag R h x xs fp) : xs.length ≤ maxLen := w.1
theorem SlR.le2 (w : SlR tag R h x xs fp) : xs.length ≤ 9223372036854775807 := by have := w.1; unfold maxLen at this; omega
theorem SlR.lt (ok : RelOk R) (w : SlR tag R h x xs fp) : ∀ id, id ∈ fp → id < h.next := by
  rcases w with ⟨_, ⟨_, _, rfl⟩ | ⟨id, rows, fps, _, _, h1, rfl, h2⟩⟩
  · intro id hid; cases hid
  · intro i hi
    rcases List.mem_cons.1 hi with rfl | hi
    · exact h1
    · exact h2.lt ok i hi
theorem SlR.mv (ok : RelOk R) (w : SlR tag R h x xs fp) (hn : h.next ≤ h'.next) (hg : ∀ id, id ∈ fp → h'.get id = h.get id) : SlR tag R h' x xs fp := by
  rcases w with ⟨hl, ⟨h1, h2, rfl⟩ | ⟨id, rows, fps, h1, h2, h3, rfl, h4⟩⟩
  · exact ⟨hl, .inl ⟨h1, h2, rfl⟩⟩
  · exact ⟨hl, .inr ⟨id, rows, fps, h1, (hg id (by simp)).trans h2, Nat.lt_of_lt_of_le h3 hn, rfl, h4.mv ok hn fun i hi => hg i (by simp [hi])⟩⟩
theorem SlR.mono (ok : RelOk R) (w : SlR tag R h x xs fp) (hx : HExt h h') : SlR tag R h' x xs fp := w.mv ok hx.1 fun id hid => hx.2 id (w.lt ok id hid)
theorem RelOk.mono (ok : RelOk R) {cs : List Cell} {a : α} (w : R h cs a fp) (hx : HExt h h') : R h' cs a fp := ok.mv w hx.1 fun id hid => hx.2 id (ok.lt w id hid)
theorem SlR.len (w : SlR tag R h x xs fp) : lenR (some x) = some (.int .i64 (xs.length : Nat)) := by
  rcases w with ⟨_, ⟨rfl, rfl, _⟩ | ⟨id, rows, fps, rfl, _⟩⟩ <;> rfl
theorem SlR.idx (w : SlR tag R h x xs fp) {i : Nat} (hi : i < xs.length) : idxR tag (some x) (some (i : Int)) = some (.ptr x.sid i 0) := by
  rcases w with ⟨_, ⟨rfl, rfl, _⟩ | ⟨id, rows, fps, rfl, _⟩⟩
  · exact absurd hi (Nat.not_lt_zero _)
  · rw [idxR_s, if_pos (by omega)]; simp [Cell.sid]
theorem SlR.row (w : SlR tag R h x xs fp) {i : Nat} (hi : i < xs.length) : ∃ r f, rowOf h x.sid i = some r ∧ R h r xs[i] f ∧ ∀ id, id ∈ f → id ∈ fp := by
  rcases w with ⟨_, ⟨rfl, rfl, _⟩ | ⟨id, rows, fps, rfl, h1, _, rfl, h2⟩⟩
  · exact absurd hi (Nat.not_lt_zero _)
  · obtain ⟨r, f, q1, q2, q3⟩ := h2.at i hi
    refine ⟨r, f, by simp [rowOf, Cell.sid, h1, q1], q3, fun id hid => List.mem_cons_of_mem _ (List.mem_flatten.2 ⟨f, List.mem_of_getElem? q2, hid⟩)⟩
theorem SlR.flat {enc : α → List Cell} (w : SlR tag (Fl enc) h x xs fp) : (x = .nil ∧ xs = [] ∧ fp = []) ∨ x = .sl tag x.sid 0 xs.length ∧ h.get x.sid = some (xs.map enc) ∧ x.sid < h.next ∧ fp = [x.sid] := by
  rcases w with ⟨_, h0 | ⟨id, rows, fps, rfl, h1, h2, rfl, h3⟩⟩
  · exact .inl h0
  · obtain ⟨rfl, h4⟩ := h3.flat
    exact .inr ⟨rfl, h1, h2, by rw [h4]; rfl⟩
theorem SlR.ofFlat {enc : α → List Cell} (hl : xs.length ≤ maxLen) {id : Nat} (h1 : h.get id = some (xs.map enc)) (h2 : id < h.next) : SlR tag (Fl enc) h (.sl tag id 0 xs.length) xs [id] :=
  ⟨hl, .inr ⟨id, _, _, rfl, h1, h2, by simp, AllR.ofFlat xs⟩⟩
theorem SlR.nil (tag : Nat) (R : Rel α) (h : Heap) : SlR tag R h .nil [] [] := ⟨Nat.zero_le _, .inl ⟨rfl, rfl, rfl⟩⟩
theorem SlR.load {enc : α → List Cell} (w : SlR tag (Fl enc) h x xs fp) {i : Nat} (hi : i < xs.length) (j n : Nat) : loadP h x.sid i j n = cut? (enc xs[i]) j n := by
  obtain ⟨r, f, h1, ⟨rfl, _⟩, _⟩ := w.row hi
  simp [loadP, h1]
theorem SlR.loadD {enc : α → List Cell} (w : SlR tag (Fl enc) h x xs fp) (d : α) {i : Nat} (hi : i < xs.length) (j n : Nat) : loadP h x.sid i j n = cut? (enc (xs[i]?.getD d)) j n := by
  rw [w.load hi, List.getElem?_eq_getElem hi]; rfl
theorem SlR.rows {enc : α → List Cell} (w : SlR tag (Fl enc) h x xs fp) : rowsOf h x = some (xs.map enc) := by
  rcases w.flat with ⟨rfl, rfl, _⟩ | ⟨h1, h2, _⟩
  · rfl
  · rw [h1]; simp only [rowsOf]; rw [h2]; simp [List.take_of_length_le]
theorem SlR.isTag (w : SlR tag R h x xs fp) : A.isTag tag x = true := by
  rcases w with ⟨_, ⟨rfl, rfl, _⟩ | ⟨id, rows, fps, rfl, _⟩⟩ <;> simp [A.isTag]
theorem AllR.ofWf {A : α → Prop} {W : List Cell → Prop} (hr : ∀ r, W r → ∃ a f, R h r a f ∧ A a) : ∀ (rows : List (List Cell)), (∀ r, r ∈ rows → W r) → ∃ xs fps, AllR R h rows xs fps ∧ ∀ a, a ∈ xs → A a
  | [], _ => ⟨[], [], trivial, fun _ h => nomatch h⟩
  | r :: rs, w => by
    obtain ⟨a, f, h1, h2⟩ := hr r (w r (by simp))
    obtain ⟨bs, fs, h3, h4⟩ := AllR.ofWf hr rs fun r hr => w r (by simp [hr])
    exact ⟨a :: bs, f :: fs, ⟨h1, h3⟩, fun b hb => by (rcases List.mem_cons.1 hb with rfl | hb); exact h2; exact h4 b hb⟩
theorem SlR.ofWf {A : α → Prop} {n sz : Nat} {e : Sh} (hr : ∀ r, r.length = sz ∧ Wf h n e r → ∃ a f, R h r a f ∧ A a) (w : Wf h (n + 1) (.slice tag sz e) [x]) : ∃ xs fp, SlR tag R h x xs fp ∧ ∀ a, a ∈ xs → A a := by
  rcases w with w | ⟨id, rows, h1, h2, h3, h4, h5⟩
  · cases w; exact ⟨[], [], SlR.nil _ _ _, fun _ h => nomatch h⟩
  · cases h1
    obtain ⟨xs, fps, q1, q2⟩ := AllR.ofWf hr rows h5
    exact ⟨xs, _, ⟨q1.len ▸ h4, .inr ⟨id, rows, fps, by rw [q1.len], h3, h2, rfl, q1⟩⟩, q2⟩
end

/-! ### the heap -/
theorem push_put (h : Heap) (a b : List (List Cell)) : (h.push a).put h.next b = h.push b := by
  simp only [Heap.push, Heap.put]
  congr 1; funext i; split <;> rfl
theorem push_get (h : Heap) (a : List (List Cell)) : (h.push a).get h.next = some a := by simp [Heap.push]
theorem push_next (h : Heap) (a : List (List Cell)) : (h.push a).next = h.next + 1 := rfl
theorem push_floor (h : Heap) (a : List (List Cell)) : (h.push a).floor = h.floor := rfl
theorem put_put (h : Heap) (id : Nat) (a b : List (List Cell)) : (h.put id a).put id b = h.put id b := by
  simp only [Heap.put]
  congr 1; funext i; split <;> rfl
theorem push_kill (h : Heap) (a : List (List Cell)) : (h.push a).kill h.next = { h with next := h.next + 1, get := fun i => if i = h.next then none else h.get i } := by
  simp only [Heap.push, Heap.kill]
  congr 1; funext i; split <;> rfl

theorem storeP_push {h : Heap} {rows : List (List Cell)} (hf : h.floor ≤ h.next) {i : Nat} {old new : List Cell} (h1 : rows[i]? = some old) (h2 : new.length = old.length) : storeP (h.push rows) h.next i 0 new = some (h.push (rows.set i new)) := by
  simp only [storeP, push_floor, push_get]
  rw [if_pos hf]
  simp only [Option.bind_some, h1, splice?, List.take_zero, List.nil_append, Nat.zero_add]
  rw [if_pos (by omega), h2, List.drop_length]
  simp only [List.append_nil, Option.bind_some, push_put]
/-- A store into a row that may be written. -/
theorem storeP_at {h : Heap} {id : Nat} {rows : List (List Cell)} (hf : h.floor ≤ id) (hr : h.get id = some rows) {i j : Nat} {old new r : List Cell} (h1 : rows[i]? = some old) (h2 : splice? old j new = some r) : storeP h id i j new = some (h.put id (rows.set i r)) := by
  simp only [storeP]
  rw [if_pos hf, hr]
  simp only [Option.bind_some, h1, h2]
theorem HExt.fl {h h' : Heap} (hx : HExt h h') (hf : h'.floor = h.floor) (h0 : h.floor ≤ h.next) : h'.floor ≤ h'.next := by rw [hf]; exact Nat.le_trans h0 hx.1

/-- The heap goes on: what was there is there. -/
structure On (h h' : Heap) : Prop where
  ext : HExt h h'
  fl : h'.floor = h.floor
theorem On.refl (h : Heap) : On h h := ⟨HExt.refl h, rfl⟩
theorem On.trans {a b c : Heap} (p : On a b) (q : On b c) : On a c := ⟨p.ext.trans q.ext, q.fl.trans p.fl⟩
theorem On.push (h : Heap) (rows : List (List Cell)) : On h (h.push rows) := ⟨HExt.push h rows, rfl⟩
theorem On.le {h h' : Heap} (o : On h h') (hf : h.floor ≤ h.next) : h'.floor ≤ h'.next := o.ext.fl o.fl hf
/-- Rows that were made behind h, each named once. -/
structure Fre (h : Heap) (fp : List Nat) : Prop where
  lo : ∀ id, id ∈ fp → h.next ≤ id
  nd : fp.Nodup
theorem Fre.one (h : Heap) : Fre h [h.next] := ⟨fun id hid => by simp at hid; omega, by simp⟩
theorem Fre.nil (h : Heap) : Fre h [] := ⟨fun id hid => (nomatch hid), List.nodup_nil⟩
theorem RelOk.on {α : Type} {R : Rel α} (ok : RelOk R) {h h' : Heap} {cs : List Cell} {a : α} {fp : List Nat} (w : R h cs a fp) (o : On h h') : R h' cs a fp := ok.mono w o.ext
theorem SlR.on {α : Type} {R : Rel α} {tag : Nat} {h h' : Heap} {x : Cell} {xs : List α} {fp : List Nat} (w : SlR tag R h x xs fp) (ok : RelOk R) (o : On h h') : SlR tag R h' x xs fp := w.mono ok o.ext

/-! ### rows that are filled one by one -/
def fillR {α : Type} (f : α → List Cell) (z : List Cell) (xs : List α) (i : Nat) : List (List Cell) := (xs.take i).map f ++ List.replicate (xs.length - i) z
theorem fillR_0 {α : Type} (f : α → List Cell) (z : List Cell) (xs : List α) : fillR f z xs 0 = List.replicate xs.length z := by simp [fillR]
theorem fillR_n {α : Type} (f : α → List Cell) (z : List Cell) (xs : List α) : fillR f z xs xs.length = xs.map f := by simp [fillR]
theorem fillR_get {α : Type} (f : α → List Cell) (z : List Cell) (xs : List α) {i : Nat} (hi : i < xs.length) : (fillR f z xs i)[i]? = some z := by
  simp only [fillR]
  rw [List.getElem?_append_right (by simp; omega)]
  rw [List.getElem?_replicate, if_pos]
  simp only [List.length_map, List.length_take]; omega
theorem fillR_set {α : Type} (f : α → List Cell) (z : List Cell) (xs : List α) {i : Nat} (hi : i < xs.length) : (fillR f z xs i).set i (f xs[i]) = fillR f z xs (i + 1) := by
  simp only [fillR]
  rw [List.set_append_right _ _ (by simp; omega), show i - ((xs.take i).map f).length = 0 from by simp; omega, show xs.length - i = (xs.length - (i + 1)) + 1 from by omega, List.replicate_succ, List.set_cons_zero,
    show xs.take (i + 1) = xs.take i ++ [xs[i]] from by rw [List.take_add_one, List.getElem?_eq_getElem hi]; rfl, List.map_append, List.append_assoc]
  rfl

/-! ### rows that are turned one by one, in place -/
def putM (h : Heap) (id : Nat) (rows : List (List Cell)) (i : Nat) : Option (List Cell) → Option Heap
  | some r => some (h.put id (rows.set i r))
  | none => none
theorem putM_s (h : Heap) (id : Nat) (rows : List (List Cell)) (i : Nat) (r : List Cell) : putM h id rows i (some r) = some (h.put id (rows.set i r)) := rfl
theorem storeP_put {h : Heap} {id : Nat} (hf : h.floor ≤ id) {rows : List (List Cell)} {i : Nat} (hi : i < rows.length) (old new : List Cell) (j : Nat) : storeP (h.put id (rows.set i old)) id i j new = putM h id rows i (splice? old j new) := by
  have hf' : (h.put id (rows.set i old)).floor ≤ id := hf
  have hg : (h.put id (rows.set i old)).get id = some (rows.set i old) := by simp [Heap.put]
  simp only [storeP]
  rw [if_pos hf', hg]
  simp only [Option.bind_some, List.getElem?_set_self hi]
  cases splice? old j new with
  | none => rfl
  | some r => simp only [Option.bind_some, List.set_set, put_put, putM]
theorem put_same {h : Heap} {id : Nat} {rows : List (List Cell)} (hr : h.get id = some rows) : h.put id rows = h := by
  obtain ⟨a, b, g⟩ := h
  simp only [Heap.put]
  congr 1; funext i; split
  · rename_i he; subst he; exact hr.symm
  · rfl
def mixR {α : Type} (f : α → List Cell) (ms xs : List α) (i : Nat) : List (List Cell) := (ms.take i).map f ++ (xs.drop i).map f
theorem mixR_0 {α : Type} (f : α → List Cell) (ms xs : List α) : mixR f ms xs 0 = xs.map f := by simp [mixR]
theorem mixR_n {α : Type} (f : α → List Cell) {ms xs : List α} (hl : ms.length = xs.length) : mixR f ms xs xs.length = ms.map f := by simp [mixR, ← hl]
theorem mixR_len {α : Type} (f : α → List Cell) {ms xs : List α} (hl : ms.length = xs.length) (i : Nat) : (mixR f ms xs i).length = xs.length := by simp [mixR]; omega
theorem mixR_split {α : Type} (f : α → List Cell) {ms xs : List α} (hl : ms.length = xs.length) {i : Nat} (hi : i < xs.length) (c : List Cell) : (mixR f ms xs i).set i c = (ms.take i).map f ++ c :: (xs.drop (i + 1)).map f := by
  simp only [mixR]
  rw [List.set_append_right _ _ (by simp; omega), show i - ((ms.take i).map f).length = 0 from by simp; omega, List.drop_eq_getElem_cons hi, List.map_cons, List.set_cons_zero]
theorem mixR_cur {α : Type} (f : α → List Cell) {ms xs : List α} (hl : ms.length = xs.length) {i : Nat} (hi : i < xs.length) : (mixR f ms xs i).set i (f xs[i]) = mixR f ms xs i := by
  rw [mixR_split f hl hi, mixR, List.drop_eq_getElem_cons hi]; rfl
theorem mixR_set {α : Type} (f : α → List Cell) {ms xs : List α} (hl : ms.length = xs.length) {i : Nat} (hi : i < xs.length) : (mixR f ms xs i).set i (f (ms[i]'(by omega))) = mixR f ms xs (i + 1) := by
  have hi' : i < ms.length := by omega
  rw [mixR_split f hl hi, mixR, show ms.take (i + 1) = ms.take i ++ [ms[i]] from by rw [List.take_add_one, List.getElem?_eq_getElem hi']; rfl, List.map_append, List.append_assoc]
  rfl
/-- Only these rows have turned. -/
structure Mk (h h' : Heap) (fp : List Nat) : Prop where
  next : h'.next = h.next
  fl : h'.floor = h.floor
  get : ∀ id, id ∉ fp → h'.get id = h.get id
theorem Mk.refl (h : Heap) (fp : List Nat) : Mk h h fp := ⟨rfl, rfl, fun _ _ => rfl⟩
theorem Mk.put (h : Heap) (id : Nat) (rows : List (List Cell)) : Mk h (h.put id rows) [id] := ⟨rfl, rfl, fun k hk => by simp only [Heap.put]; rw [if_neg (by simpa using hk)]⟩
theorem RelOk.mk' {α : Type} {R : Rel α} (ok : RelOk R) {h h' : Heap} {cs : List Cell} {a : α} {fp fq : List Nat} (w : R h cs a fp) (m : Mk h h' fq) (hd : ∀ id, id ∈ fp → id ∉ fq) : R h' cs a fp := ok.mv w (by rw [m.next]; exact Nat.le_refl _) fun id hid => m.get id (hd id hid)
theorem Mk.trans {a b c : Heap} {p q : List Nat} (m : Mk a b p) (n : Mk b c q) : Mk a c (p ++ q) := ⟨n.next.trans m.next, n.fl.trans m.fl, fun id hid => by
  rw [List.mem_append, not_or] at hid
  rw [n.get id hid.2, m.get id hid.1]⟩
theorem SlR.mk {α : Type} {R : Rel α} {tag : Nat} {h h' : Heap} {x : Cell} {xs : List α} {fp fq : List Nat} (w : SlR tag R h x xs fp) (ok : RelOk R) (m : Mk h h' fq) (hd : ∀ id, id ∈ fp → id ∉ fq) : SlR tag R h' x xs fp := w.mv ok (by rw [m.next]; exact Nat.le_refl _) fun id hid => m.get id (hd id hid)

/-! ### what integers may be -/
theorem wfU {x : Int} (h : (Lit.int .u64 x).wf = true) : 0 ≤ x ∧ x ≤ 18446744073709551615 := by
  simp only [Lit.wf, Bool.and_eq_true, decide_eq_true_eq] at h; exact h
theorem wfI {x : Int} (h : (Lit.int .i64 x).wf = true) : -9223372036854775808 ≤ x ∧ x ≤ 9223372036854775807 := by
  simp only [Lit.wf, Bool.and_eq_true, decide_eq_true_eq] at h; exact h
theorem wrapI1 (z : Int) (h1 : 0 ≤ z) (h2 : z ≤ 9200000000000000000) : IntKind.i64.wrap (z + 1) = z + 1 := wrapI _ (by omega) (by omega)
theorem wrapU1 (z : Int) (h1 : 0 ≤ z) (h2 : z ≤ 9200000000000000000) : IntKind.u64.wrap z = z := wrapU _ (by omega) (by omega)
theorem wrapII (z : Int) (h1 : 0 ≤ z) (h2 : z ≤ 9200000000000000000) : IntKind.i64.wrap z = z := wrapI _ (by omega) (by omega)
theorem b_rem (k : IntKind) (a b : Int) (h : b ≠ 0) : binF .rem (.int k a) (.int k b) = some (.int k (a.tmod b)) := by simp [binF, h]
theorem b_quo (k : IntKind) (a b : Int) (h : b ≠ 0) : binF .quo (.int k a) (.int k b) = some (.int k (k.wrap (a.tdiv b))) := by simp [binF, h]

/-! ### loops -/
/-- One turn goes on, or returns. -/
def Turn (r next : Option (Ex × St)) (p : Bool) (Q : St → Prop) : Prop := (p = true ∧ r = next) ∨ (p = false ∧ ∃ s, r = some (.ret, s) ∧ Q s)
section
variable {F : Nat → Option RF} {Z : CallF} {live : List Nat} {b : RC}
theorem loop_allN (n : Nat) (st : Nat → St) (P : Nat → Bool) (Q : St → Prop) (hs : ∀ i, i < n → Turn (loop F Z live b (st i)) (loop F Z live b (st (i + 1))) (P i) Q) :
    Turn (loop F Z live b (st 0)) (loop F Z live b (st n)) ((List.range n).all P) Q := by
  induction n with
  | zero => exact .inl ⟨rfl, rfl⟩
  | succ n ih =>
    have hl : (List.range (n + 1)).all P = ((List.range n).all P && P n) := by rw [List.range_succ, List.all_append]; simp
    rcases ih fun i hi => hs i (by omega) with ⟨h1, h2⟩ | ⟨h1, h2⟩
    · rcases hs n (by omega) with ⟨h3, h4⟩ | ⟨h3, s, h4, h5⟩
      · exact .inl ⟨by rw [hl, h1, h3]; rfl, h2.trans h4⟩
      · exact .inr ⟨by rw [hl, h1, h3]; rfl, s, h2.trans h4, h5⟩
    · exact .inr ⟨by rw [hl, h1]; rfl, h2⟩
theorem loop_all {α : Type} (xs : List α) (st : Nat → St) (P : α → Bool) (Q : St → Prop) (hs : ∀ i (hi : i < xs.length), Turn (loop F Z live b (st i)) (loop F Z live b (st (i + 1))) (P xs[i]) Q) :
    Turn (loop F Z live b (st 0)) (loop F Z live b (st xs.length)) (xs.all P) Q := by
  have he : xs.all P = (List.range xs.length).all (fun i => (xs[i]?).all P) := by
    rw [Bool.eq_iff_iff, List.all_eq_true, List.all_eq_true]
    constructor
    · intro h i hi
      have hi' : i < xs.length := by simpa using hi
      rw [List.getElem?_eq_getElem hi']
      exact h _ (List.getElem_mem hi')
    · intro h a ha
      obtain ⟨i, hi, rfl⟩ := List.mem_iff_getElem.1 ha
      have := h i (by simpa using hi)
      rwa [List.getElem?_eq_getElem hi] at this
  rw [he]
  exact loop_allN _ _ _ _ fun i hi => by rw [List.getElem?_eq_getElem hi]; exact hs i hi
theorem all_same {α : Type} [DecidableEq α] {xs ys : List α} (he : xs.length = ys.length) : (List.range xs.length).all (fun i => decide (xs[i]? = ys[i]?)) = decide (xs = ys) := by
  rw [Bool.eq_iff_iff, List.all_eq_true, decide_eq_true_eq]
  constructor
  · intro hall
    apply List.ext_getElem? 
    intro i
    by_cases hi : i < xs.length
    · simpa using hall i (by simpa using hi)
    · rw [List.getElem?_eq_none (by omega), List.getElem?_eq_none (by omega)]
  · rintro rfl i _; simp
/-- A loop of so many turns, none of which leaves. -/
theorem loop_goes (n : Nat) (I : Nat → St → Prop) (hs : ∀ i s, i < n → I i s → ∃ s', I (i + 1) s' ∧ loop F Z live b s = loop F Z live b s') {s : St} (h0 : I 0 s) : ∃ s', I n s' ∧ loop F Z live b s = loop F Z live b s' := by
  induction n with
  | zero => exact ⟨s, h0, rfl⟩
  | succ n ih =>
    obtain ⟨s1, h1, h2⟩ := ih fun i s hi => hs i s (by omega)
    obtain ⟨s2, h3, h4⟩ := hs n s1 (by omega) h1
    exact ⟨s2, h3, h2.trans h4⟩
theorem loop_goesF (n : Nat) (st : Nat → St) (hs : ∀ i, i < n → loop F Z live b (st i) = loop F Z live b (st (i + 1))) : loop F Z live b (st 0) = loop F Z live b (st n) := by
  induction n with
  | zero => rfl
  | succ n ih => exact (ih fun i hi => hs i (by omega)).trans (hs n (by omega))
end
end Go.Proofs.Ytlfepembgjjejaa.A
/- Slices that are built by appending: raw rows, made behind a heap. -/
namespace Go.Proofs.Ytlfepembgjjejaa.A
open Go
set_option linter.unusedSimpArgs false
set_option linter.unusedVariables false

/-- A cell shows rows that were made behind h0. -/
structure Acc (tag : Nat) (h0 h : Heap) (x : Cell) (rows : List (List Cell)) : Prop where
  on : On h0 h
  sh : ∃ fp, SlR tag (Fl fun r => r) h x rows fp ∧ Fre h0 fp
/-- What append answers, and the heap behind it. -/
def catX (tag : Nat) (h : Heap) (x : Cell) (n : Nat) : Cell := match x with
  | .sl _ _ _ m => .sl tag h.next 0 (m + n)
  | _ => if n = 0 then .nil else .sl tag h.next 0 n
def catH (h : Heap) (x : Cell) (new : List (List Cell)) : Heap := match x with
  | .sl _ id _ _ => (h.kill id).push (((h.get id).getD []) ++ new)
  | _ => if new.length = 0 then h else h.push new
theorem Fre.app {h h1 : Heap} {p q : List Nat} (f : Fre h p) (hl : ∀ id, id ∈ p → id < h1.next) (f1 : Fre h1 q) (hn : h.next ≤ h1.next) : Fre h (p ++ q) :=
  ⟨fun id hid => by
    rcases List.mem_append.1 hid with hid | hid
    · exact f.lo id hid
    · have := f1.lo id hid
      omega, List.nodup_append.2 ⟨f.nd, f1.nd, fun a ha b hb => by
        have := hl a ha
        have := f1.lo b hb
        omega⟩⟩
section
variable {tag : Nat} {h0 h : Heap} {x y : Cell} {rows new : List (List Cell)}
theorem Acc.nil (tag : Nat) (h : Heap) : Acc tag h h .nil [] := ⟨On.refl h, [], SlR.nil _ _ _, Fre.nil h⟩
theorem Acc.none (o : On h0 h) : Acc tag h0 h .nil [] := ⟨o, [], SlR.nil _ _ _, Fre.nil h0⟩
theorem Fre.at {h0 h : Heap} (hn : h0.next ≤ h.next) : Fre h0 [h.next] := ⟨fun id hid => by simp at hid; omega, by simp⟩
theorem Acc.lit (o : On h0 h) (rows : List (List Cell)) (hl : rows.length ≤ 140737488355328) : Acc tag h0 (h.push rows) (.sl tag h.next 0 rows.length) rows :=
  ⟨o.trans (On.push h rows), [h.next], SlR.ofFlat (enc := fun r => r) (by unfold maxLen; omega) (by rw [push_get]; simp) (by rw [push_next]; omega), Fre.at o.ext.1⟩
theorem Acc.lit0 (o : On h0 h) : Acc tag h0 (h.push []) (.sl tag h.next 0 0) [] := Acc.lit o [] (by simp)
theorem Acc.push (a : Acc tag h0 h x rows) (r : List (List Cell)) : Acc tag h0 (h.push r) x rows := by
  obtain ⟨o, fp, w, f⟩ := a
  exact ⟨o.trans (On.push h r), fp, w.on (Fl.ok _) (On.push h r), f⟩
theorem Acc.go {h' : Heap} (a : Acc tag h0 h x rows) (o' : On h h') : Acc tag h0 h' x rows := by
  obtain ⟨o, fp, w, f⟩ := a
  exact ⟨o.trans o', fp, w.on (Fl.ok _) o', f⟩
theorem Acc.cat_eq (a : Acc tag h0 h x rows) (hf : h0.floor ≤ h0.next) {bytes : Nat} (hy : A.isTag tag y = true) (hr : rowsOf h y = some new) (hb : (rows.length + new.length) * bytes ≤ 140737488355328) :
    appF h tag bytes x y = some (catX tag h x new.length, catH h x new) := by
  obtain ⟨o, fp, w, f⟩ := a
  rw [appF, if_pos hy, hr]
  simp only [Option.bind_some]
  rcases w.flat with ⟨rfl, rfl, rfl⟩ | ⟨hx, hg, hn, rfl⟩
  · simp only [List.length_nil, Nat.zero_add] at hb
    simp only [catX, catH]
    split
    · rfl
    · simp [hb]
  · have hfl : h.floor ≤ x.sid := by rw [o.fl]; exact Nat.le_trans hf (f.lo _ (by simp))
    rw [hx]
    simp only [Cell.sid, catX, catH] at hg hfl hb ⊢
    simp only [hg, Option.bind_some, List.length_map]
    simp [hfl, hb]
theorem Acc.cat (a : Acc tag h0 h x rows) (hf : h0.floor ≤ h0.next) (hl : rows.length + new.length ≤ 140737488355328) : Acc tag h0 (catH h x new) (catX tag h x new.length) (rows ++ new) := by
  obtain ⟨o, fp, w, f⟩ := a
  rcases w.flat with ⟨rfl, rfl, rfl⟩ | ⟨hx, hg, hn, rfl⟩
  · simp only [catX, catH]
    split
    · rename_i h0'
      have : new = [] := List.eq_nil_of_length_eq_zero h0'
      subst this
      exact Acc.none o
    · simp only [List.nil_append]
      exact Acc.lit o new (by simp at hl; omega)
  · have hlo : h0.next ≤ x.sid := f.lo _ (by simp)
    have o1 : On h0 (h.kill x.sid) := ⟨⟨o.ext.1, fun id hid => by
      simp only [Heap.kill]
      rw [if_neg (by omega)]
      exact o.ext.2 id hid⟩, o.fl⟩
    rw [hx] at o1 ⊢
    simp only [Cell.sid, catX, catH] at hg o1 ⊢
    simp only [hg, Option.getD_some, List.map_id_fun', id]
    have := Acc.lit (tag := tag) o1 (rows ++ new) (by simpa using hl)
    rw [List.length_append] at this
    exact this
/-- One element, laid and appended. -/
theorem Acc.one_eq (a : Acc tag h0 h x rows) (hf : h0.floor ≤ h0.next) {bytes : Nat} (hb : (rows.length + 1) * bytes ≤ 140737488355328) (row : List Cell) :
    appF (h.push [row]) tag bytes x (.sl tag h.next 0 1) = some (catX tag (h.push [row]) x 1, catH (h.push [row]) x [row]) :=
  (a.push [row]).cat_eq (y := .sl tag h.next 0 1) (new := [row]) hf (by simp [A.isTag]) (by simp [rowsOf, push_get]) hb
theorem Acc.one (a : Acc tag h0 h x rows) (hf : h0.floor ≤ h0.next) (hl : rows.length + 1 ≤ 140737488355328) (row : List Cell) : Acc tag h0 (catH (h.push [row]) x [row]) (catX tag (h.push [row]) x 1) (rows ++ [row]) :=
  (a.push [row]).cat hf (new := [row]) hl
theorem SlR.ofRaw {α : Type} {enc : α → List Cell} {xs : List α} {fp : List Nat} (w : SlR tag (Fl fun r => r) h x (xs.map enc) fp) : SlR tag (Fl enc) h x xs fp := by
  have hl := w.le
  rw [List.length_map] at hl
  rcases w.flat with ⟨rfl, h2, rfl⟩ | ⟨hx, hg, hn, rfl⟩
  · have : xs = [] := List.map_eq_nil_iff.1 h2
    subst this
    exact SlR.nil _ _ _
  · rw [List.length_map] at hx
    rw [hx]
    exact SlR.ofFlat hl (by rw [hg]; simp) hn
theorem Acc.flat {α : Type} {enc : α → List Cell} {xs : List α} (a : Acc tag h0 h x (xs.map enc)) : On h0 h ∧ ∃ fp, SlR tag (Fl enc) h x xs fp ∧ Fre h0 fp := by
  obtain ⟨o, fp, w, f⟩ := a
  exact ⟨o, fp, w.ofRaw, f⟩
end
end Go.Proofs.Ytlfepembgjjejaa.A
/- Loops that append. -/
namespace Go.Proofs.Ytlfepembgjjejaa.A
open Go
set_option linter.unusedSimpArgs false
set_option linter.unusedVariables false
theorem flatMap_le {α β : Type} (g : α → List β) (hg : ∀ a, (g a).length ≤ 1) : ∀ xs : List α, (xs.flatMap g).length ≤ xs.length
  | [] => by simp
  | a :: r => by
    rw [List.flatMap_cons, List.length_append, List.length_cons]
    have := hg a
    have := flatMap_le g hg r
    omega
/-- One turn goes on, or returns; the run stands here once. -/
def Step2 (r : Option (Ex × St)) (J Q : St → Prop) (L : St → Option (Ex × St)) : Prop := (∃ s', J s' ∧ r = L s') ∨ ∃ s', r = some (.ret, s') ∧ Q s'
section
variable {F : Nat → Option RF} {Z : CallF} {live : List Nat} {b : RC}
/-- A loop that appends at most one element at each turn. -/
theorem loop_acc {α : Type} (xs : List α) (g : α → List (List Cell)) (tag : Nat) (h0 : Heap) (st : Nat → Cell → Heap → St) (hg : ∀ a, (g a).length ≤ 1)
    (hs : ∀ i (hi : i < xs.length) y h rows, Acc tag h0 h y rows → rows.length ≤ i → ∃ y' h', Acc tag h0 h' y' (rows ++ g xs[i]) ∧ loop F Z live b (st i y h) = loop F Z live b (st (i + 1) y' h')) {y : Cell} {h : Heap} (a0 : Acc tag h0 h y []) :
    ∃ y' h', Acc tag h0 h' y' (xs.flatMap g) ∧ loop F Z live b (st 0 y h) = loop F Z live b (st xs.length y' h') := by
  have key : ∀ n, n ≤ xs.length → ∃ y' h', Acc tag h0 h' y' ((xs.take n).flatMap g) ∧ ((xs.take n).flatMap g).length ≤ n ∧ loop F Z live b (st 0 y h) = loop F Z live b (st n y' h') := by
    intro n
    induction n with
    | zero => intro _; exact ⟨y, h, by simpa using a0, by simp, rfl⟩
    | succ n ih =>
      intro hn
      obtain ⟨y1, h1, a1, l1, e1⟩ := ih (by omega)
      obtain ⟨y2, h2, a2, e2⟩ := hs n (by omega) y1 h1 _ a1 l1
      have ht : (xs.take (n + 1)).flatMap g = (xs.take n).flatMap g ++ g xs[n] := by
        rw [List.take_add_one, List.getElem?_eq_getElem (by omega), List.flatMap_append]; simp
      refine ⟨y2, h2, by rw [ht]; exact a2, ?_, e1.trans e2⟩
      rw [ht, List.length_append]
      have := hg xs[n]
      omega
  obtain ⟨y', h', a', _, e'⟩ := key xs.length (Nat.le_refl _)
  rw [List.take_length] at a'
  exact ⟨y', h', a', e'⟩
/-- A loop that returns at the first element that fits. -/
theorem loop_find {α : Type} (xs : List α) (p : α → Bool) (st : Nat → St) (Q : Nat → St → Prop) (hs : ∀ i (hi : i < xs.length), Turn (loop F Z live b (st i)) (loop F Z live b (st (i + 1))) (!p xs[i]) (Q i)) :
    (xs.findIdx? p = none ∧ loop F Z live b (st 0) = loop F Z live b (st xs.length)) ∨ ∃ i, xs.findIdx? p = some i ∧ i < xs.length ∧ ∃ s, loop F Z live b (st 0) = some (.ret, s) ∧ Q i s := by
  have key : ∀ n, n ≤ xs.length → ((∀ i (hi : i < xs.length), i < n → p xs[i] = false) ∧ loop F Z live b (st 0) = loop F Z live b (st n)) ∨ ∃ i, xs.findIdx? p = some i ∧ i < xs.length ∧ ∃ s, loop F Z live b (st 0) = some (.ret, s) ∧ Q i s := by
    intro n
    induction n with
    | zero => intro _; exact .inl ⟨fun i hi h => absurd h (Nat.not_lt_zero _), rfl⟩
    | succ n ih =>
      intro hn
      rcases ih (by omega) with ⟨h1, h2⟩ | h
      · rcases hs n (by omega) with ⟨h3, h4⟩ | ⟨h3, s, h4, h5⟩
        · refine .inl ⟨fun i hi hl => ?_, h2.trans h4⟩
          by_cases he : i = n
          · subst he; simpa using h3
          · exact h1 i hi (by omega)
        · refine .inr ⟨n, ?_, by omega, s, h2.trans h4, h5⟩
          rw [List.findIdx?_eq_some_iff_getElem]
          refine ⟨by omega, by simpa using h3, fun j hj => ?_⟩
          simpa using h1 j (by omega) (by omega)
      · exact .inr h
  rcases key xs.length (Nat.le_refl _) with ⟨h1, h2⟩ | h
  · refine .inl ⟨?_, h2⟩
    rw [List.findIdx?_eq_none_iff]
    intro a ha
    obtain ⟨i, hi, rfl⟩ := List.mem_iff_getElem.1 ha
    exact h1 i hi hi
  · exact .inr h
/-- A loop of so many turns, some of which return. -/
theorem loop_rel (n : Nat) (I : Nat → St → Prop) (Q : St → Prop) (hs : ∀ i s, i < n → I i s → Step2 (loop F Z live b s) (I (i + 1)) Q (loop F Z live b)) {s : St} (h0 : I 0 s) :
    (∃ s', I n s' ∧ loop F Z live b s = loop F Z live b s') ∨ ∃ s', loop F Z live b s = some (.ret, s') ∧ Q s' := by
  induction n with
  | zero => exact .inl ⟨s, h0, rfl⟩
  | succ n ih =>
    rcases ih fun i s hi => hs i s (by omega) with ⟨s1, i1, e1⟩ | h
    · rcases hs n s1 (by omega) i1 with ⟨s2, i2, e2⟩ | ⟨s2, e2, q2⟩
      · exact .inl ⟨s2, i2, e1.trans e2⟩
      · exact .inr ⟨s2, e1.trans e2, q2⟩
    · exact .inr h
/-- The place of the first that fits, -1 for none. -/
def findI {α : Type} (p : α → Bool) (xs : List α) : Int := match xs.findIdx? p with
  | some i => (i : Int)
  | none => -1
/-- A loop over a list that carries a value on. -/
theorem loop_fold {α σ : Type} (xs : List α) (step : σ → α → σ) (I : Nat → σ → St → Prop) (hs : ∀ i (hi : i < xs.length) a s, I i a s → ∃ s', I (i + 1) (step a xs[i]) s' ∧ loop F Z live b s = loop F Z live b s') {a : σ} {s : St} (h0 : I 0 a s) :
    ∃ s', I xs.length (xs.foldl step a) s' ∧ loop F Z live b s = loop F Z live b s' := by
  have key : ∀ n, n ≤ xs.length → ∃ s', I n ((xs.take n).foldl step a) s' ∧ loop F Z live b s = loop F Z live b s' := by
    intro n
    induction n with
    | zero => intro _; exact ⟨s, by simpa using h0, rfl⟩
    | succ n ih =>
      intro hn
      obtain ⟨s1, i1, e1⟩ := ih (by omega)
      obtain ⟨s2, i2, e2⟩ := hs n (by omega) _ s1 i1
      refine ⟨s2, ?_, e1.trans e2⟩
      rw [List.take_add_one, List.getElem?_eq_getElem (by omega), List.foldl_append]
      exact i2
  obtain ⟨s', i', e'⟩ := key xs.length (Nat.le_refl _)
  rw [List.take_length] at i'
  exact ⟨s', i', e'⟩
end
end Go.Proofs.Ytlfepembgjjejaa.A
/- Calls with the floor raised. -/
namespace Go.Proofs.Ytlfepembgjjejaa.A
open Go
set_option linter.unusedSimpArgs false
set_option linter.unusedVariables false
theorem On.quiet {h h' : Heap} (o : On { h with floor := h.next } h') : On h { h' with floor := h.floor } := ⟨⟨o.ext.1, o.ext.2⟩, rfl⟩
theorem On.up (h : Heap) : On h { h with floor := h.floor } := ⟨⟨Nat.le_refl _, fun _ _ => rfl⟩, rfl⟩
theorem SlR.up {α : Type} {R : Rel α} {tag : Nat} {h : Heap} {x : Cell} {xs : List α} {fp : List Nat} (w : SlR tag R h x xs fp) (ok : RelOk R) (n : Nat) : SlR tag R { h with floor := n } x xs fp := w.mv ok (Nat.le_refl _) fun _ _ => rfl
/-- A call with the floor raised, and the heap behind it as one thing. -/
theorem quietly {F : Nat → Option RF} {Z : CallF} {h h' : Heap} {f : Nat} {vs : List V} {r : V} (e : call F Z f vs ⟨h.next, h.next, h.get⟩ = some (r, h')) (o : On ⟨h.next, h.next, h.get⟩ h') :
    ∃ h' g, call F Z f vs ⟨h.next, h.next, h.get⟩ = some (r, h') ∧ Heap.mk h'.next h.floor h'.get = g ∧ On h g := ⟨h', _, e, rfl, ⟨⟨o.ext.1, o.ext.2⟩, rfl⟩⟩
theorem RelOk.up {α : Type} {R : Rel α} (ok : RelOk R) {h : Heap} {cs : List Cell} {a : α} {fp : List Nat} (w : R h cs a fp) (n : Nat) : R ⟨h.next, n, h.get⟩ cs a fp := ok.mv w (Nat.le_refl _) fun _ _ => rfl
end Go.Proofs.Ytlfepembgjjejaa.A
/- Rows of data with memory of their own: read, and filled one by one. -/
namespace Go.Proofs.Ytlfepembgjjejaa.A
open Go
set_option linter.unusedSimpArgs false
set_option linter.unusedVariables false
section
variable {α : Type} {R : Rel α} {tag : Nat} {h : Heap} {x : Cell} {xs : List α} {fp : List Nat}
/-- One row of a slice. -/
theorem SlR.one (w : SlR tag R h x xs fp) {i : Nat} (hi : i < xs.length) : ∃ r f, (∀ j n, loadP h x.sid i j n = cut? r j n) ∧ R h r xs[i] f ∧ ∀ id, id ∈ f → id ∈ fp := by
  obtain ⟨r, f, h1, h2, h3⟩ := w.row hi
  exact ⟨r, f, fun j n => by simp [loadP, h1], h2, h3⟩
/-- Rows of which the first are filled. -/
structure Filled (R : Rel α) (h0 g : Heap) (o : Nat) (z : List Cell) (xs : List α) (i : Nat) (rows : List (List Cell)) (fps : List (List Nat)) : Prop where
  on : On h0 g
  ge : h0.next ≤ o
  lt : o < g.next
  get : g.get o = some rows
  len : rows.length = xs.length
  rel : AllR R g (rows.take i) (xs.take i) fps
  rest : ∀ j, i ≤ j → j < xs.length → rows[j]? = some z
  nd : fps.flatten.Nodup
  out : ∀ id, id ∈ fps.flatten → o < id
theorem AllR.snoc {h : Heap} : ∀ {rows : List (List Cell)} {xs : List α} {fps : List (List Nat)}, AllR R h rows xs fps → ∀ {r a f}, R h r a f → AllR R h (rows ++ [r]) (xs ++ [a]) (fps ++ [f])
  | [], [], [], _ => fun w => ⟨w, trivial⟩
  | _ :: _, _ :: _, _ :: _, ⟨w1, w⟩ => fun w2 => ⟨w1, w.snoc w2⟩
  | [], [], _ :: _, w => w.elim
  | [], _ :: _, _, w => w.elim
  | _ :: _, [], _, w => w.elim
  | _ :: _, _ :: _, [], w => w.elim
theorem Filled.start (h : Heap) (z : List Cell) (xs : List α) : Filled R h (h.push (List.replicate xs.length z)) h.next z xs 0 (List.replicate xs.length z) [] where
  on := On.push _ _
  ge := Nat.le_refl _
  lt := by rw [push_next]; omega
  get := push_get _ _
  len := by simp
  rel := trivial
  rest := fun j _ hj => by rw [List.getElem?_replicate, if_pos hj]
  nd := List.nodup_nil
  out := fun id hid => by simp at hid
/-- One more row. -/
theorem Filled.step (ok : RelOk R) {h0 g g' : Heap} {o : Nat} {z : List Cell} {i : Nat} {rows : List (List Cell)} {fps : List (List Nat)} (w : Filled R h0 g o z xs i rows fps) (hf : h0.floor ≤ h0.next) (hi : i < xs.length)
    {cs : List Cell} {fq : List Nat} (hz : cs.length = z.length) (o' : On g g') (v : R g' cs xs[i] fq) (f : Fre g fq) :
    storeP g' o i 0 cs = some (g'.put o (rows.set i cs)) ∧ Filled R h0 (g'.put o (rows.set i cs)) o z xs (i + 1) (rows.set i cs) (fps ++ [fq]) := by
  have hget : g'.get o = some rows := by rw [o'.ext.2 o w.lt]; exact w.get
  have hri : rows[i]? = some z := w.rest i (Nat.le_refl _) hi
  have hfl : g'.floor ≤ o := by rw [o'.fl, w.on.fl]; exact Nat.le_trans hf w.ge
  have hlen : i < rows.length := by rw [w.len]; exact hi
  have hput : ∀ id, id ≠ o → (g'.put o (rows.set i cs)).get id = g'.get id := fun id hid => by simp only [Heap.put]; rw [if_neg hid]
  have hin : ∀ id, id ∈ fps.flatten → id < g.next := by
    intro id hid
    exact w.rel.lt ok id hid
  refine ⟨?_, ?_⟩
  · refine storeP_at hfl hget hri ?_
    rw [splice?, if_pos (by omega)]
    simp [← hz]
  · refine ⟨⟨⟨Nat.le_trans w.on.ext.1 o'.ext.1, fun id hid => ?_⟩, o'.fl.trans w.on.fl⟩, w.ge, Nat.lt_of_lt_of_le w.lt o'.ext.1, by simp [Heap.put], by simp [w.len], ?_, fun j h1 h2 => ?_, ?_, fun id hid => ?_⟩
    · have := w.ge
      rw [hput id (by omega), o'.ext.2 id (Nat.lt_of_lt_of_le hid w.on.ext.1)]
      exact w.on.ext.2 id hid
    · have e1 : (rows.set i cs).take (i + 1) = rows.take i ++ [cs] := by
        rw [List.take_add_one, List.getElem?_set_self hlen]
        rw [List.take_set, List.set_eq_of_length_le (by simp; omega)]
        rfl
      have e2 : xs.take (i + 1) = xs.take i ++ [xs[i]] := by rw [List.take_add_one, List.getElem?_eq_getElem hi]; rfl
      rw [e1, e2]
      have v' : R (g'.put o (rows.set i cs)) cs xs[i] fq := ok.mv v (Nat.le_refl _) fun id hid => hput id (by have := f.lo id hid; have := w.lt; omega)
      refine AllR.snoc (w.rel.mv (h' := g'.put o (rows.set i cs)) ok o'.ext.1 fun id hid => ?_) v'
      rw [hput id (by have := w.out id hid; omega)]
      exact o'.ext.2 id (hin id hid)
    · rw [List.getElem?_set_ne (by omega)]
      exact w.rest j (by omega) h2
    · rw [List.flatten_append]
      simp only [List.flatten_cons, List.flatten_nil, List.append_nil]
      exact List.nodup_append.2 ⟨w.nd, f.nd, fun a ha b hb => by have := hin a ha; have := f.lo b hb; omega⟩
    · rw [List.flatten_append] at hid
      simp only [List.flatten_cons, List.flatten_nil, List.append_nil] at hid
      rcases List.mem_append.1 hid with hid | hid
      · exact w.out id hid
      · have := f.lo id hid
        have := w.lt
        omega
theorem Filled.all {h0 g : Heap} {o : Nat} {z : List Cell} {rows : List (List Cell)} {fps : List (List Nat)} (w : Filled R h0 g o z xs xs.length rows fps) (hl : xs.length ≤ 1048576) (tag : Nat) :
    On h0 g ∧ SlR tag R g (.sl tag o 0 xs.length) xs (o :: fps.flatten) ∧ Fre h0 (o :: fps.flatten) := by
  have hr := w.rel
  rw [List.take_length, ← w.len, List.take_length] at hr
  refine ⟨w.on, ⟨by unfold maxLen; omega, .inr ⟨o, rows, fps, rfl, w.get, w.lt, rfl, hr⟩⟩, ⟨fun id hid => ?_, ?_⟩⟩
  · have := w.ge
    rcases List.mem_cons.1 hid with rfl | hid
    · omega
    · have := w.out id hid; omega
  · exact List.nodup_cons.2 ⟨fun hc => by have := w.out o hc; omega, w.nd⟩
end
end Go.Proofs.Ytlfepembgjjejaa.A
/- Loops behind which the heap goes on. -/
namespace Go.Proofs.Ytlfepembgjjejaa.A
open Go
set_option linter.unusedSimpArgs false
set_option linter.unusedVariables false
/-- One turn goes on with a heap that goes on, or returns. -/
def TurnO (r : Option (Ex × St)) (next : Heap → Option (Ex × St)) (g : Heap) (p : Bool) (Q : St → Prop) : Prop :=
  (p = true ∧ ∃ g', On g g' ∧ r = next g') ∨ (p = false ∧ ∃ s', r = some (.ret, s') ∧ On g s'.hp ∧ Q s')
section
variable {F : Nat → Option RF} {Z : CallF} {live : List Nat} {b : RC}
theorem loop_on (n : Nat) (st : Nat → Heap → St) (h : Heap) (P : Nat → Bool) (Q : St → Prop)
    (hs : ∀ i g, i < n → On h g → TurnO (loop F Z live b (st i g)) (fun g' => loop F Z live b (st (i + 1) g')) g (P i) Q) :
    TurnO (loop F Z live b (st 0 h)) (fun g' => loop F Z live b (st n g')) h ((List.range n).all P) Q := by
  induction n with
  | zero => exact .inl ⟨rfl, h, On.refl h, rfl⟩
  | succ n ih =>
    have hl : (List.range (n + 1)).all P = ((List.range n).all P && P n) := by rw [List.range_succ, List.all_append]; simp
    rcases ih fun i g hi => hs i g (by omega) with ⟨h1, g1, o1, e1⟩ | ⟨h1, s', e1, o1, q1⟩
    · rcases hs n g1 (by omega) o1 with ⟨h3, g2, o2, e2⟩ | ⟨h3, s', e2, o2, q2⟩
      · exact .inl ⟨by rw [hl, h1, h3]; rfl, g2, o1.trans o2, e1.trans e2⟩
      · exact .inr ⟨by rw [hl, h1, h3]; rfl, s', e1.trans e2, o1.trans o2, q2⟩
    · exact .inr ⟨by rw [hl, h1]; rfl, s', e1, o1, q1⟩
end
theorem On.mkup {h h' : Heap} (o : On ⟨h.next, h.next, h.get⟩ h') : On h ⟨h'.next, h.floor, h'.get⟩ := ⟨⟨o.ext.1, o.ext.2⟩, rfl⟩
end Go.Proofs.Ytlfepembgjjejaa.A
/- Slices of data with memory: built by appending, and with one row turned. -/
namespace Go.Proofs.Ytlfepembgjjejaa.A
open Go
set_option linter.unusedSimpArgs false
set_option linter.unusedVariables false
theorem push_ne {h : Heap} (r : List (List Cell)) {id : Nat} (hid : id ≠ h.next) : (h.push r).get id = h.get id := by simp only [Heap.push]; rw [if_neg hid]
theorem kill_ne {h : Heap} {k id : Nat} (hid : id ≠ k) : (h.kill k).get id = h.get id := by simp only [Heap.kill]; rw [if_neg hid]
theorem put_ne {h : Heap} {k id : Nat} (r : List (List Cell)) (hid : id ≠ k) : (h.put k r).get id = h.get id := by simp only [Heap.put]; rw [if_neg hid]
theorem kill_next (h : Heap) (k : Nat) : (h.kill k).next = h.next := rfl
/-- A cell shows data that was made behind h0. -/
structure AccM {α : Type} (R : Rel α) (tag : Nat) (h0 h : Heap) (x : Cell) (xs : List α) (fp : List Nat) : Prop where
  on : On h0 h
  sh : SlR tag R h x xs fp
  fr : Fre h0 fp
section
variable {α : Type} {R : Rel α} {tag : Nat} {h0 h g : Heap} {x : Cell} {xs : List α} {fp fq : List Nat}
theorem AccM.nil (R : Rel α) (tag : Nat) (h : Heap) : AccM R tag h h .nil [] [] := ⟨On.refl h, SlR.nil _ _ _, Fre.nil h⟩
theorem AccM.none (R : Rel α) (tag : Nat) (o : On h0 h) : AccM R tag h0 h .nil [] [] := ⟨o, SlR.nil _ _ _, Fre.nil h0⟩
theorem AccM.lit0 (R : Rel α) (tag : Nat) (o : On h0 h) : AccM R tag h0 (h.push []) (.sl tag h.next 0 0) [] [h.next] :=
  ⟨o.trans (On.push h []), ⟨by simp, .inr ⟨h.next, [], [], rfl, push_get _ _, by rw [push_next]; omega, rfl, trivial⟩⟩, Fre.at o.ext.1⟩
theorem AccM.go (a : AccM R tag h0 h x xs fp) (ok : RelOk R) (o : On h g) : AccM R tag h0 g x xs fp := ⟨a.on.trans o, a.sh.on ok o, a.fr⟩
theorem Fre.gt (f : Fre h0 fp) : ∀ id, id < h0.next → id ∉ fp := fun id h1 h2 => by have := f.lo id h2; omega
theorem Fre.sep {p q : List Nat} (f : Fre h0 p) (hp : ∀ id, id ∈ p → id < h.next) (g : Fre h q) : ∀ id, id ∈ q → id ∉ p := fun id h1 h2 => by
  have := hp id h2
  have := g.lo id h1
  omega
theorem flat_snoc {fps : List (List Nat)} {fq : List Nat} : (fps ++ [fq]).flatten = fps.flatten ++ fq := by simp
/-- One more element. -/
theorem AccM.one (ok : RelOk R) (a : AccM R tag h0 h x xs fp) (hf : h0.floor ≤ h0.next) {bytes : Nat} (hb : (xs.length + 1) * bytes ≤ 140737488355328) (hl : xs.length + 1 ≤ 140737488355328)
    (o : On h g) {cs : List Cell} {t : α} (v : R g cs t fq) (f : Fre h0 fq) (d : ∀ id, id ∈ fq → id ∉ fp) :
    ∃ y' g' fp', appF (g.push [cs]) tag bytes x (.sl tag g.next 0 1) = some (y', g') ∧ AccM R tag h0 g' y' (xs ++ [t]) fp' ∧ h.next ≤ g'.next ∧ (∀ id, id ∈ fp' → id ∈ fp ∨ id ∈ fq ∨ g.next ≤ id) ∧ (∀ id, id < g.next → id ∉ fp → g'.get id = g.get id) := by
  have on' := a.on.trans o
  have hlt : ∀ id, id ∈ fq → id < g.next := ok.lt v
  have hp1 : ∀ id, id < g.next → (g.push [cs]).get id = g.get id := fun id hid => by simp only [Heap.push]; rw [if_neg (by omega)]
  have hn := o.ext.1
  rcases a.sh with ⟨_, ⟨rfl, rfl, rfl⟩ | ⟨id, rows, fps, rfl, q1, q2, rfl, q3⟩⟩
  · refine ⟨.sl tag (g.next + 1) 0 1, (g.push [cs]).push [cs], (g.next + 1) :: ([fq] : List (List Nat)).flatten, ?_, ⟨on'.trans ((On.push _ _).trans (On.push _ _)), ⟨by simp [maxLen], .inr ⟨g.next + 1, [cs], [fq], rfl, ?_, ?_, rfl, ?_⟩⟩, ⟨?_, ?_⟩⟩, ?_, ?_, ?_⟩
    · simp only [List.length_nil, Nat.zero_add] at hb
      simp only [appF, isTag, beq_self_eq_true, ↓reduceIte, rowsOf, push_get, Option.bind_some, List.length_singleton, Nat.zero_add, Nat.le_refl, List.drop_zero, List.take_one, List.head?_cons, Option.toList_some]
      rw [if_neg (by omega), if_pos (by omega)]; rfl
    · exact push_get _ _
    · simp only [push_next]; omega
    · refine ⟨ok.mv v (by simp only [push_next]; omega) fun id hid => ?_, trivial⟩
      have := hlt id hid
      rw [push_ne _ (by rw [push_next]; omega), push_ne _ (by omega)]
    · intro id hid
      simp only [List.flatten_cons, List.flatten_nil, List.append_nil, List.mem_cons] at hid
      rcases hid with rfl | hid
      · have := on'.ext.1; omega
      · exact f.lo id hid
    · simp only [List.flatten_cons, List.flatten_nil, List.append_nil, List.nodup_cons]
      exact ⟨fun hc => by have := hlt _ hc; omega, f.nd⟩
    · simp only [push_next]; omega
    · intro id hid
      simp only [List.flatten_cons, List.flatten_nil, List.append_nil, List.mem_cons] at hid
      rcases hid with rfl | hid
      · exact .inr (.inr (by omega))
      · exact .inr (.inl hid)
    · intro id h1 _
      rw [push_ne _ (by rw [push_next]; omega), push_ne _ (by omega)]
  · have hlo : h0.next ≤ id := a.fr.lo id (by simp)
    have hnd := List.nodup_cons.1 a.fr.nd
    have hrl := q3.len
    have hg : (g.push [cs]).get id = some rows := by rw [hp1 id (by omega), o.ext.2 id q2, q1]
    have hfl : g.floor ≤ id := by rw [on'.fl]; omega
    have hin : ∀ j, j ∈ fps.flatten → j < h.next := q3.lt ok
    have hgt : ∀ j, j < g.next → j ≠ id → (((g.push [cs]).kill id).push (rows ++ [cs])).get j = g.get j := fun j h1 h2 => by
      rw [push_ne _ (by rw [kill_next, push_next]; omega), kill_ne h2, push_ne _ (by omega)]
    refine ⟨.sl tag (g.next + 1) 0 (xs.length + 1), ((g.push [cs]).kill id).push (rows ++ [cs]), (g.next + 1) :: (fps ++ [fq]).flatten, ?_, ⟨⟨⟨?_, ?_⟩, ?_⟩, ⟨by simp [maxLen]; omega, .inr ⟨g.next + 1, rows ++ [cs], fps ++ [fq], by simp, ?_, ?_, rfl, ?_⟩⟩, ⟨?_, ?_⟩⟩, ?_, ?_, ?_⟩
    · simp only [appF, isTag, beq_self_eq_true, ↓reduceIte, rowsOf, push_get, Option.bind_some, List.length_singleton, Nat.zero_add, Nat.le_refl, List.drop_zero, List.take_one, List.head?_cons, Option.toList_some, hg]
      simp only [hrl, push_floor, hfl, hb, and_self, ↓reduceIte]; rfl
    · have := on'.ext.1
      simp only [Heap.push, Heap.kill]; omega
    · intro j hj
      have := on'.ext.1
      rw [hgt j (by omega) (by omega)]
      exact on'.ext.2 j hj
    · exact on'.fl
    · simp [Heap.push, Heap.kill]
    · simp only [Heap.push, Heap.kill]; omega
    · refine AllR.snoc (q3.mv (h' := ((g.push [cs]).kill id).push (rows ++ [cs])) ok (by simp only [Heap.push, Heap.kill]; omega) fun j hj => ?_) (ok.mv v (by simp only [Heap.push, Heap.kill]; omega) fun j hj => ?_)
      · have h1 := hin j hj
        rw [hgt j (by omega) (fun e => hnd.1 (e ▸ hj))]
        exact o.ext.2 j h1
      · exact hgt j (hlt j hj) fun e => d j hj (by rw [e]; simp)
    · intro j hj
      rw [flat_snoc] at hj
      rcases List.mem_cons.1 hj with rfl | hj
      · have := on'.ext.1; omega
      · rcases List.mem_append.1 hj with hj | hj
        · exact a.fr.lo j (by simp [hj])
        · exact f.lo j hj
    · rw [flat_snoc, List.nodup_cons]
      refine ⟨fun hc => ?_, List.nodup_append.2 ⟨hnd.2, f.nd, fun p hp q hq e => d q hq (by rw [← e]; simp [hp])⟩⟩
      rcases List.mem_append.1 hc with hc | hc
      · have := hin _ hc; omega
      · have := hlt _ hc; omega
    · simp only [Heap.push, Heap.kill]; omega
    · intro j hj
      rw [flat_snoc] at hj
      rcases List.mem_cons.1 hj with rfl | hj
      · exact .inr (.inr (by omega))
      · rcases List.mem_append.1 hj with hj | hj
        · exact .inl (by simp [hj])
        · exact .inr (.inl hj)
    · intro j h1 h2
      exact hgt j h1 fun e => h2 (by rw [e]; simp)
end
end Go.Proofs.Ytlfepembgjjejaa.A
/- One row of data with memory is turned in place. -/
namespace Go.Proofs.Ytlfepembgjjejaa.A
open Go
set_option linter.unusedSimpArgs false
set_option linter.unusedVariables false
theorem flat_set_mem {fq : List Nat} {id : Nat} : ∀ (fps : List (List Nat)) (i : Nat), id ∈ (fps.set i fq).flatten → id ∈ fps.flatten ∨ id ∈ fq
  | [], i, h => by simp at h
  | f :: r, 0, h => by
    simp only [List.set_cons_zero, List.flatten_cons, List.mem_append] at h ⊢
    rcases h with h | h
    · exact .inr h
    · exact .inl (.inr h)
  | f :: r, i + 1, h => by
    simp only [List.set_cons_succ, List.flatten_cons, List.mem_append] at h ⊢
    rcases h with h | h
    · exact .inl (.inl h)
    · rcases flat_set_mem r i h with h | h
      · exact .inl (.inr h)
      · exact .inr h
theorem flat_set_nodup {fq : List Nat} (nq : fq.Nodup) : ∀ (fps : List (List Nat)) (i : Nat) (f : List Nat), fps[i]? = some f → fps.flatten.Nodup → (∀ id, id ∈ fq → id ∈ f ∨ id ∉ fps.flatten) → (fps.set i fq).flatten.Nodup
  | [], i, f, h, _, _ => by simp at h
  | g :: r, 0, f, h, nd, hd => by
    simp only [List.getElem?_cons_zero, Option.some.injEq] at h
    subst h
    simp only [List.set_cons_zero, List.flatten_cons] at nd ⊢
    obtain ⟨n1, n2, n3⟩ := List.nodup_append.1 nd
    refine List.nodup_append.2 ⟨nq, n2, fun a ha b hb e => ?_⟩
    subst e
    rcases hd a ha with h | h
    · exact n3 a h a hb rfl
    · exact h (by rw [List.flatten_cons, List.mem_append]; exact .inr hb)
  | g :: r, i + 1, f, h, nd, hd => by
    simp only [List.getElem?_cons_succ] at h
    simp only [List.set_cons_succ, List.flatten_cons] at nd ⊢
    obtain ⟨n1, n2, n3⟩ := List.nodup_append.1 nd
    refine List.nodup_append.2 ⟨n1, flat_set_nodup nq r i f h n2 fun id hid => ?_, fun a ha b hb e => ?_⟩
    · rcases hd id hid with h | h
      · exact .inl h
      · exact .inr fun hc => h (by rw [List.flatten_cons, List.mem_append]; exact .inr hc)
    · subst e
      rcases flat_set_mem r i hb with hb | hb
      · exact n3 a ha a hb rfl
      · rcases hd a hb with h' | h'
        · exact n3 a ha a (List.mem_flatten.2 ⟨f, List.mem_of_getElem? h, h'⟩) rfl
        · exact h' (by rw [List.flatten_cons, List.mem_append]; exact .inl ha)
section
variable {α : Type} {R : Rel α} {tag : Nat} {h0 h g : Heap} {x : Cell} {xs : List α} {fp fq : List Nat}
theorem AllR.set {r : List Cell} {t : α} (w1 : R h r t fq) : ∀ {rows : List (List Cell)} {xs : List α} {fps : List (List Nat)}, AllR R h rows xs fps → ∀ (i : Nat), AllR R h (rows.set i r) (xs.set i t) (fps.set i fq)
  | [], [], [], _, _ => trivial
  | _ :: _, _ :: _, _ :: _, ⟨_, w⟩, 0 => ⟨w1, w⟩
  | _ :: _, _ :: _, _ :: _, ⟨w0, w⟩, i + 1 => ⟨w0, AllR.set w1 w i⟩
  | [], [], _ :: _, w, _ => w.elim
  | [], _ :: _, _, w, _ => w.elim
  | _ :: _, [], _, w, _ => w.elim
  | _ :: _, _ :: _, [], w, _ => w.elim
/-- One row, and what a store into it leaves. -/
theorem SlR.setRow (ok : RelOk R) (w : SlR tag R h x xs fp) (nd : fp.Nodup) (hfl : ∀ id, id ∈ fp → h.floor ≤ id) {i : Nat} (hi : i < xs.length) :
    ∃ r f, ∃ rows : List (List Cell), R h r xs[i] f ∧ (∀ id, id ∈ f → id ∈ fp) ∧ f.Nodup ∧ x.sid ∈ fp ∧ x.sid ∉ f ∧ (∀ j n, loadP h x.sid i j n = cut? r j n) ∧ (∀ j new r', splice? r j new = some r' → storeP h x.sid i j new = some (h.put x.sid (rows.set i r'))) ∧
      ∀ r' t' fq, R h r' t' fq → fq.Nodup → (∀ id, id ∈ fq → id ∈ f ∨ id ∉ fp) → ∃ fp', SlR tag R (h.put x.sid (rows.set i r')) x (xs.set i t') fp' ∧ fp'.Nodup ∧ ∀ id, id ∈ fp' → id ∈ fp ∨ id ∈ fq := by
  rcases w with ⟨hl, ⟨rfl, rfl, rfl⟩ | ⟨id, rows, fps, rfl, q1, q2, rfl, q3⟩⟩
  · exact absurd hi (Nat.not_lt_zero _)
  obtain ⟨r, f, e1, e2, v⟩ := q3.at i hi
  have hn := List.nodup_cons.1 nd
  have hin : ∀ j, j ∈ f → j ∈ fps.flatten := fun j hj => List.mem_flatten.2 ⟨f, List.mem_of_getElem? e2, hj⟩
  have hfn : f.Nodup := by
    have : ∀ (fps : List (List Nat)) (i : Nat), fps[i]? = some f → fps.flatten.Nodup → f.Nodup := by
      intro fps
      induction fps with
      | nil => intro i h _; simp at h
      | cons g r ih =>
        intro i h nd
        rw [List.flatten_cons] at nd
        obtain ⟨n1, n2, _⟩ := List.nodup_append.1 nd
        cases i with
        | zero => simp only [List.getElem?_cons_zero, Option.some.injEq] at h; exact h ▸ n1
        | succ i => exact ih i (by simpa using h) n2
    exact this fps i e2 hn.2
  refine ⟨r, f, rows, v, fun j hj => List.mem_cons_of_mem _ (hin j hj), hfn, by simp [Cell.sid], fun hc => hn.1 (hin _ hc), fun j n => by simp [loadP, rowOf, Cell.sid, q1, e1], fun j new r' hs => ?_, fun r' t' fq v' nq hd => ?_⟩
  · exact storeP_at (hfl _ (by simp [Cell.sid])) q1 e1 hs
  · have hne : ∀ j, j ∈ fq → j ≠ id := fun j hj e => by
      rcases hd j hj with h1 | h1
      · exact hn.1 (e ▸ hin j h1)
      · exact h1 (by rw [e]; simp)
    refine ⟨id :: (fps.set i fq).flatten, ⟨by simpa using hl, .inr ⟨id, rows.set i r', fps.set i fq, by simp, by simp [Heap.put, Cell.sid], q2, rfl, ?_⟩⟩, ?_, ?_⟩
    · have v'' : R (h.put id (rows.set i r')) r' t' fq := ok.mv v' (Nat.le_refl _) fun j hj => put_ne _ (hne j hj)
      exact AllR.set v'' (q3.mv (h' := h.put id (rows.set i r')) ok (Nat.le_refl _) fun j hj => put_ne _ fun e => hn.1 (e ▸ hj)) i
    · rw [List.nodup_cons]
      refine ⟨fun hc => ?_, flat_set_nodup nq fps i f e2 hn.2 fun j hj => ?_⟩
      · rcases flat_set_mem _ _ hc with hc | hc
        · exact hn.1 hc
        · exact hne _ hc rfl
      · rcases hd j hj with h1 | h1
        · exact .inl h1
        · exact .inr fun hc => h1 (List.mem_cons_of_mem _ hc)
    · intro j hj
      rcases List.mem_cons.1 hj with rfl | hj
      · exact .inl (by simp)
      · rcases flat_set_mem _ _ hj with hj | hj
        · exact .inl (List.mem_cons_of_mem _ hj)
        · exact .inr hj
theorem AllR.turn (ok : RelOk R) {h' : Heap} (hn : h.next ≤ h'.next) {r' : List Cell} {t' : α} : ∀ {rows : List (List Cell)} {xs : List α} {fps : List (List Nat)}, AllR R h rows xs fps → ∀ (i : Nat) (f : List Nat), fps[i]? = some f → fps.flatten.Nodup →
    (∀ id, id ∈ fps.flatten → id ∉ f → h'.get id = h.get id) → R h' r' t' f → AllR R h' (rows.set i r') (xs.set i t') fps
  | [], [], [], _, i, f, e, _, _, _ => by simp at e
  | r :: rs, a :: bs, g :: gs, ⟨w0, w⟩, 0, f, e, nd, hg, v => by
    simp only [List.getElem?_cons_zero, Option.some.injEq] at e
    subst e
    rw [List.flatten_cons] at nd
    obtain ⟨n1, n2, n3⟩ := List.nodup_append.1 nd
    exact ⟨v, w.mv ok hn fun id hid => hg id (by rw [List.flatten_cons, List.mem_append]; exact .inr hid) fun hf => n3 id hf id hid rfl⟩
  | r :: rs, a :: bs, g :: gs, ⟨w0, w⟩, i + 1, f, e, nd, hg, v => by
    simp only [List.getElem?_cons_succ] at e
    rw [List.flatten_cons] at nd
    obtain ⟨n1, n2, n3⟩ := List.nodup_append.1 nd
    exact ⟨ok.mv w0 hn fun id hid => hg id (by rw [List.flatten_cons, List.mem_append]; exact .inl hid) fun hf => n3 id hid id (List.mem_flatten.2 ⟨f, List.mem_of_getElem? e, hf⟩) rfl,
      AllR.turn ok hn w i f e n2 (fun id hid hf => hg id (by rw [List.flatten_cons, List.mem_append]; exact .inr hid) hf) v⟩
  | [], [], _ :: _, w, _, _, _, _, _, _ => w.elim
  | [], _ :: _, _, w, _, _, _, _, _, _ => w.elim
  | _ :: _, [], _, w, _, _, _, _, _, _ => w.elim
  | _ :: _, _ :: _, [], w, _, _, _, _, _, _ => w.elim
theorem flat_at_nodup {f : List Nat} : ∀ (fps : List (List Nat)) (i : Nat), fps[i]? = some f → fps.flatten.Nodup → f.Nodup
  | [], i, h, _ => by simp at h
  | g :: r, i, h, nd => by
    rw [List.flatten_cons] at nd
    obtain ⟨n1, n2, _⟩ := List.nodup_append.1 nd
    cases i with
    | zero => simp only [List.getElem?_cons_zero, Option.some.injEq] at h; exact h ▸ n1
    | succ i => exact flat_at_nodup r i (by simpa using h) n2
/-- One element with its own memory is turned. -/
theorem SlR.turn (ok : RelOk R) (w : SlR tag R h x xs fp) (nd : fp.Nodup) {i : Nat} (hi : i < xs.length) :
    ∃ r f, ∃ rows : List (List Cell), R h r xs[i] f ∧ (∀ id, id ∈ f → id ∈ fp) ∧ f.Nodup ∧ x.sid ∈ fp ∧ x.sid ∉ f ∧ x.sid < h.next ∧ h.get x.sid = some rows ∧ rows[i]? = some r ∧ i < rows.length ∧
      ∀ h' r' t', h.next ≤ h'.next → (∀ id, id ∈ fp → id ≠ x.sid → id ∉ f → h'.get id = h.get id) → h'.get x.sid = some (rows.set i r') → R h' r' t' f → SlR tag R h' x (xs.set i t') fp := by
  rcases w with ⟨hl, ⟨rfl, rfl, rfl⟩ | ⟨id, rows, fps, rfl, q1, q2, rfl, q3⟩⟩
  · exact absurd hi (Nat.not_lt_zero _)
  obtain ⟨r, f, e1, e2, v⟩ := q3.at i hi
  have hn := List.nodup_cons.1 nd
  have hin : ∀ j, j ∈ f → j ∈ fps.flatten := fun j hj => List.mem_flatten.2 ⟨f, List.mem_of_getElem? e2, hj⟩
  refine ⟨r, f, rows, v, fun j hj => List.mem_cons_of_mem _ (hin j hj), flat_at_nodup fps i e2 hn.2, by simp [Cell.sid], fun hc => hn.1 (hin _ hc), q2, q1, e1, by rw [q3.len]; exact hi, fun h' r' t' hn' hg hg' v' => ?_⟩
  refine ⟨by simpa using hl, .inr ⟨id, rows.set i r', fps, by simp, hg', Nat.lt_of_lt_of_le q2 hn', rfl, ?_⟩⟩
  exact q3.turn ok hn' i f e2 hn.2 (fun j hj hf => hg j (List.mem_cons_of_mem _ hj) (fun e => hn.1 (by simp only [Cell.sid] at e; exact e ▸ hj)) hf) v'
theorem loadP_row {h : Heap} {id i : Nat} {rows : List (List Cell)} {r : List Cell} (hg : h.get id = some rows) (hi : rows[i]? = some r) (j n : Nat) : loadP h id i j n = cut? r j n := by simp [loadP, rowOf, hg, hi]
theorem loadP_put {h : Heap} {id i : Nat} {rows : List (List Cell)} (hi : i < rows.length) (r : List Cell) (j n : Nat) : loadP (h.put id (rows.set i r)) id i j n = cut? r j n := loadP_row (rows := rows.set i r) (by simp [Heap.put]) (List.getElem?_set_self hi) j n
theorem put_row {h : Heap} {id i : Nat} {rows : List (List Cell)} {r : List Cell} (hg : h.get id = some rows) (hi : rows[i]? = some r) : h.put id (rows.set i r) = h := by
  have : rows.set i r = rows := by
    apply List.ext_getElem?
    intro j
    by_cases e : i = j
    · subst e
      have hlt : i < rows.length := by
        rcases Nat.lt_or_ge i rows.length with hlt | hge
        · exact hlt
        · rw [List.getElem?_eq_none hge] at hi; cases hi
      rw [List.getElem?_set_self hlt, hi]
    · rw [List.getElem?_set_ne e]
  rw [this]; exact put_same hg
end
end Go.Proofs.Ytlfepembgjjejaa.A
/- Loops that look for one, behind which the heap goes on; rows that are shown twice. -/
namespace Go.Proofs.Ytlfepembgjjejaa.A
open Go
set_option linter.unusedSimpArgs false
set_option linter.unusedVariables false
section
variable {F : Nat → Option RF} {Z : CallF} {live : List Nat} {b : RC}
theorem loop_findO {α : Type} (xs : List α) (p : α → Bool) (st : Nat → Heap → St) (h : Heap) (Q : Nat → St → Prop)
    (hs : ∀ i (hi : i < xs.length) g, On h g → TurnO (loop F Z live b (st i g)) (fun g' => loop F Z live b (st (i + 1) g')) g (!p xs[i]) (Q i)) :
    (xs.findIdx? p = none ∧ ∃ g, On h g ∧ loop F Z live b (st 0 h) = loop F Z live b (st xs.length g)) ∨ ∃ i, xs.findIdx? p = some i ∧ i < xs.length ∧ ∃ s, loop F Z live b (st 0 h) = some (.ret, s) ∧ On h s.hp ∧ Q i s := by
  have key : ∀ n, n ≤ xs.length → ((∀ i (hi : i < xs.length), i < n → p xs[i] = false) ∧ ∃ g, On h g ∧ loop F Z live b (st 0 h) = loop F Z live b (st n g)) ∨ ∃ i, xs.findIdx? p = some i ∧ i < xs.length ∧ ∃ s, loop F Z live b (st 0 h) = some (.ret, s) ∧ On h s.hp ∧ Q i s := by
    intro n
    induction n with
    | zero => intro _; exact .inl ⟨fun i hi h => absurd h (Nat.not_lt_zero _), h, On.refl h, rfl⟩
    | succ n ih =>
      intro hn
      rcases ih (by omega) with ⟨h1, g, og, h2⟩ | h
      · rcases hs n (by omega) g og with ⟨h3, g', og', h4⟩ | ⟨h3, s, h4, os, h5⟩
        · refine .inl ⟨fun i hi hl => ?_, g', og.trans og', h2.trans h4⟩
          by_cases he : i = n
          · subst he; simpa using h3
          · exact h1 i hi (by omega)
        · refine .inr ⟨n, ?_, by omega, s, h2.trans h4, og.trans os, h5⟩
          rw [List.findIdx?_eq_some_iff_getElem]
          refine ⟨by omega, by simpa using h3, fun j hj => ?_⟩
          simpa using h1 j (by omega) (by omega)
      · exact .inr h
  rcases key xs.length (Nat.le_refl _) with ⟨h1, g, og, h2⟩ | h
  · refine .inl ⟨?_, g, og, h2⟩
    rw [List.findIdx?_eq_none_iff]
    intro a ha
    obtain ⟨i, hi, rfl⟩ := List.mem_iff_getElem.1 ha
    exact h1 i hi hi
  · exact .inr h
end
theorem findI_any {α : Type} (p : α → Bool) (xs : List α) : decide (findI p xs ≥ 0) = xs.any p := by
  unfold findI
  cases hf : xs.findIdx? p with
  | none =>
    rw [List.findIdx?_eq_none_iff] at hf
    have : xs.any p = false := by rw [List.any_eq_false]; intro a ha; simp [hf a ha]
    rw [this]; rfl
  | some i =>
    rw [List.findIdx?_eq_some_iff_getElem] at hf
    obtain ⟨h1, h2, _⟩ := hf
    have : xs.any p = true := List.any_eq_true.2 ⟨_, List.getElem_mem h1, h2⟩
    rw [this]; simp
section
variable {α : Type} {R : Rel α} {tag : Nat} {h0 h g : Heap} {x : Cell} {xs ys : List α} {fp fq : List Nat}
theorem SlR.rowsM (w : SlR tag R h x xs fp) : ∃ rows fps, rowsOf h x = some rows ∧ AllR R h rows xs fps := by
  rcases w with ⟨_, ⟨rfl, rfl, rfl⟩ | ⟨id, rows, fps, rfl, q1, q2, rfl, q3⟩⟩
  · exact ⟨[], [], rfl, trivial⟩
  · refine ⟨rows, fps, ?_, q3⟩
    have := q3.len
    simp only [rowsOf, q1, Option.bind_some, Nat.zero_add]
    rw [if_pos (by omega), List.drop_zero, List.take_of_length_le (by omega)]
theorem AllR.app : ∀ {r1 r2 : List (List Cell)} {xs ys : List α} {f1 f2 : List (List Nat)}, AllR R h r1 xs f1 → AllR R h r2 ys f2 → AllR R h (r1 ++ r2) (xs ++ ys) (f1 ++ f2)
  | [], _, [], _, [], _, _, w => w
  | _ :: _, _, _ :: _, _, _ :: _, _, ⟨w1, w⟩, u => ⟨w1, AllR.app w u⟩
  | [], _, [], _, _ :: _, _, w, _ => w.elim
  | [], _, _ :: _, _, _, _, w, _ => w.elim
  | _ :: _, _, [], _, _, _, w, _ => w.elim
  | _ :: _, _, _ :: _, _, [], _, w, _ => w.elim
/-- Raw rows that were laid together show what they show. -/
theorem Acc.shows (ok : RelOk R) {rows : List (List Cell)} {fps : List (List Nat)} (a : Acc tag h0 h x rows) (w : AllR R h0 rows xs fps) : ∃ fp, SlR tag R h x xs fp := by
  obtain ⟨o, fp, v, f⟩ := a
  have w' : AllR R h rows xs fps := w.mv ok o.ext.1 fun id hid => o.ext.2 id (w.lt ok id hid)
  have hl := w.len
  have hle := v.le
  rcases v.flat with ⟨rfl, h2, rfl⟩ | ⟨hx, hg, hn, rfl⟩
  · have : xs = [] := List.eq_nil_of_length_eq_zero (by rw [← hl, h2]; rfl)
    subst this
    exact ⟨_, SlR.nil _ _ _⟩
  · refine ⟨x.sid :: fps.flatten, by omega, .inr ⟨x.sid, rows, fps, by rw [← hl]; exact hx, by simpa using hg, hn, rfl, w'⟩⟩
end
end Go.Proofs.Ytlfepembgjjejaa.A
/- The data of a Fin, and its cells. -/
namespace Go.Proofs.Ytlfepembgjjejaa.A
open Go
set_option linter.unusedSimpArgs false
set_option linter.unusedVariables false
structure Fin where
  tx : Int
  id : Int
  deriving DecidableEq
namespace Fin
def enc (t : Fin) : List Cell := [.int .i64 t.tx, .int .u64 t.id]
theorem len (t : Fin) : t.enc.length = 2 := rfl
theorem tak (t : Fin) : t.enc.take 2 = t.enc := rfl
def none_ : Fin := ⟨0, 0⟩
/-- The numbers are those of the machine. -/
structure Ok (t : Fin) : Prop where
  tx : -9223372036854775808 ≤ t.tx ∧ t.tx ≤ 9223372036854775807
  id : 0 ≤ t.id ∧ t.id ≤ 18446744073709551615
end Fin
theorem Wf.isFin {h : Heap} {n : Nat} {cs : List Cell} (w : Wf h (n + 2) shFin cs) : ∃ t : Fin, cs = t.enc ∧ t.Ok := by
  obtain ⟨_, _, rfl, _, ⟨tx0, rfl, h0⟩, _, _, rfl, _, ⟨id0, rfl, h1⟩, rfl⟩ := w
  exact ⟨⟨tx0, id0⟩, rfl, ⟨wfI h0, wfU h1⟩⟩
theorem Wf.isFinS {h : Heap} {n : Nat} {x : Cell} (w : Wf h (n + 3) shFinS [x]) : ∃ xs fp, SlR 10 (Fl Fin.enc) h x xs fp ∧ ∀ t, t ∈ xs → t.Ok :=
  SlR.ofWf (fun r hr => by obtain ⟨t, rfl, ht⟩ := Wf.isFin hr.2; exact ⟨t, [], ⟨rfl, rfl⟩, ht⟩) w
theorem Wf.isFinS' {h : Heap} {n : Nat} {a : List Cell} (w : Wf h (n + 3) shFinS a) : ∃ x xs fp, a = [x] ∧ SlR 10 (Fl Fin.enc) h x xs fp ∧ ∀ t, t ∈ xs → t.Ok := by
  have hx : ∃ x, a = [x] := by rcases w with w | ⟨_, _, w, _⟩ <;> exact ⟨_, w⟩
  obtain ⟨x, rfl⟩ := hx
  obtain ⟨xs, fp, v, ok⟩ := Wf.isFinS w
  exact ⟨x, xs, fp, rfl, v, ok⟩
end Go.Proofs.Ytlfepembgjjejaa.A
/- What the converters of Fin compute. -/
namespace Go.Proofs.Ytlfepembgjjejaa.A
open Go
set_option linter.unusedSimpArgs false
set_option linter.unusedVariables false
section
variable {F : Nat → Option RF} {Z : CallF} {h : Heap} {x y : Cell} {xs ys : List Fin} {fp fq : List Nat}
def Fin.zero : List Cell := [.int .i64 0, .int .u64 0]
theorem toFin_run (hL : Has F tLFin) (p : Fin) (h : Heap) : call F Z 138 [.agg p.enc] h = some (.agg p.enc, h) := by
  rw [call_run F Z (hL.lk (g := 138) rfl) _ _ rfl]
  simp only [Fin.enc, run0, run1, run2, run3, run4, noSlot, memN, RO.dst, lk, drop, forget, number, Nat.reduceBEq, cut?, splice?, builds, List.length_cons, List.length_nil, List.drop_succ_cons, List.drop_zero, List.take_succ_cons, List.take_zero, List.cons_append, List.nil_append, List.append_nil, List.drop_nil, List.take_nil, Nat.reduceAdd, Nat.reduceLeDiff, Nat.zero_add, Nat.add_zero, ↓reduceIte, Bool.not_true, Bool.not_false, decide_true, decide_false, eq_self, bne_self_eq_false, List.getElem?_cons_zero, List.getElem?_cons_succ, decide_eq_true_eq, Bool.false_eq_true, Bool.true_eq_false, reduceCtorEq, Nat.le_refl]
set_option maxHeartbeats 1000000 in
theorem eqFin_run (hL : Has F tLFin) (p q : Fin) (h : Heap) : call F Z 140 [.agg p.enc, .agg q.enc] h = some (.c (.bool (decide (p = q))), h) := by
  rw [call_run F Z (hL.lk (g := 140) rfl) _ _ rfl]
  obtain ⟨tx1, id1⟩ := p
  obtain ⟨tx2, id2⟩ := q
  simp only [Fin.enc, run0, run1, run2, run3, run4, noSlot, memN, RO.dst, lk, drop, forget, number, Nat.reduceBEq, cut?, splice?, builds, List.length_cons, List.length_nil, List.drop_succ_cons, List.drop_zero, List.take_succ_cons, List.take_zero, List.cons_append, List.nil_append, List.append_nil, List.drop_nil, List.take_nil, Nat.reduceAdd, Nat.reduceLeDiff, Nat.zero_add, Nat.add_zero, ↓reduceIte, Bool.not_true, Bool.not_false, decide_true, decide_false, eq_self, bne_self_eq_false, List.getElem?_cons_zero, List.getElem?_cons_succ, decide_eq_true_eq, Bool.false_eq_true, Bool.true_eq_false, reduceCtorEq, Nat.le_refl]
  (repeat' ((first | (rw [gF_if]; split) | (rw [condC_if]; split) | (rw [pickR_if]; split)) <;> (rename_i hh; (try simp only [Bool.not_eq_true, decide_eq_true_eq] at hh); simp only [hh, run0, run1, run2, run3, run4, noSlot, memN, RO.dst, lk, drop, forget, number, Nat.reduceBEq, cut?, splice?, builds, List.length_cons, List.length_nil, List.drop_succ_cons, List.drop_zero, List.take_succ_cons, List.take_zero, List.cons_append, List.nil_append, List.append_nil, List.drop_nil, List.take_nil, Nat.reduceAdd, Nat.reduceLeDiff, Nat.zero_add, Nat.add_zero, ↓reduceIte, Bool.not_true, Bool.not_false, decide_true, decide_false, eq_self, bne_self_eq_false, List.getElem?_cons_zero, List.getElem?_cons_succ, decide_eq_true_eq, Bool.false_eq_true, Bool.true_eq_false, reduceCtorEq, Nat.le_refl]))) <;> refine fin_bool ?_ <;> simp_all <;> (try (intros; omega))
theorem szFinS_run (hL : Has F tLFin) (w : SlR 10 (Fl Fin.enc) h x xs fp) (left : Int) (h1 : 0 ≤ left) (h2 : left ≤ 1048576) : call F Z 129 [.c x, .c (.int .i64 left)] h = some (.c (.int .i64 (if left - xs.length < 0 then -1 else left - xs.length)), h) := by
  have := w.le2
  rw [call_run F Z (hL.lk (g := 129) rfl) _ _ rfl]
  simp only [run0, run1, run2, run3, run4, noSlot, memN, RO.dst, lk, drop, forget, number, Nat.reduceBEq, cut?, splice?, builds, List.length_cons, List.length_nil, List.drop_succ_cons, List.drop_zero, List.take_succ_cons, List.take_zero, List.cons_append, List.nil_append, List.append_nil, List.drop_nil, List.take_nil, Nat.reduceAdd, Nat.reduceLeDiff, Nat.zero_add, Nat.add_zero, ↓reduceIte, Bool.not_true, Bool.not_false, decide_true, decide_false, eq_self, bne_self_eq_false, List.getElem?_cons_zero, List.getElem?_cons_succ, decide_eq_true_eq, Bool.false_eq_true, Bool.true_eq_false, reduceCtorEq, Nat.le_refl, w.len, wrapI (left - xs.length) (by omega) (by omega)]
  (repeat' ((first | (rw [gF_if]; split) | (rw [condC_if]; split) | (rw [pickR_if]; split)) <;> (rename_i hh; (try simp only [Bool.not_eq_true, decide_eq_true_eq] at hh); simp only [hh, run0, run1, run2, run3, run4, noSlot, memN, RO.dst, lk, drop, forget, number, Nat.reduceBEq, cut?, splice?, builds, List.length_cons, List.length_nil, List.drop_succ_cons, List.drop_zero, List.take_succ_cons, List.take_zero, List.cons_append, List.nil_append, List.append_nil, List.drop_nil, List.take_nil, Nat.reduceAdd, Nat.reduceLeDiff, Nat.zero_add, Nat.add_zero, ↓reduceIte, Bool.not_true, Bool.not_false, decide_true, decide_false, eq_self, bne_self_eq_false, List.getElem?_cons_zero, List.getElem?_cons_succ, decide_eq_true_eq, Bool.false_eq_true, Bool.true_eq_false, reduceCtorEq, Nat.le_refl]))) <;> simp_all
theorem szFinS_c (hL : Has F tLFin) (w : SlR 10 (Fl Fin.enc) h x xs fp) (left : Int) (h1 : 0 ≤ left) (h2 : left ≤ 1048576) : ∃ r, call F Z 129 [.c x, .c (.int .i64 left)] h = some (.c (.int .i64 r), h) ∧ r ≤ left ∧ (0 ≤ r → xs.length ≤ 1048576) :=
  ⟨_, szFinS_run hL w left h1 h2, by split <;> omega, by split <;> omega⟩
theorem toFin_lit (hL : Has F tLFin) (tx1 id1 : Int) (h : Heap) : call F Z 138 [.agg [.int .i64 tx1, .int .u64 id1]] h = some (.agg [.int .i64 tx1, .int .u64 id1], h) := toFin_run hL ⟨tx1, id1⟩ h
theorem eqFin_lit (hL : Has F tLFin) (tx1 id1 tx2 id2 : Int) (h : Heap) : call F Z 140 [.agg [.int .i64 tx1, .int .u64 id1], .agg [.int .i64 tx2, .int .u64 id2]] h = some (.c (.bool (decide ((⟨tx1, id1⟩ : Fin) = ⟨tx2, id2⟩))), h) := eqFin_run hL ⟨tx1, id1⟩ ⟨tx2, id2⟩ h
theorem toFinS_run (hL : Has F tLFin) (hf : h.floor ≤ h.next) (w : SlR 10 (Fl Fin.enc) h x xs fp) (hn : xs.length ≤ 1048576) : call F Z 131 [.c x] h = some (.c (.sl 9 h.next 0 xs.length), h.push (xs.map Fin.enc)) := by
  rw [call_run F Z (hL.lk (g := 131) rfl) _ _ rfl]
  simp only [run0, run1, run2, run3, run4, noSlot, memN, RO.dst, lk, drop, forget, number, Nat.reduceBEq, cut?, splice?, builds, List.length_cons, List.length_nil, List.drop_succ_cons, List.drop_zero, List.take_succ_cons, List.take_zero, List.cons_append, List.nil_append, List.append_nil, List.drop_nil, List.take_nil, Nat.reduceAdd, Nat.reduceLeDiff, Nat.zero_add, Nat.add_zero, ↓reduceIte, Bool.not_true, Bool.not_false, decide_true, decide_false, eq_self, bne_self_eq_false, List.getElem?_cons_zero, List.getElem?_cons_succ, decide_eq_true_eq, Bool.false_eq_true, Bool.true_eq_false, reduceCtorEq, Nat.le_refl, w.len]
  rw [if_pos (by omega)]
  simp only [run0, run1, run2, run3, run4, noSlot, memN, RO.dst, lk, drop, forget, number, Nat.reduceBEq, cut?, splice?, builds, List.length_cons, List.length_nil, List.drop_succ_cons, List.drop_zero, List.take_succ_cons, List.take_zero, List.cons_append, List.nil_append, List.append_nil, List.drop_nil, List.take_nil, Nat.reduceAdd, Nat.reduceLeDiff, Nat.zero_add, Nat.add_zero, ↓reduceIte, Bool.not_true, Bool.not_false, decide_true, decide_false, eq_self, bne_self_eq_false, List.getElem?_cons_zero, List.getElem?_cons_succ, decide_eq_true_eq, Bool.false_eq_true, Bool.true_eq_false, reduceCtorEq, Nat.le_refl, Int.toNat_natCast]
  have key : loop F Z [0, 3, 4] r131L0 ⟨[(0, .c x), (3, .c (.sl 9 h.next 0 xs.length)), (4, .c (.int .i64 (0 : Nat)))], [], [], h.push (fillR Fin.enc Fin.zero xs 0)⟩ = loop F Z [0, 3, 4] r131L0 ⟨[(0, .c x), (3, .c (.sl 9 h.next 0 xs.length)), (4, .c (.int .i64 (xs.length : Nat)))], [], [], h.push (fillR Fin.enc Fin.zero xs xs.length)⟩ :=
    loop_goesF xs.length (fun i => ⟨[(0, .c x), (3, .c (.sl 9 h.next 0 xs.length)), (4, .c (.int .i64 (i : Nat)))], [], [], h.push (fillR Fin.enc Fin.zero xs i)⟩) fun i hi => by
      have w' := w.mono (Fl.ok _) (HExt.push h (fillR Fin.enc Fin.zero xs i))
      have hlt : (i : Int) < xs.length := by omega
      have h0 : (0 : Int) ≤ i := by omega
      rw [loop_run]
      simp only [r131L0, run0, run1, run2, run3, run4, noSlot, memN, RO.dst, lk, drop, forget, number, Nat.reduceBEq, cut?, splice?, builds, List.length_cons, List.length_nil, List.drop_succ_cons, List.drop_zero, List.take_succ_cons, List.take_zero, List.cons_append, List.nil_append, List.append_nil, List.drop_nil, List.take_nil, Nat.reduceAdd, Nat.reduceLeDiff, Nat.zero_add, Nat.add_zero, ↓reduceIte, Bool.not_true, Bool.not_false, decide_true, decide_false, eq_self, bne_self_eq_false, List.getElem?_cons_zero, List.getElem?_cons_succ, decide_eq_true_eq, Bool.false_eq_true, Bool.true_eq_false, reduceCtorEq, Nat.le_refl, w.len, hlt, w.idx hi, w'.load hi, Fin.len, Fin.tak, toFin_run hL, h0, and_self, Int.toNat_natCast, storeP_push hf (fillR_get Fin.enc Fin.zero xs hi) (Fin.len xs[i]), wrapS i (by omega)]
      rw [← fillR_set Fin.enc Fin.zero xs hi]
  rw [fillR_0] at key
  rw [fillR_n] at key
  rw [show ((0 : Nat) : Int) = 0 from rfl] at key
  simp only [Fin.zero] at key
  rw [key, loop_run]
  have hlt : ¬ (xs.length : Int) < xs.length := by omega
  simp only [r131L0, run0, run1, run2, run3, run4, noSlot, memN, RO.dst, lk, drop, forget, number, Nat.reduceBEq, cut?, splice?, builds, List.length_cons, List.length_nil, List.drop_succ_cons, List.drop_zero, List.take_succ_cons, List.take_zero, List.cons_append, List.nil_append, List.append_nil, List.drop_nil, List.take_nil, Nat.reduceAdd, Nat.reduceLeDiff, Nat.zero_add, Nat.add_zero, ↓reduceIte, Bool.not_true, Bool.not_false, decide_true, decide_false, eq_self, bne_self_eq_false, List.getElem?_cons_zero, List.getElem?_cons_succ, decide_eq_true_eq, Bool.false_eq_true, Bool.true_eq_false, reduceCtorEq, Nat.le_refl, w.len, hlt]
theorem toFinS_c (hL : Has F tLFin) (hf : h.floor ≤ h.next) (w : SlR 10 (Fl Fin.enc) h x xs fp) (hn : xs.length ≤ 1048576) : ∃ y h' fq, call F Z 131 [.c x] h = some (.c y, h') ∧ On h h' ∧ SlR 9 (Fl Fin.enc) h' y xs fq ∧ Fre h fq :=
  ⟨_, _, _, toFinS_run hL hf w hn, On.push _ _, SlR.ofFlat w.le (push_get _ _) (by rw [push_next]; omega), Fre.one h⟩
theorem eqFinS_run (hL : Has F tLFin) (w : SlR 9 (Fl Fin.enc) h x xs fp) (v : SlR 9 (Fl Fin.enc) h y ys fq) : call F Z 134 [.c x, .c y] h = some (.c (.bool (decide (xs = ys))), h) := by
  have hw := w.le2
  have hv := v.le2
  rw [call_run F Z (hL.lk (g := 134) rfl) _ _ rfl]
  simp only [run0, run1, run2, run3, run4, noSlot, memN, RO.dst, lk, drop, forget, number, Nat.reduceBEq, cut?, splice?, builds, List.length_cons, List.length_nil, List.drop_succ_cons, List.drop_zero, List.take_succ_cons, List.take_zero, List.cons_append, List.nil_append, List.append_nil, List.drop_nil, List.take_nil, Nat.reduceAdd, Nat.reduceLeDiff, Nat.zero_add, Nat.add_zero, ↓reduceIte, Bool.not_true, Bool.not_false, decide_true, decide_false, eq_self, bne_self_eq_false, List.getElem?_cons_zero, List.getElem?_cons_succ, decide_eq_true_eq, Bool.false_eq_true, Bool.true_eq_false, reduceCtorEq, Nat.le_refl, w.len, v.len]
  rw [condC_if]
  split
  · rename_i hne
    have : xs ≠ ys := by rintro rfl; simp at hne
    simp only [run0, run1, run2, run3, run4, noSlot, memN, RO.dst, lk, drop, forget, number, Nat.reduceBEq, cut?, splice?, builds, List.length_cons, List.length_nil, List.drop_succ_cons, List.drop_zero, List.take_succ_cons, List.take_zero, List.cons_append, List.nil_append, List.append_nil, List.drop_nil, List.take_nil, Nat.reduceAdd, Nat.reduceLeDiff, Nat.zero_add, Nat.add_zero, ↓reduceIte, Bool.not_true, Bool.not_false, decide_true, decide_false, eq_self, bne_self_eq_false, List.getElem?_cons_zero, List.getElem?_cons_succ, decide_eq_true_eq, Bool.false_eq_true, Bool.true_eq_false, reduceCtorEq, Nat.le_refl, this]
  · rename_i he
    have he : xs.length = ys.length := by simp at he; omega
    simp only [run0, run1, run2, run3, run4, noSlot, memN, RO.dst, lk, drop, forget, number, Nat.reduceBEq, cut?, splice?, builds, List.length_cons, List.length_nil, List.drop_succ_cons, List.drop_zero, List.take_succ_cons, List.take_zero, List.cons_append, List.nil_append, List.append_nil, List.drop_nil, List.take_nil, Nat.reduceAdd, Nat.reduceLeDiff, Nat.zero_add, Nat.add_zero, ↓reduceIte, Bool.not_true, Bool.not_false, decide_true, decide_false, eq_self, bne_self_eq_false, List.getElem?_cons_zero, List.getElem?_cons_succ, decide_eq_true_eq, Bool.false_eq_true, Bool.true_eq_false, reduceCtorEq, Nat.le_refl]
    have key := loop_allN (F := F) (Z := Z) (live := [0, 1, 5]) (b := r134L0) xs.length (fun i => ⟨[(0, .c x), (1, .c y), (5, .c (.int .i64 (i : Nat)))], [], [], h⟩) (fun i => decide (xs[i]? = ys[i]?)) (fun s => lk s.env 4 = some (.c (.bool false)) ∧ s.hp = h) fun i hi => by
      have hi' : i < ys.length := by omega
      have hlt : (i : Int) < xs.length := by omega
      rw [loop_run]
      simp only [r134L0, run0, run1, run2, run3, run4, noSlot, memN, RO.dst, lk, drop, forget, number, Nat.reduceBEq, cut?, splice?, builds, List.length_cons, List.length_nil, List.drop_succ_cons, List.drop_zero, List.take_succ_cons, List.take_zero, List.cons_append, List.nil_append, List.append_nil, List.drop_nil, List.take_nil, Nat.reduceAdd, Nat.reduceLeDiff, Nat.zero_add, Nat.add_zero, ↓reduceIte, Bool.not_true, Bool.not_false, decide_true, decide_false, eq_self, bne_self_eq_false, List.getElem?_cons_zero, List.getElem?_cons_succ, decide_eq_true_eq, Bool.false_eq_true, Bool.true_eq_false, reduceCtorEq, Nat.le_refl, w.len, hlt, w.idx hi, v.idx hi', w.load hi, v.load hi', Fin.len, Fin.tak, eqFin_run hL, wrapS i (by omega)]
      rw [List.getElem?_eq_getElem hi, List.getElem?_eq_getElem hi']
      (repeat' ((first | (rw [gF_if]; split) | (rw [condC_if]; split) | (rw [pickR_if]; split)) <;> (rename_i hh; (try simp only [Bool.not_eq_true, decide_eq_true_eq] at hh); simp only [hh, run0, run1, run2, run3, run4, noSlot, memN, RO.dst, lk, drop, forget, number, Nat.reduceBEq, cut?, splice?, builds, List.length_cons, List.length_nil, List.drop_succ_cons, List.drop_zero, List.take_succ_cons, List.take_zero, List.cons_append, List.nil_append, List.append_nil, List.drop_nil, List.take_nil, Nat.reduceAdd, Nat.reduceLeDiff, Nat.zero_add, Nat.add_zero, ↓reduceIte, Bool.not_true, Bool.not_false, decide_true, decide_false, eq_self, bne_self_eq_false, List.getElem?_cons_zero, List.getElem?_cons_succ, decide_eq_true_eq, Bool.false_eq_true, Bool.true_eq_false, reduceCtorEq, Nat.le_refl, wrapS i (by omega)])))
      · exact .inr ⟨by simp_all, _, rfl, rfl, rfl⟩
      · exact .inl ⟨by simp_all, rfl⟩
    rw [all_same he] at key
    rcases key with ⟨k1, k2⟩ | ⟨k1, s, k2, k3, k4⟩
    · simp only [show ((0 : Nat) : Int) = 0 from rfl] at k2
      rw [k2, loop_run]
      have hlt : ¬ (xs.length : Int) < xs.length := by omega
      simp only [r134L0, run0, run1, run2, run3, run4, noSlot, memN, RO.dst, lk, drop, forget, number, Nat.reduceBEq, cut?, splice?, builds, List.length_cons, List.length_nil, List.drop_succ_cons, List.drop_zero, List.take_succ_cons, List.take_zero, List.cons_append, List.nil_append, List.append_nil, List.drop_nil, List.take_nil, Nat.reduceAdd, Nat.reduceLeDiff, Nat.zero_add, Nat.add_zero, ↓reduceIte, Bool.not_true, Bool.not_false, decide_true, decide_false, eq_self, bne_self_eq_false, List.getElem?_cons_zero, List.getElem?_cons_succ, decide_eq_true_eq, Bool.false_eq_true, Bool.true_eq_false, reduceCtorEq, Nat.le_refl, w.len, hlt, k1]
    · simp only [show ((0 : Nat) : Int) = 0 from rfl] at k2
      rw [k2]
      simp only [run0, run1, run2, run3, run4, noSlot, memN, RO.dst, lk, drop, forget, number, Nat.reduceBEq, cut?, splice?, builds, List.length_cons, List.length_nil, List.drop_succ_cons, List.drop_zero, List.take_succ_cons, List.take_zero, List.cons_append, List.nil_append, List.append_nil, List.drop_nil, List.take_nil, Nat.reduceAdd, Nat.reduceLeDiff, Nat.zero_add, Nat.add_zero, ↓reduceIte, Bool.not_true, Bool.not_false, decide_true, decide_false, eq_self, bne_self_eq_false, List.getElem?_cons_zero, List.getElem?_cons_succ, decide_eq_true_eq, Bool.false_eq_true, Bool.true_eq_false, reduceCtorEq, Nat.le_refl, k3, k4, k1]
/-- What is written to mark one. -/
def Fin.mk_ (k : Int) : Fin := ⟨k, k + 1⟩
def Fin.marks (n : Nat) (k : Int) : List Fin := (List.range n).map fun i : Nat => Fin.mk_ (k + 2 * (i : Int))
theorem Fin.marks_len (n : Nat) (k : Int) : (Fin.marks n k).length = n := by simp [Fin.marks]
set_option maxHeartbeats 1000000 in
theorem markFinS_run (hL : Has F tLFin) (w : SlR 9 (Fl Fin.enc) h x xs fp) (hlo : ∀ id, id ∈ fp → h.floor ≤ id) (k : Int) (h1 : 0 ≤ k) (h2 : k + 2 * xs.length ≤ 9200000000000000000) :
    ∃ h', call F Z 232 [.c x, .c (.int .i64 k)] h = some (.c (.int .i64 (k + 2 * xs.length)), h') ∧ Mk h h' fp ∧ SlR 9 (Fl Fin.enc) h' x (Fin.marks xs.length k) fp := by
  have hle := w.le2
  have hlm := Fin.marks_len xs.length k
  rw [call_run F Z (hL.lk (g := 232) rfl) _ _ rfl]
  simp only [run0, run1, run2, run3, run4, noSlot, memN, RO.dst, lk, drop, forget, number, Nat.reduceBEq, cut?, splice?, builds, List.length_cons, List.length_nil, List.drop_succ_cons, List.drop_zero, List.take_succ_cons, List.take_zero, List.cons_append, List.nil_append, List.append_nil, List.drop_nil, List.take_nil, Nat.reduceAdd, Nat.reduceLeDiff, Nat.zero_add, Nat.add_zero, ↓reduceIte, Bool.not_true, Bool.not_false, decide_true, decide_false, eq_self, bne_self_eq_false, List.getElem?_cons_zero, List.getElem?_cons_succ, decide_eq_true_eq, Bool.false_eq_true, Bool.true_eq_false, reduceCtorEq, Nat.le_refl]
  rcases w.flat with ⟨rfl, rfl, rfl⟩ | ⟨hx, hg, hn, rfl⟩
  · rw [loop_run]
    simp only [r232L0, run0, run1, run2, run3, run4, noSlot, memN, RO.dst, lk, drop, forget, number, Nat.reduceBEq, cut?, splice?, builds, List.length_cons, List.length_nil, List.drop_succ_cons, List.drop_zero, List.take_succ_cons, List.take_zero, List.cons_append, List.nil_append, List.append_nil, List.drop_nil, List.take_nil, Nat.reduceAdd, Nat.reduceLeDiff, Nat.zero_add, Nat.add_zero, ↓reduceIte, Bool.not_true, Bool.not_false, decide_true, decide_false, eq_self, bne_self_eq_false, List.getElem?_cons_zero, List.getElem?_cons_succ, decide_eq_true_eq, Bool.false_eq_true, Bool.true_eq_false, reduceCtorEq, Nat.le_refl, show ¬ ((0 : Int) < 0) from by omega]
    exact ⟨h, by simp, Mk.refl _ _, by simpa [Fin.marks] using w⟩
  · have hfl : h.floor ≤ x.sid := hlo _ (by simp)
    have key : loop F Z [0, 1, 5] r232L0 ⟨[(0, .c x), (1, .c (.int .i64 (k + 2 * (0 : Nat)))), (5, .c (.int .i64 (0 : Nat)))], [], [], h.put x.sid (mixR Fin.enc (Fin.marks xs.length k) xs 0)⟩ = loop F Z [0, 1, 5] r232L0 ⟨[(0, .c x), (1, .c (.int .i64 (k + 2 * (xs.length : Nat)))), (5, .c (.int .i64 (xs.length : Nat)))], [], [], h.put x.sid (mixR Fin.enc (Fin.marks xs.length k) xs xs.length)⟩ :=
      loop_goesF xs.length (fun i => ⟨[(0, .c x), (1, .c (.int .i64 (k + 2 * (i : Nat)))), (5, .c (.int .i64 (i : Nat)))], [], [], h.put x.sid (mixR Fin.enc (Fin.marks xs.length k) xs i)⟩) fun i hi => by
        have hlt : (i : Int) < xs.length := by omega
        have hi2 : i < (mixR Fin.enc (Fin.marks xs.length k) xs i).length := by rw [mixR_len _ hlm]; exact hi
        have hms : (Fin.marks xs.length k)[i]'(by omega) = Fin.mk_ (k + 2 * i) := by simp [Fin.marks]
        have hset := mixR_set Fin.enc hlm hi
        rw [hms] at hset
        have hput := storeP_put (h := h) hfl hi2
        rw [← mixR_cur Fin.enc hlm hi, ← hset, loop_run]
        simp (disch := omega) only [r232L0, run0, run1, run2, run3, run4, noSlot, memN, RO.dst, lk, drop, forget, number, Nat.reduceBEq, cut?, splice?, builds, List.length_cons, List.length_nil, List.drop_succ_cons, List.drop_zero, List.take_succ_cons, List.take_zero, List.cons_append, List.nil_append, List.append_nil, List.drop_nil, List.take_nil, Nat.reduceAdd, Nat.reduceLeDiff, Nat.zero_add, Nat.add_zero, ↓reduceIte, Bool.not_true, Bool.not_false, decide_true, decide_false, eq_self, bne_self_eq_false, List.getElem?_cons_zero, List.getElem?_cons_succ, decide_eq_true_eq, Bool.false_eq_true, Bool.true_eq_false, reduceCtorEq, Nat.le_refl, w.len, hlt, w.idx hi, hput, putM_s, wrapI1, wrapU1, Fin.enc, Int.reduceEq, Fin.mk_]
        rw [show k + 2 * ((i : Nat) : Int) + 1 + 1 = k + 2 * ((i + 1 : Nat) : Int) from by omega, show ((i : Nat) : Int) + 1 = ((i + 1 : Nat) : Int) from rfl]
    rw [mixR_0, put_same hg, mixR_n _ hlm] at key
    simp only [show ((0 : Nat) : Int) = 0 from rfl, Int.mul_zero, Int.add_zero] at key
    rw [key, loop_run]
    have hlt : ¬ (xs.length : Int) < xs.length := by omega
    simp only [r232L0, run0, run1, run2, run3, run4, noSlot, memN, RO.dst, lk, drop, forget, number, Nat.reduceBEq, cut?, splice?, builds, List.length_cons, List.length_nil, List.drop_succ_cons, List.drop_zero, List.take_succ_cons, List.take_zero, List.cons_append, List.nil_append, List.append_nil, List.drop_nil, List.take_nil, Nat.reduceAdd, Nat.reduceLeDiff, Nat.zero_add, Nat.add_zero, ↓reduceIte, Bool.not_true, Bool.not_false, decide_true, decide_false, eq_self, bne_self_eq_false, List.getElem?_cons_zero, List.getElem?_cons_succ, decide_eq_true_eq, Bool.false_eq_true, Bool.true_eq_false, reduceCtorEq, Nat.le_refl, w.len, hlt]
    refine ⟨_, rfl, Mk.put _ _ _, ?_⟩
    have := SlR.ofFlat (tag := 9) (h := h.put x.sid ((Fin.marks xs.length k).map Fin.enc)) (enc := Fin.enc) (xs := Fin.marks xs.length k) (id := x.sid) (by rw [hlm]; exact w.le) (by simp [Heap.put]) hn
    rw [hlm, ← hx] at this
    exact this
set_option maxHeartbeats 1000000 in
theorem heldFinS_run (hL : Has F tLFin) {n : Nat} {k : Int} (w : SlR 9 (Fl Fin.enc) h x (Fin.marks n k) fp) (h1 : 0 ≤ k) (h2 : k + 2 * n ≤ 9200000000000000000) :
    call F Z 234 [.c x, .c (.int .i64 k)] h = some (.c (.int .i64 (k + 2 * n)), h) := by
  have hle := w.le2
  have hwl := w.len
  rw [Fin.marks_len] at hle hwl
  rw [call_run F Z (hL.lk (g := 234) rfl) _ _ rfl]
  simp only [run0, run1, run2, run3, run4, noSlot, memN, RO.dst, lk, drop, forget, number, Nat.reduceBEq, cut?, splice?, builds, List.length_cons, List.length_nil, List.drop_succ_cons, List.drop_zero, List.take_succ_cons, List.take_zero, List.cons_append, List.nil_append, List.append_nil, List.drop_nil, List.take_nil, Nat.reduceAdd, Nat.reduceLeDiff, Nat.zero_add, Nat.add_zero, ↓reduceIte, Bool.not_true, Bool.not_false, decide_true, decide_false, eq_self, bne_self_eq_false, List.getElem?_cons_zero, List.getElem?_cons_succ, decide_eq_true_eq, Bool.false_eq_true, Bool.true_eq_false, reduceCtorEq, Nat.le_refl]
  have key : loop F Z [0, 1, 5] r234L0 ⟨[(0, .c x), (1, .c (.int .i64 (k + 2 * (0 : Nat)))), (5, .c (.int .i64 (0 : Nat)))], [], [], h⟩ = loop F Z [0, 1, 5] r234L0 ⟨[(0, .c x), (1, .c (.int .i64 (k + 2 * (n : Nat)))), (5, .c (.int .i64 (n : Nat)))], [], [], h⟩ :=
    loop_goesF n (fun i => ⟨[(0, .c x), (1, .c (.int .i64 (k + 2 * (i : Nat)))), (5, .c (.int .i64 (i : Nat)))], [], [], h⟩) fun i hi0 => by
      have hi : i < (Fin.marks n k).length := by rw [Fin.marks_len]; exact hi0
      have hlt : (i : Int) < n := by omega
      have hms : (Fin.marks n k)[i] = Fin.mk_ (k + 2 * i) := by simp [Fin.marks]
      have hld := w.load hi
      rw [hms] at hld
      rw [loop_run]
      simp (disch := omega) only [r234L0, run0, run1, run2, run3, run4, noSlot, memN, RO.dst, lk, drop, forget, number, Nat.reduceBEq, cut?, splice?, builds, List.length_cons, List.length_nil, List.drop_succ_cons, List.drop_zero, List.take_succ_cons, List.take_zero, List.cons_append, List.nil_append, List.append_nil, List.drop_nil, List.take_nil, Nat.reduceAdd, Nat.reduceLeDiff, Nat.zero_add, Nat.add_zero, ↓reduceIte, Bool.not_true, Bool.not_false, decide_true, decide_false, eq_self, bne_self_eq_false, List.getElem?_cons_zero, List.getElem?_cons_succ, decide_eq_true_eq, Bool.false_eq_true, Bool.true_eq_false, reduceCtorEq, Nat.le_refl, hwl, hlt, w.idx hi, hld, wrapI1, wrapU1, Fin.enc, Fin.mk_, Int.reduceEq]
      rw [show k + 2 * ((i : Nat) : Int) + 1 + 1 = k + 2 * ((i + 1 : Nat) : Int) from by omega, show ((i : Nat) : Int) + 1 = ((i + 1 : Nat) : Int) from rfl]
  simp only [show ((0 : Nat) : Int) = 0 from rfl, Int.mul_zero, Int.add_zero] at key
  rw [key, loop_run]
  have hlt : ¬ (n : Int) < n := by omega
  simp only [r234L0, run0, run1, run2, run3, run4, noSlot, memN, RO.dst, lk, drop, forget, number, Nat.reduceBEq, cut?, splice?, builds, List.length_cons, List.length_nil, List.drop_succ_cons, List.drop_zero, List.take_succ_cons, List.take_zero, List.cons_append, List.nil_append, List.append_nil, List.drop_nil, List.take_nil, Nat.reduceAdd, Nat.reduceLeDiff, Nat.zero_add, Nat.add_zero, ↓reduceIte, Bool.not_true, Bool.not_false, decide_true, decide_false, eq_self, bne_self_eq_false, List.getElem?_cons_zero, List.getElem?_cons_succ, decide_eq_true_eq, Bool.false_eq_true, Bool.true_eq_false, reduceCtorEq, Nat.le_refl, hwl, hlt]
end
end Go.Proofs.Ytlfepembgjjejaa.A
/- Fins compared and found: what the library's functions compute at them. -/
namespace Go.Proofs.Ytlfepembgjjejaa.A
open Go
set_option linter.unusedSimpArgs false
set_option linter.unusedVariables false
def cmpI (a b : Int) : Int := if a < b then -1 else if b < a then 1 else 0
def orI (a b : Int) : Int := if a = 0 then b else a
def cmpFin (f g : Fin) : Int := orI (cmpI f.tx g.tx) (cmpI f.id g.id)
theorem fin_eqs (a b c d : Int) : eqsR false [.i .i64, .i .u64] (some (.agg [.int .i64 a, .int .u64 b])) (some (.agg [.int .i64 c, .int .u64 d])) = some (.bool (decide ((⟨a, b⟩ : Fin) = ⟨c, d⟩))) := by
  have hc : cellsEq? [.i .i64, .i .u64] [.int .i64 a, .int .u64 b] [.int .i64 c, .int .u64 d] = some (decide ((⟨a, b⟩ : Fin) = ⟨c, d⟩)) := by
    simp only [cellsEq?, eqK, and_self, if_true, Option.bind_some]
    cases h1 : (a == c) <;> cases h2 : (b == d) <;> simp_all
  simp only [eqsR, List.length_cons, List.length_nil, and_self, if_true, hc, Option.bind_some, Bool.false_xor]
section
variable {F : Nat → Option RF} {Z : CallF} {h : Heap} {x : Cell} {xs : List Fin} {fp : List Nat}
theorem Compare_int_run (h1 : Has F tLibcmpCompareint) (h2 : Has F tLibcmpisNaNint) (a b : Int) (h : Heap) : call F Z 273 [.c (.int .i64 a), .c (.int .i64 b)] h = some (.c (.int .i64 (cmpI a b)), h) := by
  have hn : ∀ (a : Int) (h : Heap), call F Z 276 [.c (.int .i64 a)] h = some (.c (.bool false), h) := by
    intro a h
    rw [call_run F Z (h2.lk (g := 276) rfl) _ _ rfl]
    simp only [run0, run1, run2, run3, run4, noSlot, memN, RO.dst, lk, drop, forget, number, Nat.reduceBEq, cut?, splice?, builds, List.length_cons, List.length_nil, List.drop_succ_cons, List.drop_zero, List.take_succ_cons, List.take_zero, List.cons_append, List.nil_append, List.append_nil, List.drop_nil, List.take_nil, Nat.reduceAdd, Nat.reduceLeDiff, Nat.zero_add, Nat.add_zero, ↓reduceIte, Bool.not_true, Bool.not_false, decide_true, decide_false, eq_self, bne_self_eq_false, List.getElem?_cons_zero, List.getElem?_cons_succ, decide_eq_true_eq, Bool.false_eq_true, Bool.true_eq_false, reduceCtorEq, Nat.le_refl]
  rw [call_run F Z (h1.lk (g := 273) rfl) _ _ rfl]
  simp only [run0, run1, run2, run3, run4, noSlot, memN, RO.dst, lk, drop, forget, number, Nat.reduceBEq, cut?, splice?, builds, List.length_cons, List.length_nil, List.drop_succ_cons, List.drop_zero, List.take_succ_cons, List.take_zero, List.cons_append, List.nil_append, List.append_nil, List.drop_nil, List.take_nil, Nat.reduceAdd, Nat.reduceLeDiff, Nat.zero_add, Nat.add_zero, ↓reduceIte, Bool.not_true, Bool.not_false, decide_true, decide_false, eq_self, bne_self_eq_false, List.getElem?_cons_zero, List.getElem?_cons_succ, decide_eq_true_eq, Bool.false_eq_true, Bool.true_eq_false, reduceCtorEq, Nat.le_refl, hn]
  (repeat' ((first | (rw [gF_if]; split) | (rw [condC_if]; split) | (rw [pickR_if]; split)) <;> (rename_i hh; (try simp only [Bool.not_eq_true, decide_eq_true_eq] at hh); simp only [hh, run0, run1, run2, run3, run4, noSlot, memN, RO.dst, lk, drop, forget, number, Nat.reduceBEq, cut?, splice?, builds, List.length_cons, List.length_nil, List.drop_succ_cons, List.drop_zero, List.take_succ_cons, List.take_zero, List.cons_append, List.nil_append, List.append_nil, List.drop_nil, List.take_nil, Nat.reduceAdd, Nat.reduceLeDiff, Nat.zero_add, Nat.add_zero, ↓reduceIte, Bool.not_true, Bool.not_false, decide_true, decide_false, eq_self, bne_self_eq_false, List.getElem?_cons_zero, List.getElem?_cons_succ, decide_eq_true_eq, Bool.false_eq_true, Bool.true_eq_false, reduceCtorEq, Nat.le_refl, hn]))) <;> simp_all [cmpI] <;> omega
theorem Compare_u64_run (h1 : Has F tLibcmpCompareuint64) (h2 : Has F tLibcmpisNaNuint64) (a b : Int) (h : Heap) : call F Z 274 [.c (.int .u64 a), .c (.int .u64 b)] h = some (.c (.int .i64 (cmpI a b)), h) := by
  have hn : ∀ (a : Int) (h : Heap), call F Z 277 [.c (.int .u64 a)] h = some (.c (.bool false), h) := by
    intro a h
    rw [call_run F Z (h2.lk (g := 277) rfl) _ _ rfl]
    simp only [run0, run1, run2, run3, run4, noSlot, memN, RO.dst, lk, drop, forget, number, Nat.reduceBEq, cut?, splice?, builds, List.length_cons, List.length_nil, List.drop_succ_cons, List.drop_zero, List.take_succ_cons, List.take_zero, List.cons_append, List.nil_append, List.append_nil, List.drop_nil, List.take_nil, Nat.reduceAdd, Nat.reduceLeDiff, Nat.zero_add, Nat.add_zero, ↓reduceIte, Bool.not_true, Bool.not_false, decide_true, decide_false, eq_self, bne_self_eq_false, List.getElem?_cons_zero, List.getElem?_cons_succ, decide_eq_true_eq, Bool.false_eq_true, Bool.true_eq_false, reduceCtorEq, Nat.le_refl]
  rw [call_run F Z (h1.lk (g := 274) rfl) _ _ rfl]
  simp only [run0, run1, run2, run3, run4, noSlot, memN, RO.dst, lk, drop, forget, number, Nat.reduceBEq, cut?, splice?, builds, List.length_cons, List.length_nil, List.drop_succ_cons, List.drop_zero, List.take_succ_cons, List.take_zero, List.cons_append, List.nil_append, List.append_nil, List.drop_nil, List.take_nil, Nat.reduceAdd, Nat.reduceLeDiff, Nat.zero_add, Nat.add_zero, ↓reduceIte, Bool.not_true, Bool.not_false, decide_true, decide_false, eq_self, bne_self_eq_false, List.getElem?_cons_zero, List.getElem?_cons_succ, decide_eq_true_eq, Bool.false_eq_true, Bool.true_eq_false, reduceCtorEq, Nat.le_refl, hn]
  (repeat' ((first | (rw [gF_if]; split) | (rw [condC_if]; split) | (rw [pickR_if]; split)) <;> (rename_i hh; (try simp only [Bool.not_eq_true, decide_eq_true_eq] at hh); simp only [hh, run0, run1, run2, run3, run4, noSlot, memN, RO.dst, lk, drop, forget, number, Nat.reduceBEq, cut?, splice?, builds, List.length_cons, List.length_nil, List.drop_succ_cons, List.drop_zero, List.take_succ_cons, List.take_zero, List.cons_append, List.nil_append, List.append_nil, List.drop_nil, List.take_nil, Nat.reduceAdd, Nat.reduceLeDiff, Nat.zero_add, Nat.add_zero, ↓reduceIte, Bool.not_true, Bool.not_false, decide_true, decide_false, eq_self, bne_self_eq_false, List.getElem?_cons_zero, List.getElem?_cons_succ, decide_eq_true_eq, Bool.false_eq_true, Bool.true_eq_false, reduceCtorEq, Nat.le_refl, hn]))) <;> simp_all [cmpI] <;> omega
theorem indexFin_run (hL : Has F tLibslicesIndeximplFinimplFin) (w : SlR 9 (Fl Fin.enc) h x xs fp) (f : Fin) : call F Z 272 [.c x, .agg f.enc] h = some (.c (.int .i64 (findI (fun a => decide (f = a)) xs)), h) := by
  have hle := w.le2
  rw [call_run F Z (hL.lk (g := 272) rfl) _ _ rfl]
  simp only [run0, run1, run2, run3, run4, noSlot, memN, RO.dst, lk, drop, forget, number, Nat.reduceBEq, cut?, splice?, builds, List.length_cons, List.length_nil, List.drop_succ_cons, List.drop_zero, List.take_succ_cons, List.take_zero, List.cons_append, List.nil_append, List.append_nil, List.drop_nil, List.take_nil, Nat.reduceAdd, Nat.reduceLeDiff, Nat.zero_add, Nat.add_zero, ↓reduceIte, Bool.not_true, Bool.not_false, decide_true, decide_false, eq_self, bne_self_eq_false, List.getElem?_cons_zero, List.getElem?_cons_succ, decide_eq_true_eq, Bool.false_eq_true, Bool.true_eq_false, reduceCtorEq, Nat.le_refl, w.len]
  have key := loop_find (F := F) (Z := Z) (live := [0, 3, 7, 8]) (b := r272L0) xs (fun a => decide (f = a)) (fun i => ⟨[(0, .c x), (7, .c (.int .i64 (xs.length : Nat))), (8, .c (.int .i64 (i : Nat)))], [(3, 3, 0)], [(3, f.enc)], h⟩) (fun i s => lk s.env 4 = some (.c (.int .i64 (i : Nat))) ∧ s.hp = h) fun i hi => by
    have hlt : (i : Int) < xs.length := by omega
    have hws := wrapS i (by omega)
    have hxi := w.idx hi
    have hld := w.load hi
    generalize xs[i] = a at *
    obtain ⟨t, d⟩ := a
    obtain ⟨t', d'⟩ := f
    rw [loop_run]
    conv in (codeF _ _ r272L0 _) => unfold r272L0
    have fe := fin_eqs t' d' t d
    simp only [run0, run1, run2, run3, run4, noSlot, memN, RO.dst, lk, drop, forget, number, Nat.reduceBEq, cut?, splice?, builds, List.length_cons, List.length_nil, List.drop_succ_cons, List.drop_zero, List.take_succ_cons, List.take_zero, List.cons_append, List.nil_append, List.append_nil, List.drop_nil, List.take_nil, Nat.reduceAdd, Nat.reduceLeDiff, Nat.zero_add, Nat.add_zero, ↓reduceIte, Bool.not_true, Bool.not_false, decide_true, decide_false, eq_self, bne_self_eq_false, List.getElem?_cons_zero, List.getElem?_cons_succ, decide_eq_true_eq, Bool.false_eq_true, Bool.true_eq_false, reduceCtorEq, Nat.le_refl, hlt, hxi, hld, Fin.enc, fe]
    clear hxi hld fe w
    (repeat' ((first | (rw [gF_if]; split) | (rw [condC_if]; split) | (rw [pickR_if]; split)) <;> (rename_i hh; (try simp only [Bool.not_eq_true, decide_eq_true_eq] at hh); simp only [hh, run0, run1, run2, run3, run4, noSlot, memN, RO.dst, lk, drop, forget, number, Nat.reduceBEq, cut?, splice?, builds, List.length_cons, List.length_nil, List.drop_succ_cons, List.drop_zero, List.take_succ_cons, List.take_zero, List.cons_append, List.nil_append, List.append_nil, List.drop_nil, List.take_nil, Nat.reduceAdd, Nat.reduceLeDiff, Nat.zero_add, Nat.add_zero, ↓reduceIte, Bool.not_true, Bool.not_false, decide_true, decide_false, eq_self, bne_self_eq_false, List.getElem?_cons_zero, List.getElem?_cons_succ, decide_eq_true_eq, Bool.false_eq_true, Bool.true_eq_false, reduceCtorEq, Nat.le_refl, hws]))) <;> first
      | exact .inl ⟨by simp_all, rfl⟩
      | exact .inr ⟨by simp_all, _, rfl, rfl, rfl⟩
  have hlt : ¬ (xs.length : Int) < xs.length := by omega
  simp only [show ((0 : Nat) : Int) = 0 from rfl] at key
  rcases key with ⟨k1, k2⟩ | ⟨i, k1, hi, s, k2, k3, k4⟩
  · rw [k2, loop_run]
    conv in (codeF _ _ r272L0 _) => unfold r272L0
    simp only [run0, run1, run2, run3, run4, noSlot, memN, RO.dst, lk, drop, forget, number, Nat.reduceBEq, cut?, splice?, builds, List.length_cons, List.length_nil, List.drop_succ_cons, List.drop_zero, List.take_succ_cons, List.take_zero, List.cons_append, List.nil_append, List.append_nil, List.drop_nil, List.take_nil, Nat.reduceAdd, Nat.reduceLeDiff, Nat.zero_add, Nat.add_zero, ↓reduceIte, Bool.not_true, Bool.not_false, decide_true, decide_false, eq_self, bne_self_eq_false, List.getElem?_cons_zero, List.getElem?_cons_succ, decide_eq_true_eq, Bool.false_eq_true, Bool.true_eq_false, reduceCtorEq, Nat.le_refl, hlt, findI, k1]
  · rw [k2]
    simp only [run0, run1, run2, run3, run4, noSlot, memN, RO.dst, lk, drop, forget, number, Nat.reduceBEq, cut?, splice?, builds, List.length_cons, List.length_nil, List.drop_succ_cons, List.drop_zero, List.take_succ_cons, List.take_zero, List.cons_append, List.nil_append, List.append_nil, List.drop_nil, List.take_nil, Nat.reduceAdd, Nat.reduceLeDiff, Nat.zero_add, Nat.add_zero, ↓reduceIte, Bool.not_true, Bool.not_false, decide_true, decide_false, eq_self, bne_self_eq_false, List.getElem?_cons_zero, List.getElem?_cons_succ, decide_eq_true_eq, Bool.false_eq_true, Bool.true_eq_false, reduceCtorEq, Nat.le_refl, k3, k4, findI, k1]
theorem containsFin_run (hL : Has F tLibslicesIndeximplFinimplFin) (hC : Has F tLibslicesContainsimplFinimplFin) (w : SlR 9 (Fl Fin.enc) h x xs fp) (f : Fin) : call F Z 266 [.c x, .agg f.enc] h = some (.c (.bool (decide (f ∈ xs))), h) := by
  rw [call_run F Z (hC.lk (g := 266) rfl) _ _ rfl]
  simp only [run0, run1, run2, run3, run4, noSlot, memN, RO.dst, lk, drop, forget, number, Nat.reduceBEq, cut?, splice?, builds, List.length_cons, List.length_nil, List.drop_succ_cons, List.drop_zero, List.take_succ_cons, List.take_zero, List.cons_append, List.nil_append, List.append_nil, List.drop_nil, List.take_nil, Nat.reduceAdd, Nat.reduceLeDiff, Nat.zero_add, Nat.add_zero, ↓reduceIte, Bool.not_true, Bool.not_false, decide_true, decide_false, eq_self, bne_self_eq_false, List.getElem?_cons_zero, List.getElem?_cons_succ, decide_eq_true_eq, Bool.false_eq_true, Bool.true_eq_false, reduceCtorEq, Nat.le_refl, Fin.len, Fin.tak, indexFin_run hL w f]
  congr 4
  unfold findI
  cases hf : xs.findIdx? (fun a => decide (f = a)) with
  | none =>
    rw [List.findIdx?_eq_none_iff] at hf
    have : ¬ f ∈ xs := fun hm => by simpa using hf f hm
    simp [this]
  | some i =>
    rw [List.findIdx?_eq_some_iff_getElem] at hf
    obtain ⟨hi, h2, _⟩ := hf
    have : f ∈ xs := by
      have : f = xs[i] := by simpa using h2
      rw [this]; exact List.getElem_mem hi
    simp [this]
theorem Or2_run (hO : Has F tLibcmpOrint) {o : Nat} (a b : Int) (hg : h.get o = some [[.int .i64 a], [.int .i64 b]]) : call F Z 275 [.c (.sl 15 o 0 2)] h = some (.c (.int .i64 (orI a b)), h) := by
  have l0 : ∀ j n, loadP h o 0 j n = cut? [.int .i64 a] j n := fun j n => by simp [loadP, rowOf, hg]
  have l1 : ∀ j n, loadP h o 1 j n = cut? [.int .i64 b] j n := fun j n => by simp [loadP, rowOf, hg]
  have i0 : idxR 15 (some (.sl 15 o 0 2)) (some 0) = some (.ptr o 0 0) := rfl
  have i1 : idxR 15 (some (.sl 15 o 0 2)) (some 1) = some (.ptr o 1 0) := rfl
  have w1 : IntKind.i64.wrap (0 + 1) = 1 := wrapI _ (by omega) (by omega)
  have w2 : IntKind.i64.wrap (1 + 1) = 2 := wrapI _ (by omega) (by omega)
  have c0 : (0 : Int) < ((2 : Nat) : Int) := by omega
  have c1 : (1 : Int) < ((2 : Nat) : Int) := by omega
  have c2 : ¬ (2 : Int) < ((2 : Nat) : Int) := by omega
  rw [call_run F Z (hO.lk (g := 275) rfl) _ _ rfl]
  simp only [run0, run1, run2, run3, run4, noSlot, memN, RO.dst, lk, drop, forget, number, Nat.reduceBEq, cut?, splice?, builds, List.length_cons, List.length_nil, List.drop_succ_cons, List.drop_zero, List.take_succ_cons, List.take_zero, List.cons_append, List.nil_append, List.append_nil, List.drop_nil, List.take_nil, Nat.reduceAdd, Nat.reduceLeDiff, Nat.zero_add, Nat.add_zero, ↓reduceIte, Bool.not_true, Bool.not_false, decide_true, decide_false, eq_self, bne_self_eq_false, List.getElem?_cons_zero, List.getElem?_cons_succ, decide_eq_true_eq, Bool.false_eq_true, Bool.true_eq_false, reduceCtorEq, Nat.le_refl]
  rw [loop_run]
  conv in (codeF _ _ r275L0 _) => unfold r275L0
  by_cases ha : a = 0
  · subst ha
    simp only [run0, run1, run2, run3, run4, noSlot, memN, RO.dst, lk, drop, forget, number, Nat.reduceBEq, cut?, splice?, builds, List.length_cons, List.length_nil, List.drop_succ_cons, List.drop_zero, List.take_succ_cons, List.take_zero, List.cons_append, List.nil_append, List.append_nil, List.drop_nil, List.take_nil, Nat.reduceAdd, Nat.reduceLeDiff, Nat.zero_add, Nat.add_zero, ↓reduceIte, Bool.not_true, Bool.not_false, decide_true, decide_false, eq_self, bne_self_eq_false, List.getElem?_cons_zero, List.getElem?_cons_succ, decide_eq_true_eq, Bool.false_eq_true, Bool.true_eq_false, reduceCtorEq, Nat.le_refl, c0, i0, l0, w1]
    rw [loop_run]
    conv in (codeF _ _ r275L0 _) => unfold r275L0
    by_cases hb : b = 0
    · subst hb
      simp only [run0, run1, run2, run3, run4, noSlot, memN, RO.dst, lk, drop, forget, number, Nat.reduceBEq, cut?, splice?, builds, List.length_cons, List.length_nil, List.drop_succ_cons, List.drop_zero, List.take_succ_cons, List.take_zero, List.cons_append, List.nil_append, List.append_nil, List.drop_nil, List.take_nil, Nat.reduceAdd, Nat.reduceLeDiff, Nat.zero_add, Nat.add_zero, ↓reduceIte, Bool.not_true, Bool.not_false, decide_true, decide_false, eq_self, bne_self_eq_false, List.getElem?_cons_zero, List.getElem?_cons_succ, decide_eq_true_eq, Bool.false_eq_true, Bool.true_eq_false, reduceCtorEq, Nat.le_refl, c1, i1, l1, w2]
      rw [loop_run]
      conv in (codeF _ _ r275L0 _) => unfold r275L0
      simp only [run0, run1, run2, run3, run4, noSlot, memN, RO.dst, lk, drop, forget, number, Nat.reduceBEq, cut?, splice?, builds, List.length_cons, List.length_nil, List.drop_succ_cons, List.drop_zero, List.take_succ_cons, List.take_zero, List.cons_append, List.nil_append, List.append_nil, List.drop_nil, List.take_nil, Nat.reduceAdd, Nat.reduceLeDiff, Nat.zero_add, Nat.add_zero, ↓reduceIte, Bool.not_true, Bool.not_false, decide_true, decide_false, eq_self, bne_self_eq_false, List.getElem?_cons_zero, List.getElem?_cons_succ, decide_eq_true_eq, Bool.false_eq_true, Bool.true_eq_false, reduceCtorEq, Nat.le_refl, c2, orI]
    · have hb' : (b != 0) = true := by simpa using hb
      simp only [run0, run1, run2, run3, run4, noSlot, memN, RO.dst, lk, drop, forget, number, Nat.reduceBEq, cut?, splice?, builds, List.length_cons, List.length_nil, List.drop_succ_cons, List.drop_zero, List.take_succ_cons, List.take_zero, List.cons_append, List.nil_append, List.append_nil, List.drop_nil, List.take_nil, Nat.reduceAdd, Nat.reduceLeDiff, Nat.zero_add, Nat.add_zero, ↓reduceIte, Bool.not_true, Bool.not_false, decide_true, decide_false, eq_self, bne_self_eq_false, List.getElem?_cons_zero, List.getElem?_cons_succ, decide_eq_true_eq, Bool.false_eq_true, Bool.true_eq_false, reduceCtorEq, Nat.le_refl, c1, i1, l1, hb', orI]
  · have ha' : (a != 0) = true := by simpa using ha
    simp only [run0, run1, run2, run3, run4, noSlot, memN, RO.dst, lk, drop, forget, number, Nat.reduceBEq, cut?, splice?, builds, List.length_cons, List.length_nil, List.drop_succ_cons, List.drop_zero, List.take_succ_cons, List.take_zero, List.cons_append, List.nil_append, List.append_nil, List.drop_nil, List.take_nil, Nat.reduceAdd, Nat.reduceLeDiff, Nat.zero_add, Nat.add_zero, ↓reduceIte, Bool.not_true, Bool.not_false, decide_true, decide_false, eq_self, bne_self_eq_false, List.getElem?_cons_zero, List.getElem?_cons_succ, decide_eq_true_eq, Bool.false_eq_true, Bool.true_eq_false, reduceCtorEq, Nat.le_refl, c0, i0, l0, ha', orI, ha]
end
end Go.Proofs.Ytlfepembgjjejaa.A
/- The data of a Account, and its cells. -/
namespace Go.Proofs.Ytlfepembgjjejaa.A
open Go
set_option linter.unusedSimpArgs false
set_option linter.unusedVariables false
structure Account where
  id : Int
  bal : Int
  hold : Int
  due : Int
  tx : Int
  deriving DecidableEq
namespace Account
def enc (t : Account) : List Cell := [.int .u64 t.id, .int .u64 t.bal, .int .u64 t.hold, .int .u64 t.due, .int .i64 t.tx]
theorem len (t : Account) : t.enc.length = 5 := rfl
theorem tak (t : Account) : t.enc.take 5 = t.enc := rfl
def none_ : Account := ⟨0, 0, 0, 0, 0⟩
/-- The numbers are those of the machine. -/
structure Ok (t : Account) : Prop where
  id : 0 ≤ t.id ∧ t.id ≤ 18446744073709551615
  bal : 0 ≤ t.bal ∧ t.bal ≤ 18446744073709551615
  hold : 0 ≤ t.hold ∧ t.hold ≤ 18446744073709551615
  due : 0 ≤ t.due ∧ t.due ≤ 18446744073709551615
  tx : -9223372036854775808 ≤ t.tx ∧ t.tx ≤ 9223372036854775807
end Account
theorem Wf.isAccount {h : Heap} {n : Nat} {cs : List Cell} (w : Wf h (n + 2) shAccount cs) : ∃ t : Account, cs = t.enc ∧ t.Ok := by
  obtain ⟨_, _, rfl, _, ⟨id0, rfl, h0⟩, _, _, rfl, _, ⟨bal0, rfl, h1⟩, _, _, rfl, _, ⟨hold0, rfl, h2⟩, _, _, rfl, _, ⟨due0, rfl, h3⟩, _, _, rfl, _, ⟨tx0, rfl, h4⟩, rfl⟩ := w
  exact ⟨⟨id0, bal0, hold0, due0, tx0⟩, rfl, ⟨wfU h0, wfU h1, wfU h2, wfU h3, wfI h4⟩⟩
theorem Wf.isAccountS {h : Heap} {n : Nat} {x : Cell} (w : Wf h (n + 3) shAccountS [x]) : ∃ xs fp, SlR 12 (Fl Account.enc) h x xs fp ∧ ∀ t, t ∈ xs → t.Ok :=
  SlR.ofWf (fun r hr => by obtain ⟨t, rfl, ht⟩ := Wf.isAccount hr.2; exact ⟨t, [], ⟨rfl, rfl⟩, ht⟩) w
theorem Wf.isAccountS' {h : Heap} {n : Nat} {a : List Cell} (w : Wf h (n + 3) shAccountS a) : ∃ x xs fp, a = [x] ∧ SlR 12 (Fl Account.enc) h x xs fp ∧ ∀ t, t ∈ xs → t.Ok := by
  have hx : ∃ x, a = [x] := by rcases w with w | ⟨_, _, w, _⟩ <;> exact ⟨_, w⟩
  obtain ⟨x, rfl⟩ := hx
  obtain ⟨xs, fp, v, ok⟩ := Wf.isAccountS w
  exact ⟨x, xs, fp, rfl, v, ok⟩
end Go.Proofs.Ytlfepembgjjejaa.A
/- What the converters of Account compute. -/
namespace Go.Proofs.Ytlfepembgjjejaa.A
open Go
set_option linter.unusedSimpArgs false
set_option linter.unusedVariables false
section
variable {F : Nat → Option RF} {Z : CallF} {h : Heap} {x y : Cell} {xs ys : List Account} {fp fq : List Nat}
def Account.zero : List Cell := [.int .u64 0, .int .u64 0, .int .u64 0, .int .u64 0, .int .i64 0]
theorem toAccount_run (hL : Has F tLAccount) (p : Account) (h : Heap) : call F Z 141 [.agg p.enc] h = some (.agg p.enc, h) := by
  rw [call_run F Z (hL.lk (g := 141) rfl) _ _ rfl]
  simp only [Account.enc, run0, run1, run2, run3, run4, noSlot, memN, RO.dst, lk, drop, forget, number, Nat.reduceBEq, cut?, splice?, builds, List.length_cons, List.length_nil, List.drop_succ_cons, List.drop_zero, List.take_succ_cons, List.take_zero, List.cons_append, List.nil_append, List.append_nil, List.drop_nil, List.take_nil, Nat.reduceAdd, Nat.reduceLeDiff, Nat.zero_add, Nat.add_zero, ↓reduceIte, Bool.not_true, Bool.not_false, decide_true, decide_false, eq_self, bne_self_eq_false, List.getElem?_cons_zero, List.getElem?_cons_succ, decide_eq_true_eq, Bool.false_eq_true, Bool.true_eq_false, reduceCtorEq, Nat.le_refl]
set_option maxHeartbeats 1000000 in
theorem eqAccount_run (hL : Has F tLAccount) (p q : Account) (h : Heap) : call F Z 142 [.agg p.enc, .agg q.enc] h = some (.c (.bool (decide (p = q))), h) := by
  rw [call_run F Z (hL.lk (g := 142) rfl) _ _ rfl]
  obtain ⟨id1, bal1, hold1, due1, tx1⟩ := p
  obtain ⟨id2, bal2, hold2, due2, tx2⟩ := q
  simp only [Account.enc, run0, run1, run2, run3, run4, noSlot, memN, RO.dst, lk, drop, forget, number, Nat.reduceBEq, cut?, splice?, builds, List.length_cons, List.length_nil, List.drop_succ_cons, List.drop_zero, List.take_succ_cons, List.take_zero, List.cons_append, List.nil_append, List.append_nil, List.drop_nil, List.take_nil, Nat.reduceAdd, Nat.reduceLeDiff, Nat.zero_add, Nat.add_zero, ↓reduceIte, Bool.not_true, Bool.not_false, decide_true, decide_false, eq_self, bne_self_eq_false, List.getElem?_cons_zero, List.getElem?_cons_succ, decide_eq_true_eq, Bool.false_eq_true, Bool.true_eq_false, reduceCtorEq, Nat.le_refl]
  (repeat' ((first | (rw [gF_if]; split) | (rw [condC_if]; split) | (rw [pickR_if]; split)) <;> (rename_i hh; (try simp only [Bool.not_eq_true, decide_eq_true_eq] at hh); simp only [hh, run0, run1, run2, run3, run4, noSlot, memN, RO.dst, lk, drop, forget, number, Nat.reduceBEq, cut?, splice?, builds, List.length_cons, List.length_nil, List.drop_succ_cons, List.drop_zero, List.take_succ_cons, List.take_zero, List.cons_append, List.nil_append, List.append_nil, List.drop_nil, List.take_nil, Nat.reduceAdd, Nat.reduceLeDiff, Nat.zero_add, Nat.add_zero, ↓reduceIte, Bool.not_true, Bool.not_false, decide_true, decide_false, eq_self, bne_self_eq_false, List.getElem?_cons_zero, List.getElem?_cons_succ, decide_eq_true_eq, Bool.false_eq_true, Bool.true_eq_false, reduceCtorEq, Nat.le_refl]))) <;> refine fin_bool ?_ <;> simp_all <;> (try (intros; omega))
theorem szAccountS_run (hL : Has F tLAccount) (w : SlR 12 (Fl Account.enc) h x xs fp) (left : Int) (h1 : 0 ≤ left) (h2 : left ≤ 1048576) : call F Z 136 [.c x, .c (.int .i64 left)] h = some (.c (.int .i64 (if left - xs.length < 0 then -1 else left - xs.length)), h) := by
  have := w.le2
  rw [call_run F Z (hL.lk (g := 136) rfl) _ _ rfl]
  simp only [run0, run1, run2, run3, run4, noSlot, memN, RO.dst, lk, drop, forget, number, Nat.reduceBEq, cut?, splice?, builds, List.length_cons, List.length_nil, List.drop_succ_cons, List.drop_zero, List.take_succ_cons, List.take_zero, List.cons_append, List.nil_append, List.append_nil, List.drop_nil, List.take_nil, Nat.reduceAdd, Nat.reduceLeDiff, Nat.zero_add, Nat.add_zero, ↓reduceIte, Bool.not_true, Bool.not_false, decide_true, decide_false, eq_self, bne_self_eq_false, List.getElem?_cons_zero, List.getElem?_cons_succ, decide_eq_true_eq, Bool.false_eq_true, Bool.true_eq_false, reduceCtorEq, Nat.le_refl, w.len, wrapI (left - xs.length) (by omega) (by omega)]
  (repeat' ((first | (rw [gF_if]; split) | (rw [condC_if]; split) | (rw [pickR_if]; split)) <;> (rename_i hh; (try simp only [Bool.not_eq_true, decide_eq_true_eq] at hh); simp only [hh, run0, run1, run2, run3, run4, noSlot, memN, RO.dst, lk, drop, forget, number, Nat.reduceBEq, cut?, splice?, builds, List.length_cons, List.length_nil, List.drop_succ_cons, List.drop_zero, List.take_succ_cons, List.take_zero, List.cons_append, List.nil_append, List.append_nil, List.drop_nil, List.take_nil, Nat.reduceAdd, Nat.reduceLeDiff, Nat.zero_add, Nat.add_zero, ↓reduceIte, Bool.not_true, Bool.not_false, decide_true, decide_false, eq_self, bne_self_eq_false, List.getElem?_cons_zero, List.getElem?_cons_succ, decide_eq_true_eq, Bool.false_eq_true, Bool.true_eq_false, reduceCtorEq, Nat.le_refl]))) <;> simp_all
theorem szAccountS_c (hL : Has F tLAccount) (w : SlR 12 (Fl Account.enc) h x xs fp) (left : Int) (h1 : 0 ≤ left) (h2 : left ≤ 1048576) : ∃ r, call F Z 136 [.c x, .c (.int .i64 left)] h = some (.c (.int .i64 r), h) ∧ r ≤ left ∧ (0 ≤ r → xs.length ≤ 1048576) :=
  ⟨_, szAccountS_run hL w left h1 h2, by split <;> omega, by split <;> omega⟩
theorem toAccount_lit (hL : Has F tLAccount) (id1 bal1 hold1 due1 tx1 : Int) (h : Heap) : call F Z 141 [.agg [.int .u64 id1, .int .u64 bal1, .int .u64 hold1, .int .u64 due1, .int .i64 tx1]] h = some (.agg [.int .u64 id1, .int .u64 bal1, .int .u64 hold1, .int .u64 due1, .int .i64 tx1], h) := toAccount_run hL ⟨id1, bal1, hold1, due1, tx1⟩ h
theorem eqAccount_lit (hL : Has F tLAccount) (id1 bal1 hold1 due1 tx1 id2 bal2 hold2 due2 tx2 : Int) (h : Heap) : call F Z 142 [.agg [.int .u64 id1, .int .u64 bal1, .int .u64 hold1, .int .u64 due1, .int .i64 tx1], .agg [.int .u64 id2, .int .u64 bal2, .int .u64 hold2, .int .u64 due2, .int .i64 tx2]] h = some (.c (.bool (decide ((⟨id1, bal1, hold1, due1, tx1⟩ : Account) = ⟨id2, bal2, hold2, due2, tx2⟩))), h) := eqAccount_run hL ⟨id1, bal1, hold1, due1, tx1⟩ ⟨id2, bal2, hold2, due2, tx2⟩ h
theorem toAccountS_run (hL : Has F tLAccount) (hf : h.floor ≤ h.next) (w : SlR 12 (Fl Account.enc) h x xs fp) (hn : xs.length ≤ 1048576) : call F Z 137 [.c x] h = some (.c (.sl 11 h.next 0 xs.length), h.push (xs.map Account.enc)) := by
  rw [call_run F Z (hL.lk (g := 137) rfl) _ _ rfl]
  simp only [run0, run1, run2, run3, run4, noSlot, memN, RO.dst, lk, drop, forget, number, Nat.reduceBEq, cut?, splice?, builds, List.length_cons, List.length_nil, List.drop_succ_cons, List.drop_zero, List.take_succ_cons, List.take_zero, List.cons_append, List.nil_append, List.append_nil, List.drop_nil, List.take_nil, Nat.reduceAdd, Nat.reduceLeDiff, Nat.zero_add, Nat.add_zero, ↓reduceIte, Bool.not_true, Bool.not_false, decide_true, decide_false, eq_self, bne_self_eq_false, List.getElem?_cons_zero, List.getElem?_cons_succ, decide_eq_true_eq, Bool.false_eq_true, Bool.true_eq_false, reduceCtorEq, Nat.le_refl, w.len]
  rw [if_pos (by omega)]
  simp only [run0, run1, run2, run3, run4, noSlot, memN, RO.dst, lk, drop, forget, number, Nat.reduceBEq, cut?, splice?, builds, List.length_cons, List.length_nil, List.drop_succ_cons, List.drop_zero, List.take_succ_cons, List.take_zero, List.cons_append, List.nil_append, List.append_nil, List.drop_nil, List.take_nil, Nat.reduceAdd, Nat.reduceLeDiff, Nat.zero_add, Nat.add_zero, ↓reduceIte, Bool.not_true, Bool.not_false, decide_true, decide_false, eq_self, bne_self_eq_false, List.getElem?_cons_zero, List.getElem?_cons_succ, decide_eq_true_eq, Bool.false_eq_true, Bool.true_eq_false, reduceCtorEq, Nat.le_refl, Int.toNat_natCast]
  have key : loop F Z [0, 3, 4] r137L0 ⟨[(0, .c x), (3, .c (.sl 11 h.next 0 xs.length)), (4, .c (.int .i64 (0 : Nat)))], [], [], h.push (fillR Account.enc Account.zero xs 0)⟩ = loop F Z [0, 3, 4] r137L0 ⟨[(0, .c x), (3, .c (.sl 11 h.next 0 xs.length)), (4, .c (.int .i64 (xs.length : Nat)))], [], [], h.push (fillR Account.enc Account.zero xs xs.length)⟩ :=
    loop_goesF xs.length (fun i => ⟨[(0, .c x), (3, .c (.sl 11 h.next 0 xs.length)), (4, .c (.int .i64 (i : Nat)))], [], [], h.push (fillR Account.enc Account.zero xs i)⟩) fun i hi => by
      have w' := w.mono (Fl.ok _) (HExt.push h (fillR Account.enc Account.zero xs i))
      have hlt : (i : Int) < xs.length := by omega
      have h0 : (0 : Int) ≤ i := by omega
      rw [loop_run]
      simp only [r137L0, run0, run1, run2, run3, run4, noSlot, memN, RO.dst, lk, drop, forget, number, Nat.reduceBEq, cut?, splice?, builds, List.length_cons, List.length_nil, List.drop_succ_cons, List.drop_zero, List.take_succ_cons, List.take_zero, List.cons_append, List.nil_append, List.append_nil, List.drop_nil, List.take_nil, Nat.reduceAdd, Nat.reduceLeDiff, Nat.zero_add, Nat.add_zero, ↓reduceIte, Bool.not_true, Bool.not_false, decide_true, decide_false, eq_self, bne_self_eq_false, List.getElem?_cons_zero, List.getElem?_cons_succ, decide_eq_true_eq, Bool.false_eq_true, Bool.true_eq_false, reduceCtorEq, Nat.le_refl, w.len, hlt, w.idx hi, w'.load hi, Account.len, Account.tak, toAccount_run hL, h0, and_self, Int.toNat_natCast, storeP_push hf (fillR_get Account.enc Account.zero xs hi) (Account.len xs[i]), wrapS i (by omega)]
      rw [← fillR_set Account.enc Account.zero xs hi]
  rw [fillR_0] at key
  rw [fillR_n] at key
  rw [show ((0 : Nat) : Int) = 0 from rfl] at key
  simp only [Account.zero] at key
  rw [key, loop_run]
  have hlt : ¬ (xs.length : Int) < xs.length := by omega
  simp only [r137L0, run0, run1, run2, run3, run4, noSlot, memN, RO.dst, lk, drop, forget, number, Nat.reduceBEq, cut?, splice?, builds, List.length_cons, List.length_nil, List.drop_succ_cons, List.drop_zero, List.take_succ_cons, List.take_zero, List.cons_append, List.nil_append, List.append_nil, List.drop_nil, List.take_nil, Nat.reduceAdd, Nat.reduceLeDiff, Nat.zero_add, Nat.add_zero, ↓reduceIte, Bool.not_true, Bool.not_false, decide_true, decide_false, eq_self, bne_self_eq_false, List.getElem?_cons_zero, List.getElem?_cons_succ, decide_eq_true_eq, Bool.false_eq_true, Bool.true_eq_false, reduceCtorEq, Nat.le_refl, w.len, hlt]
theorem toAccountS_c (hL : Has F tLAccount) (hf : h.floor ≤ h.next) (w : SlR 12 (Fl Account.enc) h x xs fp) (hn : xs.length ≤ 1048576) : ∃ y h' fq, call F Z 137 [.c x] h = some (.c y, h') ∧ On h h' ∧ SlR 11 (Fl Account.enc) h' y xs fq ∧ Fre h fq :=
  ⟨_, _, _, toAccountS_run hL hf w hn, On.push _ _, SlR.ofFlat w.le (push_get _ _) (by rw [push_next]; omega), Fre.one h⟩
theorem eqAccountS_run (hL : Has F tLAccount) (w : SlR 11 (Fl Account.enc) h x xs fp) (v : SlR 11 (Fl Account.enc) h y ys fq) : call F Z 139 [.c x, .c y] h = some (.c (.bool (decide (xs = ys))), h) := by
  have hw := w.le2
  have hv := v.le2
  rw [call_run F Z (hL.lk (g := 139) rfl) _ _ rfl]
  simp only [run0, run1, run2, run3, run4, noSlot, memN, RO.dst, lk, drop, forget, number, Nat.reduceBEq, cut?, splice?, builds, List.length_cons, List.length_nil, List.drop_succ_cons, List.drop_zero, List.take_succ_cons, List.take_zero, List.cons_append, List.nil_append, List.append_nil, List.drop_nil, List.take_nil, Nat.reduceAdd, Nat.reduceLeDiff, Nat.zero_add, Nat.add_zero, ↓reduceIte, Bool.not_true, Bool.not_false, decide_true, decide_false, eq_self, bne_self_eq_false, List.getElem?_cons_zero, List.getElem?_cons_succ, decide_eq_true_eq, Bool.false_eq_true, Bool.true_eq_false, reduceCtorEq, Nat.le_refl, w.len, v.len]
  rw [condC_if]
  split
  · rename_i hne
    have : xs ≠ ys := by rintro rfl; simp at hne
    simp only [run0, run1, run2, run3, run4, noSlot, memN, RO.dst, lk, drop, forget, number, Nat.reduceBEq, cut?, splice?, builds, List.length_cons, List.length_nil, List.drop_succ_cons, List.drop_zero, List.take_succ_cons, List.take_zero, List.cons_append, List.nil_append, List.append_nil, List.drop_nil, List.take_nil, Nat.reduceAdd, Nat.reduceLeDiff, Nat.zero_add, Nat.add_zero, ↓reduceIte, Bool.not_true, Bool.not_false, decide_true, decide_false, eq_self, bne_self_eq_false, List.getElem?_cons_zero, List.getElem?_cons_succ, decide_eq_true_eq, Bool.false_eq_true, Bool.true_eq_false, reduceCtorEq, Nat.le_refl, this]
  · rename_i he
    have he : xs.length = ys.length := by simp at he; omega
    simp only [run0, run1, run2, run3, run4, noSlot, memN, RO.dst, lk, drop, forget, number, Nat.reduceBEq, cut?, splice?, builds, List.length_cons, List.length_nil, List.drop_succ_cons, List.drop_zero, List.take_succ_cons, List.take_zero, List.cons_append, List.nil_append, List.append_nil, List.drop_nil, List.take_nil, Nat.reduceAdd, Nat.reduceLeDiff, Nat.zero_add, Nat.add_zero, ↓reduceIte, Bool.not_true, Bool.not_false, decide_true, decide_false, eq_self, bne_self_eq_false, List.getElem?_cons_zero, List.getElem?_cons_succ, decide_eq_true_eq, Bool.false_eq_true, Bool.true_eq_false, reduceCtorEq, Nat.le_refl]
    have key := loop_allN (F := F) (Z := Z) (live := [0, 1, 5]) (b := r139L0) xs.length (fun i => ⟨[(0, .c x), (1, .c y), (5, .c (.int .i64 (i : Nat)))], [], [], h⟩) (fun i => decide (xs[i]? = ys[i]?)) (fun s => lk s.env 4 = some (.c (.bool false)) ∧ s.hp = h) fun i hi => by
      have hi' : i < ys.length := by omega
      have hlt : (i : Int) < xs.length := by omega
      rw [loop_run]
      simp only [r139L0, run0, run1, run2, run3, run4, noSlot, memN, RO.dst, lk, drop, forget, number, Nat.reduceBEq, cut?, splice?, builds, List.length_cons, List.length_nil, List.drop_succ_cons, List.drop_zero, List.take_succ_cons, List.take_zero, List.cons_append, List.nil_append, List.append_nil, List.drop_nil, List.take_nil, Nat.reduceAdd, Nat.reduceLeDiff, Nat.zero_add, Nat.add_zero, ↓reduceIte, Bool.not_true, Bool.not_false, decide_true, decide_false, eq_self, bne_self_eq_false, List.getElem?_cons_zero, List.getElem?_cons_succ, decide_eq_true_eq, Bool.false_eq_true, Bool.true_eq_false, reduceCtorEq, Nat.le_refl, w.len, hlt, w.idx hi, v.idx hi', w.load hi, v.load hi', Account.len, Account.tak, eqAccount_run hL, wrapS i (by omega)]
      rw [List.getElem?_eq_getElem hi, List.getElem?_eq_getElem hi']
      (repeat' ((first | (rw [gF_if]; split) | (rw [condC_if]; split) | (rw [pickR_if]; split)) <;> (rename_i hh; (try simp only [Bool.not_eq_true, decide_eq_true_eq] at hh); simp only [hh, run0, run1, run2, run3, run4, noSlot, memN, RO.dst, lk, drop, forget, number, Nat.reduceBEq, cut?, splice?, builds, List.length_cons, List.length_nil, List.drop_succ_cons, List.drop_zero, List.take_succ_cons, List.take_zero, List.cons_append, List.nil_append, List.append_nil, List.drop_nil, List.take_nil, Nat.reduceAdd, Nat.reduceLeDiff, Nat.zero_add, Nat.add_zero, ↓reduceIte, Bool.not_true, Bool.not_false, decide_true, decide_false, eq_self, bne_self_eq_false, List.getElem?_cons_zero, List.getElem?_cons_succ, decide_eq_true_eq, Bool.false_eq_true, Bool.true_eq_false, reduceCtorEq, Nat.le_refl, wrapS i (by omega)])))
      · exact .inr ⟨by simp_all, _, rfl, rfl, rfl⟩
      · exact .inl ⟨by simp_all, rfl⟩
    rw [all_same he] at key
    rcases key with ⟨k1, k2⟩ | ⟨k1, s, k2, k3, k4⟩
    · simp only [show ((0 : Nat) : Int) = 0 from rfl] at k2
      rw [k2, loop_run]
      have hlt : ¬ (xs.length : Int) < xs.length := by omega
      simp only [r139L0, run0, run1, run2, run3, run4, noSlot, memN, RO.dst, lk, drop, forget, number, Nat.reduceBEq, cut?, splice?, builds, List.length_cons, List.length_nil, List.drop_succ_cons, List.drop_zero, List.take_succ_cons, List.take_zero, List.cons_append, List.nil_append, List.append_nil, List.drop_nil, List.take_nil, Nat.reduceAdd, Nat.reduceLeDiff, Nat.zero_add, Nat.add_zero, ↓reduceIte, Bool.not_true, Bool.not_false, decide_true, decide_false, eq_self, bne_self_eq_false, List.getElem?_cons_zero, List.getElem?_cons_succ, decide_eq_true_eq, Bool.false_eq_true, Bool.true_eq_false, reduceCtorEq, Nat.le_refl, w.len, hlt, k1]
    · simp only [show ((0 : Nat) : Int) = 0 from rfl] at k2
      rw [k2]
      simp only [run0, run1, run2, run3, run4, noSlot, memN, RO.dst, lk, drop, forget, number, Nat.reduceBEq, cut?, splice?, builds, List.length_cons, List.length_nil, List.drop_succ_cons, List.drop_zero, List.take_succ_cons, List.take_zero, List.cons_append, List.nil_append, List.append_nil, List.drop_nil, List.take_nil, Nat.reduceAdd, Nat.reduceLeDiff, Nat.zero_add, Nat.add_zero, ↓reduceIte, Bool.not_true, Bool.not_false, decide_true, decide_false, eq_self, bne_self_eq_false, List.getElem?_cons_zero, List.getElem?_cons_succ, decide_eq_true_eq, Bool.false_eq_true, Bool.true_eq_false, reduceCtorEq, Nat.le_refl, k3, k4, k1]
/-- What is written to mark one. -/
def Account.mk_ (k : Int) : Account := ⟨k, k + 1, k + 1 + 1, k + 1 + 1 + 1, k + 1 + 1 + 1 + 1⟩
def Account.marks (n : Nat) (k : Int) : List Account := (List.range n).map fun i : Nat => Account.mk_ (k + 5 * (i : Int))
theorem Account.marks_len (n : Nat) (k : Int) : (Account.marks n k).length = n := by simp [Account.marks]
set_option maxHeartbeats 1000000 in
theorem markAccountS_run (hL : Has F tLAccount) (w : SlR 11 (Fl Account.enc) h x xs fp) (hlo : ∀ id, id ∈ fp → h.floor ≤ id) (k : Int) (h1 : 0 ≤ k) (h2 : k + 5 * xs.length ≤ 9200000000000000000) :
    ∃ h', call F Z 261 [.c x, .c (.int .i64 k)] h = some (.c (.int .i64 (k + 5 * xs.length)), h') ∧ Mk h h' fp ∧ SlR 11 (Fl Account.enc) h' x (Account.marks xs.length k) fp := by
  have hle := w.le2
  have hlm := Account.marks_len xs.length k
  rw [call_run F Z (hL.lk (g := 261) rfl) _ _ rfl]
  simp only [run0, run1, run2, run3, run4, noSlot, memN, RO.dst, lk, drop, forget, number, Nat.reduceBEq, cut?, splice?, builds, List.length_cons, List.length_nil, List.drop_succ_cons, List.drop_zero, List.take_succ_cons, List.take_zero, List.cons_append, List.nil_append, List.append_nil, List.drop_nil, List.take_nil, Nat.reduceAdd, Nat.reduceLeDiff, Nat.zero_add, Nat.add_zero, ↓reduceIte, Bool.not_true, Bool.not_false, decide_true, decide_false, eq_self, bne_self_eq_false, List.getElem?_cons_zero, List.getElem?_cons_succ, decide_eq_true_eq, Bool.false_eq_true, Bool.true_eq_false, reduceCtorEq, Nat.le_refl]
  rcases w.flat with ⟨rfl, rfl, rfl⟩ | ⟨hx, hg, hn, rfl⟩
  · rw [loop_run]
    simp only [r261L0, run0, run1, run2, run3, run4, noSlot, memN, RO.dst, lk, drop, forget, number, Nat.reduceBEq, cut?, splice?, builds, List.length_cons, List.length_nil, List.drop_succ_cons, List.drop_zero, List.take_succ_cons, List.take_zero, List.cons_append, List.nil_append, List.append_nil, List.drop_nil, List.take_nil, Nat.reduceAdd, Nat.reduceLeDiff, Nat.zero_add, Nat.add_zero, ↓reduceIte, Bool.not_true, Bool.not_false, decide_true, decide_false, eq_self, bne_self_eq_false, List.getElem?_cons_zero, List.getElem?_cons_succ, decide_eq_true_eq, Bool.false_eq_true, Bool.true_eq_false, reduceCtorEq, Nat.le_refl, show ¬ ((0 : Int) < 0) from by omega]
    exact ⟨h, by simp, Mk.refl _ _, by simpa [Account.marks] using w⟩
  · have hfl : h.floor ≤ x.sid := hlo _ (by simp)
    have key : loop F Z [0, 1, 5] r261L0 ⟨[(0, .c x), (1, .c (.int .i64 (k + 5 * (0 : Nat)))), (5, .c (.int .i64 (0 : Nat)))], [], [], h.put x.sid (mixR Account.enc (Account.marks xs.length k) xs 0)⟩ = loop F Z [0, 1, 5] r261L0 ⟨[(0, .c x), (1, .c (.int .i64 (k + 5 * (xs.length : Nat)))), (5, .c (.int .i64 (xs.length : Nat)))], [], [], h.put x.sid (mixR Account.enc (Account.marks xs.length k) xs xs.length)⟩ :=
      loop_goesF xs.length (fun i => ⟨[(0, .c x), (1, .c (.int .i64 (k + 5 * (i : Nat)))), (5, .c (.int .i64 (i : Nat)))], [], [], h.put x.sid (mixR Account.enc (Account.marks xs.length k) xs i)⟩) fun i hi => by
        have hlt : (i : Int) < xs.length := by omega
        have hi2 : i < (mixR Account.enc (Account.marks xs.length k) xs i).length := by rw [mixR_len _ hlm]; exact hi
        have hms : (Account.marks xs.length k)[i]'(by omega) = Account.mk_ (k + 5 * i) := by simp [Account.marks]
        have hset := mixR_set Account.enc hlm hi
        rw [hms] at hset
        have hput := storeP_put (h := h) hfl hi2
        rw [← mixR_cur Account.enc hlm hi, ← hset, loop_run]
        simp (disch := omega) only [r261L0, run0, run1, run2, run3, run4, noSlot, memN, RO.dst, lk, drop, forget, number, Nat.reduceBEq, cut?, splice?, builds, List.length_cons, List.length_nil, List.drop_succ_cons, List.drop_zero, List.take_succ_cons, List.take_zero, List.cons_append, List.nil_append, List.append_nil, List.drop_nil, List.take_nil, Nat.reduceAdd, Nat.reduceLeDiff, Nat.zero_add, Nat.add_zero, ↓reduceIte, Bool.not_true, Bool.not_false, decide_true, decide_false, eq_self, bne_self_eq_false, List.getElem?_cons_zero, List.getElem?_cons_succ, decide_eq_true_eq, Bool.false_eq_true, Bool.true_eq_false, reduceCtorEq, Nat.le_refl, w.len, hlt, w.idx hi, hput, putM_s, wrapI1, wrapU1, Account.enc, Int.reduceEq, Account.mk_]
        rw [show k + 5 * ((i : Nat) : Int) + 1 + 1 + 1 + 1 + 1 = k + 5 * ((i + 1 : Nat) : Int) from by omega, show ((i : Nat) : Int) + 1 = ((i + 1 : Nat) : Int) from rfl]
    rw [mixR_0, put_same hg, mixR_n _ hlm] at key
    simp only [show ((0 : Nat) : Int) = 0 from rfl, Int.mul_zero, Int.add_zero] at key
    rw [key, loop_run]
    have hlt : ¬ (xs.length : Int) < xs.length := by omega
    simp only [r261L0, run0, run1, run2, run3, run4, noSlot, memN, RO.dst, lk, drop, forget, number, Nat.reduceBEq, cut?, splice?, builds, List.length_cons, List.length_nil, List.drop_succ_cons, List.drop_zero, List.take_succ_cons, List.take_zero, List.cons_append, List.nil_append, List.append_nil, List.drop_nil, List.take_nil, Nat.reduceAdd, Nat.reduceLeDiff, Nat.zero_add, Nat.add_zero, ↓reduceIte, Bool.not_true, Bool.not_false, decide_true, decide_false, eq_self, bne_self_eq_false, List.getElem?_cons_zero, List.getElem?_cons_succ, decide_eq_true_eq, Bool.false_eq_true, Bool.true_eq_false, reduceCtorEq, Nat.le_refl, w.len, hlt]
    refine ⟨_, rfl, Mk.put _ _ _, ?_⟩
    have := SlR.ofFlat (tag := 11) (h := h.put x.sid ((Account.marks xs.length k).map Account.enc)) (enc := Account.enc) (xs := Account.marks xs.length k) (id := x.sid) (by rw [hlm]; exact w.le) (by simp [Heap.put]) hn
    rw [hlm, ← hx] at this
    exact this
set_option maxHeartbeats 1000000 in
theorem heldAccountS_run (hL : Has F tLAccount) {n : Nat} {k : Int} (w : SlR 11 (Fl Account.enc) h x (Account.marks n k) fp) (h1 : 0 ≤ k) (h2 : k + 5 * n ≤ 9200000000000000000) :
    call F Z 262 [.c x, .c (.int .i64 k)] h = some (.c (.int .i64 (k + 5 * n)), h) := by
  have hle := w.le2
  have hwl := w.len
  rw [Account.marks_len] at hle hwl
  rw [call_run F Z (hL.lk (g := 262) rfl) _ _ rfl]
  simp only [run0, run1, run2, run3, run4, noSlot, memN, RO.dst, lk, drop, forget, number, Nat.reduceBEq, cut?, splice?, builds, List.length_cons, List.length_nil, List.drop_succ_cons, List.drop_zero, List.take_succ_cons, List.take_zero, List.cons_append, List.nil_append, List.append_nil, List.drop_nil, List.take_nil, Nat.reduceAdd, Nat.reduceLeDiff, Nat.zero_add, Nat.add_zero, ↓reduceIte, Bool.not_true, Bool.not_false, decide_true, decide_false, eq_self, bne_self_eq_false, List.getElem?_cons_zero, List.getElem?_cons_succ, decide_eq_true_eq, Bool.false_eq_true, Bool.true_eq_false, reduceCtorEq, Nat.le_refl]
  have key : loop F Z [0, 1, 5] r262L0 ⟨[(0, .c x), (1, .c (.int .i64 (k + 5 * (0 : Nat)))), (5, .c (.int .i64 (0 : Nat)))], [], [], h⟩ = loop F Z [0, 1, 5] r262L0 ⟨[(0, .c x), (1, .c (.int .i64 (k + 5 * (n : Nat)))), (5, .c (.int .i64 (n : Nat)))], [], [], h⟩ :=
    loop_goesF n (fun i => ⟨[(0, .c x), (1, .c (.int .i64 (k + 5 * (i : Nat)))), (5, .c (.int .i64 (i : Nat)))], [], [], h⟩) fun i hi0 => by
      have hi : i < (Account.marks n k).length := by rw [Account.marks_len]; exact hi0
      have hlt : (i : Int) < n := by omega
      have hms : (Account.marks n k)[i] = Account.mk_ (k + 5 * i) := by simp [Account.marks]
      have hld := w.load hi
      rw [hms] at hld
      rw [loop_run]
      simp (disch := omega) only [r262L0, run0, run1, run2, run3, run4, noSlot, memN, RO.dst, lk, drop, forget, number, Nat.reduceBEq, cut?, splice?, builds, List.length_cons, List.length_nil, List.drop_succ_cons, List.drop_zero, List.take_succ_cons, List.take_zero, List.cons_append, List.nil_append, List.append_nil, List.drop_nil, List.take_nil, Nat.reduceAdd, Nat.reduceLeDiff, Nat.zero_add, Nat.add_zero, ↓reduceIte, Bool.not_true, Bool.not_false, decide_true, decide_false, eq_self, bne_self_eq_false, List.getElem?_cons_zero, List.getElem?_cons_succ, decide_eq_true_eq, Bool.false_eq_true, Bool.true_eq_false, reduceCtorEq, Nat.le_refl, hwl, hlt, w.idx hi, hld, wrapI1, wrapU1, Account.enc, Account.mk_, Int.reduceEq]
      rw [show k + 5 * ((i : Nat) : Int) + 1 + 1 + 1 + 1 + 1 = k + 5 * ((i + 1 : Nat) : Int) from by omega, show ((i : Nat) : Int) + 1 = ((i + 1 : Nat) : Int) from rfl]
  simp only [show ((0 : Nat) : Int) = 0 from rfl, Int.mul_zero, Int.add_zero] at key
  rw [key, loop_run]
  have hlt : ¬ (n : Int) < n := by omega
  simp only [r262L0, run0, run1, run2, run3, run4, noSlot, memN, RO.dst, lk, drop, forget, number, Nat.reduceBEq, cut?, splice?, builds, List.length_cons, List.length_nil, List.drop_succ_cons, List.drop_zero, List.take_succ_cons, List.take_zero, List.cons_append, List.nil_append, List.append_nil, List.drop_nil, List.take_nil, Nat.reduceAdd, Nat.reduceLeDiff, Nat.zero_add, Nat.add_zero, ↓reduceIte, Bool.not_true, Bool.not_false, decide_true, decide_false, eq_self, bne_self_eq_false, List.getElem?_cons_zero, List.getElem?_cons_succ, decide_eq_true_eq, Bool.false_eq_true, Bool.true_eq_false, reduceCtorEq, Nat.le_refl, hwl, hlt]
end
end Go.Proofs.Ytlfepembgjjejaa.A
/- The data of a Book with its memory, and what its converters compute. -/
namespace Go.Proofs.Ytlfepembgjjejaa.A
open Go
set_option linter.unusedSimpArgs false
set_option linter.unusedVariables false
structure Book where
  list : List Account
  deriving DecidableEq
def Book.RL : Rel Book := fun h cs t fp => ∃ x1 p1, cs = [x1] ∧ fp = p1 ∧ SlR 12 (Fl Account.enc) h x1 t.list p1
theorem Book.okL : RelOk Book.RL where
  lt := by
    rintro h cs t fp ⟨x1, p1, rfl, rfl, w1⟩ id hid
    exact w1.lt (Fl.ok _) id hid
  mv := by
    rintro h h' cs t fp ⟨x1, p1, rfl, rfl, w1⟩ hn hg
    exact ⟨x1, _, rfl, rfl, w1.mv (Fl.ok _) hn hg⟩
def Book.RI : Rel Book := fun h cs t fp => ∃ x1 p1, cs = [x1] ∧ fp = p1 ∧ SlR 11 (Fl Account.enc) h x1 t.list p1
theorem Book.okI : RelOk Book.RI where
  lt := by
    rintro h cs t fp ⟨x1, p1, rfl, rfl, w1⟩ id hid
    exact w1.lt (Fl.ok _) id hid
  mv := by
    rintro h h' cs t fp ⟨x1, p1, rfl, rfl, w1⟩ hn hg
    exact ⟨x1, _, rfl, rfl, w1.mv (Fl.ok _) hn hg⟩
theorem Book.lenL {h : Heap} {cs : List Cell} {t : Book} {fp : List Nat} (v : Book.RL h cs t fp) : cs.length = 1 ∧ cs.take 1 = cs ∧ cs.drop 1 = [] := by
  obtain ⟨x1, p1, rfl, _⟩ := v
  exact ⟨rfl, rfl, rfl⟩
theorem Book.lenI {h : Heap} {cs : List Cell} {t : Book} {fp : List Nat} (v : Book.RI h cs t fp) : cs.length = 1 ∧ cs.take 1 = cs ∧ cs.drop 1 = [] := by
  obtain ⟨x1, p1, rfl, _⟩ := v
  exact ⟨rfl, rfl, rfl⟩
namespace Book
/-- The numbers are those of the machine. -/
structure Ok (t : Book) : Prop where
  list : ∀ a, a ∈ t.list → a.Ok
def Small (t : Book) : Prop := t.list.length ≤ 1048576
def wt (t : Book) : Int := 5 * ((t.list.length : Nat) : Int)
def marked (t : Book) (k : Int) : Book := { t with list := Account.marks t.list.length (k) }
theorem wt_nn (t : Book) : 0 ≤ t.wt := by
  simp only [wt]; omega
theorem wt_le {t : Book} (sm : t.Small) : t.wt ≤ 5242880 := by
  unfold Small at sm
  simp only [wt]; omega
end Book
theorem Wf.isBook {h : Heap} {n : Nat} {cs : List Cell} (w : Wf h (n + 4) shBook cs) : ∃ t fp, Book.RL h cs t fp ∧ t.Ok := by
  obtain ⟨_, _, rfl, _, m1, rfl⟩ := w
  obtain ⟨x1, l1, p1, rfl, w1, o1⟩ := Wf.isAccountS' m1
  exact ⟨⟨l1⟩, _, ⟨x1, _, rfl, rfl, w1⟩, ⟨o1⟩⟩
section
variable {F : Nat → Option RF} {Z : CallF} {h : Heap} {cs cs' : List Cell} {t u : Book} {fp fq : List Nat}
theorem szBook_c (hLBook : Has F tLBook) (hLAccount : Has F tLAccount) (v : Book.RL h cs t fp) (left : Int) (h1 : 0 ≤ left) (h2 : left ≤ 1048576) : ∃ r, call F Z 128 [.agg cs, .c (.int .i64 left)] h = some (.c (.int .i64 r), h) ∧ r ≤ left ∧ (0 ≤ r → t.Small) := by
  obtain ⟨x1, p1, rfl, rfl, w1⟩ := v
  rw [call_run F Z (hLBook.lk (g := 128) rfl) _ _ rfl]
  simp only [run0, run1, run2, run3, run4, noSlot, memN, RO.dst, lk, drop, forget, number, Nat.reduceBEq, cut?, splice?, builds, List.length_cons, List.length_nil, List.drop_succ_cons, List.drop_zero, List.take_succ_cons, List.take_zero, List.cons_append, List.nil_append, List.append_nil, List.drop_nil, List.take_nil, Nat.reduceAdd, Nat.reduceLeDiff, Nat.zero_add, Nat.add_zero, ↓reduceIte, Bool.not_true, Bool.not_false, decide_true, decide_false, eq_self, bne_self_eq_false, List.getElem?_cons_zero, List.getElem?_cons_succ, decide_eq_true_eq, Bool.false_eq_true, Bool.true_eq_false, reduceCtorEq, Nat.le_refl]
  obtain ⟨l0, s0, a0, b0⟩ := szAccountS_c (Z := Z) hLAccount w1 left (by omega) (by omega)
  simp only [run0, run1, run2, run3, run4, noSlot, memN, RO.dst, lk, drop, forget, number, Nat.reduceBEq, cut?, splice?, builds, List.length_cons, List.length_nil, List.drop_succ_cons, List.drop_zero, List.take_succ_cons, List.take_zero, List.cons_append, List.nil_append, List.append_nil, List.drop_nil, List.take_nil, Nat.reduceAdd, Nat.reduceLeDiff, Nat.zero_add, Nat.add_zero, ↓reduceIte, Bool.not_true, Bool.not_false, decide_true, decide_false, eq_self, bne_self_eq_false, List.getElem?_cons_zero, List.getElem?_cons_succ, decide_eq_true_eq, Bool.false_eq_true, Bool.true_eq_false, reduceCtorEq, Nat.le_refl, s0]
  by_cases n0 : l0 < 0
  · simp only [run0, run1, run2, run3, run4, noSlot, memN, RO.dst, lk, drop, forget, number, Nat.reduceBEq, cut?, splice?, builds, List.length_cons, List.length_nil, List.drop_succ_cons, List.drop_zero, List.take_succ_cons, List.take_zero, List.cons_append, List.nil_append, List.append_nil, List.drop_nil, List.take_nil, Nat.reduceAdd, Nat.reduceLeDiff, Nat.zero_add, Nat.add_zero, ↓reduceIte, Bool.not_true, Bool.not_false, decide_true, decide_false, eq_self, bne_self_eq_false, List.getElem?_cons_zero, List.getElem?_cons_succ, decide_eq_true_eq, Bool.false_eq_true, Bool.true_eq_false, reduceCtorEq, Nat.le_refl, n0]
    exact ⟨_, rfl, by omega, by omega⟩
  simp only [run0, run1, run2, run3, run4, noSlot, memN, RO.dst, lk, drop, forget, number, Nat.reduceBEq, cut?, splice?, builds, List.length_cons, List.length_nil, List.drop_succ_cons, List.drop_zero, List.take_succ_cons, List.take_zero, List.cons_append, List.nil_append, List.append_nil, List.drop_nil, List.take_nil, Nat.reduceAdd, Nat.reduceLeDiff, Nat.zero_add, Nat.add_zero, ↓reduceIte, Bool.not_true, Bool.not_false, decide_true, decide_false, eq_self, bne_self_eq_false, List.getElem?_cons_zero, List.getElem?_cons_succ, decide_eq_true_eq, Bool.false_eq_true, Bool.true_eq_false, reduceCtorEq, Nat.le_refl, n0]
  exact ⟨_, rfl, by omega, fun _ => b0 (by omega)⟩
theorem toBook_c (hLBook : Has F tLBook) (hLAccount : Has F tLAccount) (hf : h.floor ≤ h.next) (v : Book.RL h cs t fp) (sm : t.Small) : ∃ cs' h' fq, call F Z 130 [.agg cs] h = some (.agg cs', h') ∧ On h h' ∧ Book.RI h' cs' t fq ∧ Fre h fq := by
  obtain ⟨x1, p1, rfl, rfl, w1⟩ := v
  have sm0 := sm
  obtain ⟨y1, g0, q1, e0, o0, u1, r0⟩ := toAccountS_c (Z := Z) hLAccount hf w1 sm0
  rw [call_run F Z (hLBook.lk (g := 130) rfl) _ _ rfl]
  simp only [run0, run1, run2, run3, run4, noSlot, memN, RO.dst, lk, drop, forget, number, Nat.reduceBEq, cut?, splice?, builds, List.length_cons, List.length_nil, List.drop_succ_cons, List.drop_zero, List.take_succ_cons, List.take_zero, List.cons_append, List.nil_append, List.append_nil, List.drop_nil, List.take_nil, Nat.reduceAdd, Nat.reduceLeDiff, Nat.zero_add, Nat.add_zero, ↓reduceIte, Bool.not_true, Bool.not_false, decide_true, decide_false, eq_self, bne_self_eq_false, List.getElem?_cons_zero, List.getElem?_cons_succ, decide_eq_true_eq, Bool.false_eq_true, Bool.true_eq_false, reduceCtorEq, Nat.le_refl, e0]
  exact ⟨_, _, _, rfl, o0, ⟨y1, _, rfl, rfl, u1⟩, r0⟩
set_option maxHeartbeats 1000000 in
theorem eqBook_r (hLBook : Has F tLBook) (hLAccount : Has F tLAccount) (v : Book.RI h cs t fp) (v' : Book.RI h cs' u fq) : call F Z 133 [.agg cs, .agg cs'] h = some (.c (.bool (decide (t = u))), h) := by
  obtain ⟨x1, p1, rfl, rfl, w1⟩ := v
  obtain ⟨x1', p1', rfl, rfl, w1'⟩ := v'
  obtain ⟨list1⟩ := t
  obtain ⟨list2⟩ := u
  have e0 := eqAccountS_run (Z := Z) hLAccount w1 w1'
  clear w1 w1'
  rw [call_run F Z (hLBook.lk (g := 133) rfl) _ _ rfl]
  simp only [run0, run1, run2, run3, run4, noSlot, memN, RO.dst, lk, drop, forget, number, Nat.reduceBEq, cut?, splice?, builds, List.length_cons, List.length_nil, List.drop_succ_cons, List.drop_zero, List.take_succ_cons, List.take_zero, List.cons_append, List.nil_append, List.append_nil, List.drop_nil, List.take_nil, Nat.reduceAdd, Nat.reduceLeDiff, Nat.zero_add, Nat.add_zero, ↓reduceIte, Bool.not_true, Bool.not_false, decide_true, decide_false, eq_self, bne_self_eq_false, List.getElem?_cons_zero, List.getElem?_cons_succ, decide_eq_true_eq, Bool.false_eq_true, Bool.true_eq_false, reduceCtorEq, Nat.le_refl, e0]
  (repeat' ((first | (rw [gF_if]; split) | (rw [condC_if]; split) | (rw [pickR_if]; split)) <;> (rename_i hh; (try simp only [Bool.not_eq_true, decide_eq_true_eq] at hh); simp only [hh, run0, run1, run2, run3, run4, noSlot, memN, RO.dst, lk, drop, forget, number, Nat.reduceBEq, cut?, splice?, builds, List.length_cons, List.length_nil, List.drop_succ_cons, List.drop_zero, List.take_succ_cons, List.take_zero, List.cons_append, List.nil_append, List.append_nil, List.drop_nil, List.take_nil, Nat.reduceAdd, Nat.reduceLeDiff, Nat.zero_add, Nat.add_zero, ↓reduceIte, Bool.not_true, Bool.not_false, decide_true, decide_false, eq_self, bne_self_eq_false, List.getElem?_cons_zero, List.getElem?_cons_succ, decide_eq_true_eq, Bool.false_eq_true, Bool.true_eq_false, reduceCtorEq, Nat.le_refl, e0]))) <;> clear e0 <;> refine fin_bool ?_ <;> simp_all <;> (try (intros; omega))
theorem markBook_r (hLBook : Has F tLBook) (hLAccount : Has F tLAccount) (v : Book.RI h cs t fp) (nd : fp.Nodup) (hlo : ∀ id, id ∈ fp → h.floor ≤ id) (k : Int) (h1 : 0 ≤ k) (h2 : k + t.wt ≤ 9200000000000000000) : ∃ h', call F Z 231 [.agg cs, .c (.int .i64 k)] h = some (.c (.int .i64 (k + t.wt)), h') ∧ Mk h h' fp ∧ Book.RI h' cs (t.marked k) fp := by
  obtain ⟨x1, p1, rfl, rfl, w1⟩ := v
  simp only [Book.wt] at h2 ⊢
  obtain ⟨h', e0, m0, u1⟩ := markAccountS_run (Z := Z) hLAccount w1 hlo k h1 h2
  rw [call_run F Z (hLBook.lk (g := 231) rfl) _ _ rfl]
  simp only [run0, run1, run2, run3, run4, noSlot, memN, RO.dst, lk, drop, forget, number, Nat.reduceBEq, cut?, splice?, builds, List.length_cons, List.length_nil, List.drop_succ_cons, List.drop_zero, List.take_succ_cons, List.take_zero, List.cons_append, List.nil_append, List.append_nil, List.drop_nil, List.take_nil, Nat.reduceAdd, Nat.reduceLeDiff, Nat.zero_add, Nat.add_zero, ↓reduceIte, Bool.not_true, Bool.not_false, decide_true, decide_false, eq_self, bne_self_eq_false, List.getElem?_cons_zero, List.getElem?_cons_succ, decide_eq_true_eq, Bool.false_eq_true, Bool.true_eq_false, reduceCtorEq, Nat.le_refl, e0]
  exact ⟨_, rfl, m0, ⟨x1, _, rfl, rfl, u1⟩⟩
theorem heldBook_r (hLBook : Has F tLBook) (hLAccount : Has F tLAccount) {k : Int} (v : Book.RI h cs (t.marked k) fp) (h1 : 0 ≤ k) (h2 : k + t.wt ≤ 9200000000000000000) : call F Z 233 [.agg cs, .c (.int .i64 k)] h = some (.c (.int .i64 (k + t.wt)), h) := by
  obtain ⟨x1, p1, rfl, rfl, w1⟩ := v
  simp only [Book.wt] at h2 ⊢
  have e0 := heldAccountS_run (Z := Z) hLAccount w1 h1 h2
  have n0 : ¬ k + 5 * ((t.list.length : Nat) : Int) < 0 := by omega
  rw [call_run F Z (hLBook.lk (g := 233) rfl) _ _ rfl]
  simp only [Book.marked, run0, run1, run2, run3, run4, noSlot, memN, RO.dst, lk, drop, forget, number, Nat.reduceBEq, cut?, splice?, builds, List.length_cons, List.length_nil, List.drop_succ_cons, List.drop_zero, List.take_succ_cons, List.take_zero, List.cons_append, List.nil_append, List.append_nil, List.drop_nil, List.take_nil, Nat.reduceAdd, Nat.reduceLeDiff, Nat.zero_add, Nat.add_zero, ↓reduceIte, Bool.not_true, Bool.not_false, decide_true, decide_false, eq_self, bne_self_eq_false, List.getElem?_cons_zero, List.getElem?_cons_succ, decide_eq_true_eq, Bool.false_eq_true, Bool.true_eq_false, reduceCtorEq, Nat.le_refl] at e0 ⊢
  simp only [run0, run1, run2, run3, run4, noSlot, memN, RO.dst, lk, drop, forget, number, Nat.reduceBEq, cut?, splice?, builds, List.length_cons, List.length_nil, List.drop_succ_cons, List.drop_zero, List.take_succ_cons, List.take_zero, List.cons_append, List.nil_append, List.append_nil, List.drop_nil, List.take_nil, Nat.reduceAdd, Nat.reduceLeDiff, Nat.zero_add, Nat.add_zero, ↓reduceIte, Bool.not_true, Bool.not_false, decide_true, decide_false, eq_self, bne_self_eq_false, List.getElem?_cons_zero, List.getElem?_cons_succ, decide_eq_true_eq, Bool.false_eq_true, Bool.true_eq_false, reduceCtorEq, Nat.le_refl, e0, n0]
end
end Go.Proofs.Ytlfepembgjjejaa.A
/- Is a book right? -/
namespace Go.Proofs.Ytlfepembgjjejaa.A
open Go
set_option linter.unusedSimpArgs false
set_option linter.unusedVariables false
def Account.at_ (xs : List Account) (i : Nat) : Account := xs[i]?.getD Account.none_
/-- Is an account right by itself? -/
def Account.fine (a : Account) : Bool := decide (a.bal + a.hold + a.due ≤ 18446744073709551615) && (decide (0 ≤ a.tx) && (a.tx != 0 || (a.hold == 0 && a.due == 0)))
def Account.fits (xs : List Account) (i : Nat) : Bool := (Account.at_ xs i).fine && (i == 0 || decide ((Account.at_ xs (i - 1)).id < (Account.at_ xs i).id))
def bookOk (xs : List Account) : Bool := (List.range xs.length).all (Account.fits xs) && decide ((xs.length : Int) ≤ 40)
section
variable {F : Nat → Option RF} {Z : CallF} {h : Heap} {x : Cell} {xs : List Account} {fp : List Nat}
set_option maxHeartbeats 4000000 in
theorem isBook_turn (w : SlR 11 (Fl Account.enc) h x xs fp) (hok : ∀ t, t ∈ xs → t.Ok) (i : Nat) (hi : i < xs.length) :
    Turn (loop F Z [1, 10, 11, 12] r265L0 ⟨[(10, .c x), (11, .c (.int .i64 (xs.length : Nat))), (12, .c (.int .i64 (i : Nat)))], [(1, 1, 0)], [(1, [x])], h⟩)
      (loop F Z [1, 10, 11, 12] r265L0 ⟨[(10, .c x), (11, .c (.int .i64 (xs.length : Nat))), (12, .c (.int .i64 ((i + 1 : Nat) : Int)))], [(1, 1, 0)], [(1, [x])], h⟩) (Account.fits xs i) (fun s => lk s.env 2 = some (.c (.bool false)) ∧ s.hp = h) := by
  have hle := w.le2
  have hlt : (i : Int) < xs.length := by omega
  have hws := wrapS i (by omega)
  have o1 := hok _ (List.getElem_mem hi)
  have e1 : Account.at_ xs i = xs[i] := by simp [Account.at_, List.getElem?_eq_getElem hi]
  have hfit : Account.fits xs i = (xs[i].fine && (i == 0 || decide ((Account.at_ xs (i - 1)).id < xs[i].id))) := by simp only [Account.fits, e1]
  have hpre : 0 < i → IntKind.i64.wrap ((i : Int) - 1) = ((i - 1 : Nat) : Int) := fun hp => by rw [wrapI _ (by omega) (by omega)]; omega
  rw [hfit]
  have hxi := w.idx hi
  have hld := w.load hi
  have hpi : 0 < i → idxR 11 (some x) (some ((i - 1 : Nat) : Int)) = some (.ptr x.sid (i - 1) 0) := fun hp => w.idx (by omega)
  have hpl : 0 < i → ∀ j n, loadP h x.sid (i - 1) j n = cut? (Account.at_ xs (i - 1)).enc j n := fun hp => w.loadD Account.none_ (by omega)
  clear w hfit e1 hok
  generalize Account.at_ xs (i - 1) = pa at *
  generalize xs[i] = a at *
  obtain ⟨id, bal, hold, due, tx⟩ := a
  obtain ⟨a1, a2, a3, a4, a5⟩ := o1
  dsimp only at a1 a2 a3 a4 a5
  obtain ⟨b1, _⟩ := a2
  obtain ⟨b2, _⟩ := a3
  obtain ⟨b3, _⟩ := a4
  have hwb : IntKind.u64.wrap (bal + hold) = (bal + hold) % 18446744073709551616 := rfl
  have b4 : 0 ≤ (bal + hold) % 18446744073709551616 := by omega
  have b5 : (0 : Int) ≤ 0 := by omega
  have b6 : (0 : Int) ≤ 1 := by omega
  have hwc : IntKind.u64.wrap ((bal + hold + 0) / 18446744073709551616 + ((bal + hold) % 18446744073709551616 + due + 0) / 18446744073709551616) = (bal + hold + 0) / 18446744073709551616 + ((bal + hold) % 18446744073709551616 + due + 0) / 18446744073709551616 := wrapU _ (by omega) (by omega)
  rw [loop_run]
  conv in (codeF _ _ r265L0 _) => unfold r265L0
  simp only [run0, run1, run2, run3, run4, noSlot, memN, RO.dst, lk, drop, forget, number, Nat.reduceBEq, cut?, splice?, builds, List.length_cons, List.length_nil, List.drop_succ_cons, List.drop_zero, List.take_succ_cons, List.take_zero, List.cons_append, List.nil_append, List.append_nil, List.drop_nil, List.take_nil, Nat.reduceAdd, Nat.reduceLeDiff, Nat.zero_add, Nat.add_zero, ↓reduceIte, Bool.not_true, Bool.not_false, decide_true, decide_false, eq_self, bne_self_eq_false, List.getElem?_cons_zero, List.getElem?_cons_succ, decide_eq_true_eq, Bool.false_eq_true, Bool.true_eq_false, reduceCtorEq, Nat.le_refl, hlt, hxi, hld, Account.enc, b1, b2, b3, b4, b5, b6, and_self, hwb, hwc]
  by_cases hp : 0 < i
  · have g1 : (i : Int) > 0 := by omega
    have hi0 : (i == 0) = false := by simp; omega
    have q1 := hpre hp
    have q2 := hpi hp
    have q3 := hpl hp
    clear hxi hld hpre hpi hpl
    (repeat' ((first | (rw [gF_if]; split) | (rw [condC_if]; split) | (rw [pickR_if]; split)) <;> (rename_i hh; (try simp only [Bool.not_eq_true, decide_eq_true_eq] at hh); simp only [hh, run0, run1, run2, run3, run4, noSlot, memN, RO.dst, lk, drop, forget, number, Nat.reduceBEq, cut?, splice?, builds, List.length_cons, List.length_nil, List.drop_succ_cons, List.drop_zero, List.take_succ_cons, List.take_zero, List.cons_append, List.nil_append, List.append_nil, List.drop_nil, List.take_nil, Nat.reduceAdd, Nat.reduceLeDiff, Nat.zero_add, Nat.add_zero, ↓reduceIte, Bool.not_true, Bool.not_false, decide_true, decide_false, eq_self, bne_self_eq_false, List.getElem?_cons_zero, List.getElem?_cons_succ, decide_eq_true_eq, Bool.false_eq_true, Bool.true_eq_false, reduceCtorEq, Nat.le_refl, hws, g1, q1, q2, q3, Account.enc])))
    all_goals clear q2 q3
    all_goals first
      | (exfalso; omega)
      | exact .inl ⟨by simp_all [Account.fine] <;> omega, rfl⟩
      | exact .inr ⟨by simp_all [Account.fine] <;> omega, _, rfl, rfl, rfl⟩
  · have g1 : ¬ (i : Int) > 0 := by omega
    have hi0 : (i == 0) = true := by simp; omega
    clear hxi hld hpre hpi hpl
    (repeat' ((first | (rw [gF_if]; split) | (rw [condC_if]; split) | (rw [pickR_if]; split)) <;> (rename_i hh; (try simp only [Bool.not_eq_true, decide_eq_true_eq] at hh); simp only [hh, run0, run1, run2, run3, run4, noSlot, memN, RO.dst, lk, drop, forget, number, Nat.reduceBEq, cut?, splice?, builds, List.length_cons, List.length_nil, List.drop_succ_cons, List.drop_zero, List.take_succ_cons, List.take_zero, List.cons_append, List.nil_append, List.append_nil, List.drop_nil, List.take_nil, Nat.reduceAdd, Nat.reduceLeDiff, Nat.zero_add, Nat.add_zero, ↓reduceIte, Bool.not_true, Bool.not_false, decide_true, decide_false, eq_self, bne_self_eq_false, List.getElem?_cons_zero, List.getElem?_cons_succ, decide_eq_true_eq, Bool.false_eq_true, Bool.true_eq_false, reduceCtorEq, Nat.le_refl, hws, g1, Account.enc])))
    all_goals first
      | (exfalso; omega)
      | exact .inl ⟨by simp_all [Account.fine] <;> omega, rfl⟩
      | exact .inr ⟨by simp_all [Account.fine] <;> omega, _, rfl, rfl, rfl⟩
theorem isBook_run (hI10 : Has F tI10) (w : SlR 11 (Fl Account.enc) h x xs fp) (hok : ∀ t, t ∈ xs → t.Ok) : call F Z 265 [.agg [x]] h = some (.c (.bool (bookOk xs)), h) := by
  have key := loop_allN (F := F) (Z := Z) (live := [1, 10, 11, 12]) (b := r265L0) xs.length (fun i => ⟨[(10, .c x), (11, .c (.int .i64 (xs.length : Nat))), (12, .c (.int .i64 (i : Nat)))], [(1, 1, 0)], [(1, [x])], h⟩) (Account.fits xs) (fun s => lk s.env 2 = some (.c (.bool false)) ∧ s.hp = h) fun i hi => isBook_turn w hok i hi
  rw [call_run F Z (hI10.lk (g := 265) rfl) _ _ rfl]
  simp only [run0, run1, run2, run3, run4, noSlot, memN, RO.dst, lk, drop, forget, number, Nat.reduceBEq, cut?, splice?, builds, List.length_cons, List.length_nil, List.drop_succ_cons, List.drop_zero, List.take_succ_cons, List.take_zero, List.cons_append, List.nil_append, List.append_nil, List.drop_nil, List.take_nil, Nat.reduceAdd, Nat.reduceLeDiff, Nat.zero_add, Nat.add_zero, ↓reduceIte, Bool.not_true, Bool.not_false, decide_true, decide_false, eq_self, bne_self_eq_false, List.getElem?_cons_zero, List.getElem?_cons_succ, decide_eq_true_eq, Bool.false_eq_true, Bool.true_eq_false, reduceCtorEq, Nat.le_refl, w.len]
  simp only [show ((0 : Nat) : Int) = 0 from rfl] at key
  have hlt : ¬ (xs.length : Int) < xs.length := by omega
  rcases key with ⟨k1, k2⟩ | ⟨k1, s, k2, k3, k4⟩
  · rw [k2, loop_run]
    conv in (codeF _ _ r265L0 _) => unfold r265L0
    simp only [run0, run1, run2, run3, run4, noSlot, memN, RO.dst, lk, drop, forget, number, Nat.reduceBEq, cut?, splice?, builds, List.length_cons, List.length_nil, List.drop_succ_cons, List.drop_zero, List.take_succ_cons, List.take_zero, List.cons_append, List.nil_append, List.append_nil, List.drop_nil, List.take_nil, Nat.reduceAdd, Nat.reduceLeDiff, Nat.zero_add, Nat.add_zero, ↓reduceIte, Bool.not_true, Bool.not_false, decide_true, decide_false, eq_self, bne_self_eq_false, List.getElem?_cons_zero, List.getElem?_cons_succ, decide_eq_true_eq, Bool.false_eq_true, Bool.true_eq_false, reduceCtorEq, Nat.le_refl, w.len, hlt, bookOk, k1, Bool.true_and]
  · rw [k2]
    simp only [run0, run1, run2, run3, run4, noSlot, memN, RO.dst, lk, drop, forget, number, Nat.reduceBEq, cut?, splice?, builds, List.length_cons, List.length_nil, List.drop_succ_cons, List.drop_zero, List.take_succ_cons, List.take_zero, List.cons_append, List.nil_append, List.append_nil, List.drop_nil, List.take_nil, Nat.reduceAdd, Nat.reduceLeDiff, Nat.zero_add, Nat.add_zero, ↓reduceIte, Bool.not_true, Bool.not_false, decide_true, decide_false, eq_self, bne_self_eq_false, List.getElem?_cons_zero, List.getElem?_cons_succ, decide_eq_true_eq, Bool.false_eq_true, Bool.true_eq_false, reduceCtorEq, Nat.le_refl, k3, k4, bookOk, k1, Bool.false_and]
set_option maxHeartbeats 4000000 in
theorem sBookOk_turn (w : SlR 11 (Fl Account.enc) h x xs fp) (hok : ∀ t, t ∈ xs → t.Ok) (i : Nat) (hi : i < xs.length) :
    Turn (loop F Z [1, 3] r241L0 ⟨[(3, .c (.int .i64 (i : Nat)))], [(1, 1, 0)], [(1, [x])], h⟩)
      (loop F Z [1, 3] r241L0 ⟨[(3, .c (.int .i64 ((i + 1 : Nat) : Int)))], [(1, 1, 0)], [(1, [x])], h⟩) (Account.fits xs i) (fun s => lk s.env 2 = some (.c (.bool false)) ∧ s.hp = h) := by
  have hle := w.le2
  have w0 := w.len
  have hlt : (i : Int) < xs.length := by omega
  have hws := wrapS i (by omega)
  have o1 := hok _ (List.getElem_mem hi)
  have e1 : Account.at_ xs i = xs[i] := by simp [Account.at_, List.getElem?_eq_getElem hi]
  have hfit : Account.fits xs i = (xs[i].fine && (i == 0 || decide ((Account.at_ xs (i - 1)).id < xs[i].id))) := by simp only [Account.fits, e1]
  have hpre : 0 < i → IntKind.i64.wrap ((i : Int) - 1) = ((i - 1 : Nat) : Int) := fun hp => by rw [wrapI _ (by omega) (by omega)]; omega
  rw [hfit]
  have hxi := w.idx hi
  have hld := w.load hi
  have hpi : 0 < i → idxR 11 (some x) (some ((i - 1 : Nat) : Int)) = some (.ptr x.sid (i - 1) 0) := fun hp => w.idx (by omega)
  have hpl : 0 < i → ∀ j n, loadP h x.sid (i - 1) j n = cut? (Account.at_ xs (i - 1)).enc j n := fun hp => w.loadD Account.none_ (by omega)
  clear w hfit e1 hok
  generalize Account.at_ xs (i - 1) = pa at *
  generalize xs[i] = a at *
  obtain ⟨id, bal, hold, due, tx⟩ := a
  obtain ⟨a1, a2, a3, a4, a5⟩ := o1
  dsimp only at a1 a2 a3 a4 a5
  obtain ⟨b1, b1'⟩ := a2
  obtain ⟨b2, _⟩ := a3
  obtain ⟨b3, _⟩ := a4
  have hwb : IntKind.u64.wrap (18446744073709551615 - bal) = 18446744073709551615 - bal := wrapU _ (by omega) (by omega)
  have hwc : hold ≤ 18446744073709551615 - bal → IntKind.u64.wrap (18446744073709551615 - bal - hold) = 18446744073709551615 - bal - hold := fun hh => wrapU _ (by omega) (by omega)
  have hwl := w0
  rw [loop_run]
  conv in (codeF _ _ r241L0 _) => unfold r241L0
  simp only [run0, run1, run2, run3, run4, noSlot, memN, RO.dst, lk, drop, forget, number, Nat.reduceBEq, cut?, splice?, builds, List.length_cons, List.length_nil, List.drop_succ_cons, List.drop_zero, List.take_succ_cons, List.take_zero, List.cons_append, List.nil_append, List.append_nil, List.drop_nil, List.take_nil, Nat.reduceAdd, Nat.reduceLeDiff, Nat.zero_add, Nat.add_zero, ↓reduceIte, Bool.not_true, Bool.not_false, decide_true, decide_false, eq_self, bne_self_eq_false, List.getElem?_cons_zero, List.getElem?_cons_succ, decide_eq_true_eq, Bool.false_eq_true, Bool.true_eq_false, reduceCtorEq, Nat.le_refl, hwl, hlt, hxi, hld, Account.enc, hwb]
  by_cases hp : 0 < i
  · have g1 : (i : Int) > 0 := by omega
    have hi0 : (i == 0) = false := by simp; omega
    have q1 := hpre hp
    have q2 := hpi hp
    have q3 := hpl hp
    clear hxi hld hpre hpi hpl
    (repeat' ((first | (rw [gF_if]; split) | (rw [condC_if]; split) | (rw [pickR_if]; split)) <;> (rename_i hh; (try simp only [Bool.not_eq_true, decide_eq_true_eq] at hh); simp only [hh, run0, run1, run2, run3, run4, noSlot, memN, RO.dst, lk, drop, forget, number, Nat.reduceBEq, cut?, splice?, builds, List.length_cons, List.length_nil, List.drop_succ_cons, List.drop_zero, List.take_succ_cons, List.take_zero, List.cons_append, List.nil_append, List.append_nil, List.drop_nil, List.take_nil, Nat.reduceAdd, Nat.reduceLeDiff, Nat.zero_add, Nat.add_zero, ↓reduceIte, Bool.not_true, Bool.not_false, decide_true, decide_false, eq_self, bne_self_eq_false, List.getElem?_cons_zero, List.getElem?_cons_succ, decide_eq_true_eq, Bool.false_eq_true, Bool.true_eq_false, reduceCtorEq, Nat.le_refl, hws, g1, q1, q2, q3, Account.enc, hwb])))
    all_goals clear q2 q3
    all_goals first
      | (exfalso; omega)
      | exact .inl ⟨by simp_all [Account.fine] <;> omega, rfl⟩
      | exact .inr ⟨by simp_all [Account.fine] <;> omega, _, rfl, rfl, rfl⟩
  · have g1 : ¬ (i : Int) > 0 := by omega
    have hi0 : (i == 0) = true := by simp; omega
    clear hxi hld hpre hpi hpl
    (repeat' ((first | (rw [gF_if]; split) | (rw [condC_if]; split) | (rw [pickR_if]; split)) <;> (rename_i hh; (try simp only [Bool.not_eq_true, decide_eq_true_eq] at hh); simp only [hh, run0, run1, run2, run3, run4, noSlot, memN, RO.dst, lk, drop, forget, number, Nat.reduceBEq, cut?, splice?, builds, List.length_cons, List.length_nil, List.drop_succ_cons, List.drop_zero, List.take_succ_cons, List.take_zero, List.cons_append, List.nil_append, List.append_nil, List.drop_nil, List.take_nil, Nat.reduceAdd, Nat.reduceLeDiff, Nat.zero_add, Nat.add_zero, ↓reduceIte, Bool.not_true, Bool.not_false, decide_true, decide_false, eq_self, bne_self_eq_false, List.getElem?_cons_zero, List.getElem?_cons_succ, decide_eq_true_eq, Bool.false_eq_true, Bool.true_eq_false, reduceCtorEq, Nat.le_refl, hws, g1, Account.enc, hwb])))
    all_goals first
      | (exfalso; omega)
      | exact .inl ⟨by simp_all [Account.fine] <;> omega, rfl⟩
      | exact .inr ⟨by simp_all [Account.fine] <;> omega, _, rfl, rfl, rfl⟩
theorem sBookOk_run (hS10 : Has F tS10) (w : SlR 11 (Fl Account.enc) h x xs fp) (hok : ∀ t, t ∈ xs → t.Ok) : call F Z 241 [.agg [x]] h = some (.c (.bool (bookOk xs)), h) := by
  have key := loop_allN (F := F) (Z := Z) (live := [1, 3]) (b := r241L0) xs.length (fun i => ⟨[(3, .c (.int .i64 (i : Nat)))], [(1, 1, 0)], [(1, [x])], h⟩) (Account.fits xs) (fun s => lk s.env 2 = some (.c (.bool false)) ∧ s.hp = h) fun i hi => sBookOk_turn w hok i hi
  rw [call_run F Z (hS10.lk (g := 241) rfl) _ _ rfl]
  simp only [run0, run1, run2, run3, run4, noSlot, memN, RO.dst, lk, drop, forget, number, Nat.reduceBEq, cut?, splice?, builds, List.length_cons, List.length_nil, List.drop_succ_cons, List.drop_zero, List.take_succ_cons, List.take_zero, List.cons_append, List.nil_append, List.append_nil, List.drop_nil, List.take_nil, Nat.reduceAdd, Nat.reduceLeDiff, Nat.zero_add, Nat.add_zero, ↓reduceIte, Bool.not_true, Bool.not_false, decide_true, decide_false, eq_self, bne_self_eq_false, List.getElem?_cons_zero, List.getElem?_cons_succ, decide_eq_true_eq, Bool.false_eq_true, Bool.true_eq_false, reduceCtorEq, Nat.le_refl, w.len]
  simp only [show ((0 : Nat) : Int) = 0 from rfl] at key
  have hlt : ¬ (xs.length : Int) < xs.length := by omega
  by_cases hn : (xs.length : Int) > 40
  · have : ¬ (xs.length : Int) ≤ 40 := by omega
    simp only [run0, run1, run2, run3, run4, noSlot, memN, RO.dst, lk, drop, forget, number, Nat.reduceBEq, cut?, splice?, builds, List.length_cons, List.length_nil, List.drop_succ_cons, List.drop_zero, List.take_succ_cons, List.take_zero, List.cons_append, List.nil_append, List.append_nil, List.drop_nil, List.take_nil, Nat.reduceAdd, Nat.reduceLeDiff, Nat.zero_add, Nat.add_zero, ↓reduceIte, Bool.not_true, Bool.not_false, decide_true, decide_false, eq_self, bne_self_eq_false, List.getElem?_cons_zero, List.getElem?_cons_succ, decide_eq_true_eq, Bool.false_eq_true, Bool.true_eq_false, reduceCtorEq, Nat.le_refl, hn, bookOk, this, Bool.and_false]
  · have h40 : (xs.length : Int) ≤ 40 := by omega
    simp only [run0, run1, run2, run3, run4, noSlot, memN, RO.dst, lk, drop, forget, number, Nat.reduceBEq, cut?, splice?, builds, List.length_cons, List.length_nil, List.drop_succ_cons, List.drop_zero, List.take_succ_cons, List.take_zero, List.cons_append, List.nil_append, List.append_nil, List.drop_nil, List.take_nil, Nat.reduceAdd, Nat.reduceLeDiff, Nat.zero_add, Nat.add_zero, ↓reduceIte, Bool.not_true, Bool.not_false, decide_true, decide_false, eq_self, bne_self_eq_false, List.getElem?_cons_zero, List.getElem?_cons_succ, decide_eq_true_eq, Bool.false_eq_true, Bool.true_eq_false, reduceCtorEq, Nat.le_refl, hn]
    rcases key with ⟨k1, k2⟩ | ⟨k1, s, k2, k3, k4⟩
    · rw [k2, loop_run]
      conv in (codeF _ _ r241L0 _) => unfold r241L0
      simp only [run0, run1, run2, run3, run4, noSlot, memN, RO.dst, lk, drop, forget, number, Nat.reduceBEq, cut?, splice?, builds, List.length_cons, List.length_nil, List.drop_succ_cons, List.drop_zero, List.take_succ_cons, List.take_zero, List.cons_append, List.nil_append, List.append_nil, List.drop_nil, List.take_nil, Nat.reduceAdd, Nat.reduceLeDiff, Nat.zero_add, Nat.add_zero, ↓reduceIte, Bool.not_true, Bool.not_false, decide_true, decide_false, eq_self, bne_self_eq_false, List.getElem?_cons_zero, List.getElem?_cons_succ, decide_eq_true_eq, Bool.false_eq_true, Bool.true_eq_false, reduceCtorEq, Nat.le_refl, w.len, hlt, bookOk, k1, Bool.true_and, h40]
    · rw [k2]
      simp only [run0, run1, run2, run3, run4, noSlot, memN, RO.dst, lk, drop, forget, number, Nat.reduceBEq, cut?, splice?, builds, List.length_cons, List.length_nil, List.drop_succ_cons, List.drop_zero, List.take_succ_cons, List.take_zero, List.cons_append, List.nil_append, List.append_nil, List.drop_nil, List.take_nil, Nat.reduceAdd, Nat.reduceLeDiff, Nat.zero_add, Nat.add_zero, ↓reduceIte, Bool.not_true, Bool.not_false, decide_true, decide_false, eq_self, bne_self_eq_false, List.getElem?_cons_zero, List.getElem?_cons_succ, decide_eq_true_eq, Bool.false_eq_true, Bool.true_eq_false, reduceCtorEq, Nat.le_refl, k3, k4, bookOk, k1, Bool.false_and]
end
end Go.Proofs.Ytlfepembgjjejaa.A
/- The data of a Shard with its memory, and what its converters compute. -/
namespace Go.Proofs.Ytlfepembgjjejaa.A
open Go
set_option linter.unusedSimpArgs false
set_option linter.unusedVariables false
structure Shard where
  lo : Int
  hi : Int
  state : Int
  epoch : Int
  book : Book
  finished : List Fin
  deriving DecidableEq
def Shard.RL : Rel Shard := fun h cs t fp => ∃ x1 p1 x2 p2, cs = [.int .u64 t.lo, .int .u64 t.hi, .int .i64 t.state, .int .i64 t.epoch, x1, x2] ∧ fp = p1 ++ p2 ∧ SlR 12 (Fl Account.enc) h x1 t.book.list p1 ∧ SlR 10 (Fl Fin.enc) h x2 t.finished p2
theorem Shard.okL : RelOk Shard.RL where
  lt := by
    rintro h cs t fp ⟨x1, p1, x2, p2, rfl, rfl, w1, w2⟩ id hid
    simp only [List.mem_append] at hid
    rcases hid with hid | hid
    · exact w1.lt (Fl.ok _) id hid
    · exact w2.lt (Fl.ok _) id hid
  mv := by
    rintro h h' cs t fp ⟨x1, p1, x2, p2, rfl, rfl, w1, w2⟩ hn hg
    exact ⟨x1, _, x2, _, rfl, rfl, w1.mv (Fl.ok _) hn fun id hid => hg id (by simp [hid]), w2.mv (Fl.ok _) hn fun id hid => hg id (by simp [hid])⟩
def Shard.RI : Rel Shard := fun h cs t fp => ∃ x1 p1 x2 p2, cs = [.int .u64 t.lo, .int .u64 t.hi, .int .i64 t.state, .int .i64 t.epoch, x1, x2] ∧ fp = p1 ++ p2 ∧ SlR 11 (Fl Account.enc) h x1 t.book.list p1 ∧ SlR 9 (Fl Fin.enc) h x2 t.finished p2
theorem Shard.okI : RelOk Shard.RI where
  lt := by
    rintro h cs t fp ⟨x1, p1, x2, p2, rfl, rfl, w1, w2⟩ id hid
    simp only [List.mem_append] at hid
    rcases hid with hid | hid
    · exact w1.lt (Fl.ok _) id hid
    · exact w2.lt (Fl.ok _) id hid
  mv := by
    rintro h h' cs t fp ⟨x1, p1, x2, p2, rfl, rfl, w1, w2⟩ hn hg
    exact ⟨x1, _, x2, _, rfl, rfl, w1.mv (Fl.ok _) hn fun id hid => hg id (by simp [hid]), w2.mv (Fl.ok _) hn fun id hid => hg id (by simp [hid])⟩
theorem Shard.lenL {h : Heap} {cs : List Cell} {t : Shard} {fp : List Nat} (v : Shard.RL h cs t fp) : cs.length = 6 ∧ cs.take 6 = cs ∧ cs.drop 6 = [] := by
  obtain ⟨x1, p1, x2, p2, rfl, _⟩ := v
  exact ⟨rfl, rfl, rfl⟩
theorem Shard.lenI {h : Heap} {cs : List Cell} {t : Shard} {fp : List Nat} (v : Shard.RI h cs t fp) : cs.length = 6 ∧ cs.take 6 = cs ∧ cs.drop 6 = [] := by
  obtain ⟨x1, p1, x2, p2, rfl, _⟩ := v
  exact ⟨rfl, rfl, rfl⟩
namespace Shard
/-- The numbers are those of the machine. -/
structure Ok (t : Shard) : Prop where
  lo : 0 ≤ t.lo ∧ t.lo ≤ 18446744073709551615
  hi : 0 ≤ t.hi ∧ t.hi ≤ 18446744073709551615
  state : -9223372036854775808 ≤ t.state ∧ t.state ≤ 9223372036854775807
  epoch : -9223372036854775808 ≤ t.epoch ∧ t.epoch ≤ 9223372036854775807
  book : t.book.Ok
  finished : ∀ a, a ∈ t.finished → a.Ok
def Small (t : Shard) : Prop := t.book.Small ∧ t.finished.length ≤ 1048576
def wt (t : Shard) : Int := t.book.wt + 2 * ((t.finished.length : Nat) : Int)
def marked (t : Shard) (k : Int) : Shard := { t with book := t.book.marked (k), finished := Fin.marks t.finished.length (k + t.book.wt) }
theorem wt_nn (t : Shard) : 0 ≤ t.wt := by
  have := t.book.wt_nn
  simp only [wt]; omega
theorem wt_le {t : Shard} (sm : t.Small) : t.wt ≤ 7340032 := by
  unfold Small at sm
  have := Book.wt_le sm.1
  simp only [wt]; omega
end Shard
theorem Wf.isShard {h : Heap} {n : Nat} {cs : List Cell} (w : Wf h (n + 5) shShard cs) : ∃ t fp, Shard.RL h cs t fp ∧ t.Ok := by
  obtain ⟨_, _, rfl, _, ⟨i1, rfl, j1⟩, _, _, rfl, _, ⟨i2, rfl, j2⟩, _, _, rfl, _, ⟨i3, rfl, j3⟩, _, _, rfl, _, ⟨i4, rfl, j4⟩, _, _, rfl, _, ⟨_, _, rfl, _, m5, rfl⟩, _, _, rfl, _, m6, rfl⟩ := w
  obtain ⟨x1, l1, p1, rfl, w1, o1⟩ := Wf.isAccountS' m5
  obtain ⟨x2, l2, p2, rfl, w2, o2⟩ := Wf.isFinS' m6
  exact ⟨⟨i1, i2, i3, i4, ⟨l1⟩, l2⟩, _, ⟨x1, _, x2, _, rfl, rfl, w1, w2⟩, ⟨wfU j1, wfU j2, wfI j3, wfI j4, ⟨o1⟩, o2⟩⟩
section
variable {F : Nat → Option RF} {Z : CallF} {h : Heap} {cs cs' : List Cell} {t u : Shard} {fp fq : List Nat}
theorem szShard_c (hLShard : Has F tLShard) (hLBook : Has F tLBook) (hLAccount : Has F tLAccount) (hLFin : Has F tLFin) (v : Shard.RL h cs t fp) (left : Int) (h1 : 0 ≤ left) (h2 : left ≤ 1048576) : ∃ r, call F Z 111 [.agg cs, .c (.int .i64 left)] h = some (.c (.int .i64 r), h) ∧ r ≤ left ∧ (0 ≤ r → t.Small) := by
  obtain ⟨x1, p1, x2, p2, rfl, rfl, w1, w2⟩ := v
  rw [call_run F Z (hLShard.lk (g := 111) rfl) _ _ rfl]
  simp only [run0, run1, run2, run3, run4, noSlot, memN, RO.dst, lk, drop, forget, number, Nat.reduceBEq, cut?, splice?, builds, List.length_cons, List.length_nil, List.drop_succ_cons, List.drop_zero, List.take_succ_cons, List.take_zero, List.cons_append, List.nil_append, List.append_nil, List.drop_nil, List.take_nil, Nat.reduceAdd, Nat.reduceLeDiff, Nat.zero_add, Nat.add_zero, ↓reduceIte, Bool.not_true, Bool.not_false, decide_true, decide_false, eq_self, bne_self_eq_false, List.getElem?_cons_zero, List.getElem?_cons_succ, decide_eq_true_eq, Bool.false_eq_true, Bool.true_eq_false, reduceCtorEq, Nat.le_refl]
  obtain ⟨l0, s0, a0, b0⟩ := szBook_c (Z := Z) hLBook hLAccount (⟨x1, _, rfl, rfl, w1⟩ : Book.RL _ _ _ _) left (by omega) (by omega)
  simp only [run0, run1, run2, run3, run4, noSlot, memN, RO.dst, lk, drop, forget, number, Nat.reduceBEq, cut?, splice?, builds, List.length_cons, List.length_nil, List.drop_succ_cons, List.drop_zero, List.take_succ_cons, List.take_zero, List.cons_append, List.nil_append, List.append_nil, List.drop_nil, List.take_nil, Nat.reduceAdd, Nat.reduceLeDiff, Nat.zero_add, Nat.add_zero, ↓reduceIte, Bool.not_true, Bool.not_false, decide_true, decide_false, eq_self, bne_self_eq_false, List.getElem?_cons_zero, List.getElem?_cons_succ, decide_eq_true_eq, Bool.false_eq_true, Bool.true_eq_false, reduceCtorEq, Nat.le_refl, s0]
  by_cases n0 : l0 < 0
  · simp only [run0, run1, run2, run3, run4, noSlot, memN, RO.dst, lk, drop, forget, number, Nat.reduceBEq, cut?, splice?, builds, List.length_cons, List.length_nil, List.drop_succ_cons, List.drop_zero, List.take_succ_cons, List.take_zero, List.cons_append, List.nil_append, List.append_nil, List.drop_nil, List.take_nil, Nat.reduceAdd, Nat.reduceLeDiff, Nat.zero_add, Nat.add_zero, ↓reduceIte, Bool.not_true, Bool.not_false, decide_true, decide_false, eq_self, bne_self_eq_false, List.getElem?_cons_zero, List.getElem?_cons_succ, decide_eq_true_eq, Bool.false_eq_true, Bool.true_eq_false, reduceCtorEq, Nat.le_refl, n0]
    exact ⟨_, rfl, by omega, by omega⟩
  obtain ⟨l1, s1, a1, b1⟩ := szFinS_c (Z := Z) hLFin w2 l0 (by omega) (by omega)
  simp only [run0, run1, run2, run3, run4, noSlot, memN, RO.dst, lk, drop, forget, number, Nat.reduceBEq, cut?, splice?, builds, List.length_cons, List.length_nil, List.drop_succ_cons, List.drop_zero, List.take_succ_cons, List.take_zero, List.cons_append, List.nil_append, List.append_nil, List.drop_nil, List.take_nil, Nat.reduceAdd, Nat.reduceLeDiff, Nat.zero_add, Nat.add_zero, ↓reduceIte, Bool.not_true, Bool.not_false, decide_true, decide_false, eq_self, bne_self_eq_false, List.getElem?_cons_zero, List.getElem?_cons_succ, decide_eq_true_eq, Bool.false_eq_true, Bool.true_eq_false, reduceCtorEq, Nat.le_refl, s1, n0]
  by_cases n1 : l1 < 0
  · simp only [run0, run1, run2, run3, run4, noSlot, memN, RO.dst, lk, drop, forget, number, Nat.reduceBEq, cut?, splice?, builds, List.length_cons, List.length_nil, List.drop_succ_cons, List.drop_zero, List.take_succ_cons, List.take_zero, List.cons_append, List.nil_append, List.append_nil, List.drop_nil, List.take_nil, Nat.reduceAdd, Nat.reduceLeDiff, Nat.zero_add, Nat.add_zero, ↓reduceIte, Bool.not_true, Bool.not_false, decide_true, decide_false, eq_self, bne_self_eq_false, List.getElem?_cons_zero, List.getElem?_cons_succ, decide_eq_true_eq, Bool.false_eq_true, Bool.true_eq_false, reduceCtorEq, Nat.le_refl, n1]
    exact ⟨_, rfl, by omega, by omega⟩
  simp only [run0, run1, run2, run3, run4, noSlot, memN, RO.dst, lk, drop, forget, number, Nat.reduceBEq, cut?, splice?, builds, List.length_cons, List.length_nil, List.drop_succ_cons, List.drop_zero, List.take_succ_cons, List.take_zero, List.cons_append, List.nil_append, List.append_nil, List.drop_nil, List.take_nil, Nat.reduceAdd, Nat.reduceLeDiff, Nat.zero_add, Nat.add_zero, ↓reduceIte, Bool.not_true, Bool.not_false, decide_true, decide_false, eq_self, bne_self_eq_false, List.getElem?_cons_zero, List.getElem?_cons_succ, decide_eq_true_eq, Bool.false_eq_true, Bool.true_eq_false, reduceCtorEq, Nat.le_refl, n1]
  exact ⟨_, rfl, by omega, fun _ => ⟨b0 (by omega), b1 (by omega)⟩⟩
theorem toShard_c (hLShard : Has F tLShard) (hLBook : Has F tLBook) (hLAccount : Has F tLAccount) (hLFin : Has F tLFin) (hf : h.floor ≤ h.next) (v : Shard.RL h cs t fp) (sm : t.Small) : ∃ cs' h' fq, call F Z 112 [.agg cs] h = some (.agg cs', h') ∧ On h h' ∧ Shard.RI h' cs' t fq ∧ Fre h fq := by
  obtain ⟨x1, p1, x2, p2, rfl, rfl, w1, w2⟩ := v
  obtain ⟨sm0, sm1⟩ := sm
  obtain ⟨_, g0, _, e0, o0, ⟨y1, q1, rfl, rfl, u1⟩, r0⟩ := toBook_c (Z := Z) hLBook hLAccount hf (⟨x1, _, rfl, rfl, w1⟩ : Book.RL _ _ _ _) sm0
  replace w2 := w2.on (Fl.ok _) o0
  have f0 := o0.le hf
  obtain ⟨y2, g1, q2, e1, o1, u2, r1⟩ := toFinS_c (Z := Z) hLFin f0 w2 sm1
  have v1 := u1
  replace u1 := u1.on (Fl.ok _) o1
  rw [call_run F Z (hLShard.lk (g := 112) rfl) _ _ rfl]
  simp only [run0, run1, run2, run3, run4, noSlot, memN, RO.dst, lk, drop, forget, number, Nat.reduceBEq, cut?, splice?, builds, List.length_cons, List.length_nil, List.drop_succ_cons, List.drop_zero, List.take_succ_cons, List.take_zero, List.cons_append, List.nil_append, List.append_nil, List.drop_nil, List.take_nil, Nat.reduceAdd, Nat.reduceLeDiff, Nat.zero_add, Nat.add_zero, ↓reduceIte, Bool.not_true, Bool.not_false, decide_true, decide_false, eq_self, bne_self_eq_false, List.getElem?_cons_zero, List.getElem?_cons_succ, decide_eq_true_eq, Bool.false_eq_true, Bool.true_eq_false, reduceCtorEq, Nat.le_refl, e0, e1]
  exact ⟨_, _, _, rfl, o0.trans o1, ⟨y1, _, y2, _, rfl, rfl, u1, u2⟩, Fre.app r0 (Book.okI.lt (⟨y1, _, rfl, rfl, v1⟩ : Book.RI g0 _ t.book _)) r1 o0.ext.1⟩
set_option maxHeartbeats 1000000 in
theorem eqShard_r (hLShard : Has F tLShard) (hLBook : Has F tLBook) (hLAccount : Has F tLAccount) (hLFin : Has F tLFin) (v : Shard.RI h cs t fp) (v' : Shard.RI h cs' u fq) : call F Z 114 [.agg cs, .agg cs'] h = some (.c (.bool (decide (t = u))), h) := by
  obtain ⟨x1, p1, x2, p2, rfl, rfl, w1, w2⟩ := v
  obtain ⟨x1', p1', x2', p2', rfl, rfl, w1', w2'⟩ := v'
  obtain ⟨lo1, hi1, state1, epoch1, book1, finished1⟩ := t
  obtain ⟨lo2, hi2, state2, epoch2, book2, finished2⟩ := u
  have e0 := eqBook_r (Z := Z) hLBook hLAccount (⟨x1, _, rfl, rfl, w1⟩ : Book.RI h _ book1 _) (⟨x1', _, rfl, rfl, w1'⟩ : Book.RI h _ book2 _)
  have e1 := eqFinS_run (Z := Z) hLFin w2 w2'
  clear w1 w1' w2 w2'
  rw [call_run F Z (hLShard.lk (g := 114) rfl) _ _ rfl]
  simp only [run0, run1, run2, run3, run4, noSlot, memN, RO.dst, lk, drop, forget, number, Nat.reduceBEq, cut?, splice?, builds, List.length_cons, List.length_nil, List.drop_succ_cons, List.drop_zero, List.take_succ_cons, List.take_zero, List.cons_append, List.nil_append, List.append_nil, List.drop_nil, List.take_nil, Nat.reduceAdd, Nat.reduceLeDiff, Nat.zero_add, Nat.add_zero, ↓reduceIte, Bool.not_true, Bool.not_false, decide_true, decide_false, eq_self, bne_self_eq_false, List.getElem?_cons_zero, List.getElem?_cons_succ, decide_eq_true_eq, Bool.false_eq_true, Bool.true_eq_false, reduceCtorEq, Nat.le_refl, e0, e1]
  (repeat' ((first | (rw [gF_if]; split) | (rw [condC_if]; split) | (rw [pickR_if]; split)) <;> (rename_i hh; (try simp only [Bool.not_eq_true, decide_eq_true_eq] at hh); simp only [hh, run0, run1, run2, run3, run4, noSlot, memN, RO.dst, lk, drop, forget, number, Nat.reduceBEq, cut?, splice?, builds, List.length_cons, List.length_nil, List.drop_succ_cons, List.drop_zero, List.take_succ_cons, List.take_zero, List.cons_append, List.nil_append, List.append_nil, List.drop_nil, List.take_nil, Nat.reduceAdd, Nat.reduceLeDiff, Nat.zero_add, Nat.add_zero, ↓reduceIte, Bool.not_true, Bool.not_false, decide_true, decide_false, eq_self, bne_self_eq_false, List.getElem?_cons_zero, List.getElem?_cons_succ, decide_eq_true_eq, Bool.false_eq_true, Bool.true_eq_false, reduceCtorEq, Nat.le_refl, e0, e1]))) <;> clear e0 e1 <;> refine fin_bool ?_ <;> simp_all <;> (try (intros; omega))
theorem markShard_r (hLShard : Has F tLShard) (hLBook : Has F tLBook) (hLAccount : Has F tLAccount) (hLFin : Has F tLFin) (v : Shard.RI h cs t fp) (nd : fp.Nodup) (hlo : ∀ id, id ∈ fp → h.floor ≤ id) (k : Int) (h1 : 0 ≤ k) (h2 : k + t.wt ≤ 9200000000000000000) : ∃ h', call F Z 192 [.agg cs, .c (.int .i64 k)] h = some (.c (.int .i64 (k + t.wt)), h') ∧ Mk h h' fp ∧ Shard.RI h' cs (t.marked k) fp := by
  obtain ⟨x1, p1, x2, p2, rfl, rfl, w1, w2⟩ := v
  simp only [Shard.wt] at h2 ⊢
  obtain ⟨nd1, nd2, nd3⟩ := List.nodup_append.1 nd
  have := t.book.wt_nn
  obtain ⟨g1, e0, m0, ⟨y1, q1, uc, uq, u1⟩⟩ := markBook_r (Z := Z) hLBook hLAccount (⟨x1, _, rfl, rfl, w1⟩ : Book.RI h _ t.book _) nd1 (fun id hid => hlo id (by simp [hid])) (k) (by omega) (by omega)
  simp only [List.cons.injEq, and_true] at uc
  subst uc
  subst uq
  have w2' := w2.mk (Fl.ok _) m0 (fun id h1 h2 => nd3 id h2 id h1 rfl)
  obtain ⟨g2, e1, m1, u2⟩ := markFinS_run (Z := Z) hLFin w2' (fun id hid => by rw [m0.fl]; exact hlo id (by simp [hid])) (k + t.book.wt) (by omega) (by omega)
  have u1' := u1.mk (Fl.ok _) m1 (fun id h1 h2 => nd3 id h1 id h2 rfl)
  rw [call_run F Z (hLShard.lk (g := 192) rfl) _ _ rfl]
  simp only [run0, run1, run2, run3, run4, noSlot, memN, RO.dst, lk, drop, forget, number, Nat.reduceBEq, cut?, splice?, builds, List.length_cons, List.length_nil, List.drop_succ_cons, List.drop_zero, List.take_succ_cons, List.take_zero, List.cons_append, List.nil_append, List.append_nil, List.drop_nil, List.take_nil, Nat.reduceAdd, Nat.reduceLeDiff, Nat.zero_add, Nat.add_zero, ↓reduceIte, Bool.not_true, Bool.not_false, decide_true, decide_false, eq_self, bne_self_eq_false, List.getElem?_cons_zero, List.getElem?_cons_succ, decide_eq_true_eq, Bool.false_eq_true, Bool.true_eq_false, reduceCtorEq, Nat.le_refl, e0, e1]
  exact ⟨g2, by rw [Int.add_assoc], m0.trans m1, ⟨x1, _, x2, _, rfl, rfl, u1', u2⟩⟩
theorem heldShard_r (hLShard : Has F tLShard) (hLBook : Has F tLBook) (hLAccount : Has F tLAccount) (hLFin : Has F tLFin) {k : Int} (v : Shard.RI h cs (t.marked k) fp) (h1 : 0 ≤ k) (h2 : k + t.wt ≤ 9200000000000000000) : call F Z 193 [.agg cs, .c (.int .i64 k)] h = some (.c (.int .i64 (k + t.wt)), h) := by
  obtain ⟨x1, p1, x2, p2, rfl, rfl, w1, w2⟩ := v
  simp only [Shard.wt] at h2 ⊢
  have := t.book.wt_nn
  have e0 := heldBook_r (Z := Z) hLBook hLAccount (t := t.book) (⟨x1, _, rfl, rfl, w1⟩ : Book.RI h _ (t.book.marked k) _) h1 (by omega)
  have e1 := heldFinS_run (Z := Z) hLFin (n := t.finished.length) (k := k + t.book.wt) w2 (by omega) (by omega)
  have n0 : ¬ k + t.book.wt < 0 := by omega
  have n1 : ¬ k + t.book.wt + 2 * ((t.finished.length : Nat) : Int) < 0 := by omega
  rw [call_run F Z (hLShard.lk (g := 193) rfl) _ _ rfl]
  simp only [run0, run1, run2, run3, run4, noSlot, memN, RO.dst, lk, drop, forget, number, Nat.reduceBEq, cut?, splice?, builds, List.length_cons, List.length_nil, List.drop_succ_cons, List.drop_zero, List.take_succ_cons, List.take_zero, List.cons_append, List.nil_append, List.append_nil, List.drop_nil, List.take_nil, Nat.reduceAdd, Nat.reduceLeDiff, Nat.zero_add, Nat.add_zero, ↓reduceIte, Bool.not_true, Bool.not_false, decide_true, decide_false, eq_self, bne_self_eq_false, List.getElem?_cons_zero, List.getElem?_cons_succ, decide_eq_true_eq, Bool.false_eq_true, Bool.true_eq_false, reduceCtorEq, Nat.le_refl, e0, n0, e1, n1, ← Int.add_assoc]
end
end Go.Proofs.Ytlfepembgjjejaa.A
/- Fins in order. -/
namespace Go.Proofs.Ytlfepembgjjejaa.A
open Go
set_option linter.unusedSimpArgs false
set_option linter.unusedVariables false
def Fin.at_ (xs : List Fin) (i : Nat) : Fin := xs[i]?.getD Fin.none_
/-- May an account be in a shard? -/
def Shard.acc (s : Shard) (a : Account) : Bool := decide (s.lo ≤ a.id) && (decide (a.id ≤ s.hi) && !decide ((⟨a.tx, a.id⟩ : Fin) ∈ s.finished))
def Shard.finAt (s : Shard) (i : Nat) : Bool := decide (1 ≤ (Fin.at_ s.finished i).tx) && (decide (s.lo ≤ (Fin.at_ s.finished i).id) && (decide ((Fin.at_ s.finished i).id ≤ s.hi) && (i == 0 || decide (cmpFin (Fin.at_ s.finished (i - 1)) (Fin.at_ s.finished i) < 0))))
section
variable {F : Nat → Option RF} {Z : CallF} {h : Heap} {x : Cell} {xs : List Fin} {fp : List Nat}
theorem compareFins_run (hI13 : Has F tI13) (h1 : Has F tLibcmpCompareint) (h2 : Has F tLibcmpCompareuint64) (h3 : Has F tLibcmpOrint) (h4 : Has F tLibcmpisNaNint) (h5 : Has F tLibcmpisNaNuint64) (f g : Fin) (h : Heap) :
    call F Z 267 [.agg f.enc, .agg g.enc] h = some (.c (.int .i64 (cmpFin f g)), h.push [[.int .i64 (cmpI f.tx g.tx)], [.int .i64 (cmpI f.id g.id)]]) := by
  obtain ⟨t, d⟩ := f
  obtain ⟨t', d'⟩ := g
  have ho := Or2_run (Z := Z) (h := ⟨(h.push [[.int .i64 (cmpI t t')], [.int .i64 (cmpI d d')]]).next, (h.push [[.int .i64 (cmpI t t')], [.int .i64 (cmpI d d')]]).next, (h.push [[.int .i64 (cmpI t t')], [.int .i64 (cmpI d d')]]).get⟩) h3 (o := h.next) (cmpI t t') (cmpI d d') (push_get _ _)
  rw [call_run F Z (hI13.lk (g := 267) rfl) _ _ rfl]
  simp only [run0, run1, run2, run3, run4, noSlot, memN, RO.dst, lk, drop, forget, number, Nat.reduceBEq, cut?, splice?, builds, List.length_cons, List.length_nil, List.drop_succ_cons, List.drop_zero, List.take_succ_cons, List.take_zero, List.cons_append, List.nil_append, List.append_nil, List.drop_nil, List.take_nil, Nat.reduceAdd, Nat.reduceLeDiff, Nat.zero_add, Nat.add_zero, ↓reduceIte, Bool.not_true, Bool.not_false, decide_true, decide_false, eq_self, bne_self_eq_false, List.getElem?_cons_zero, List.getElem?_cons_succ, decide_eq_true_eq, Bool.false_eq_true, Bool.true_eq_false, reduceCtorEq, Nat.le_refl, Fin.enc, Compare_int_run h1 h4, Compare_u64_run h2 h5, List.replicate_succ, List.replicate_zero, fills, and_self, Nat.zero_lt_succ, Nat.reduceLT, List.set_cons_zero, List.set_cons_succ, ho]
  rfl
variable {s : Shard} {y : Cell} {fq : List Nat}
set_option maxHeartbeats 2000000 in
theorem isShard_accs (hL : Has F tLibslicesIndeximplFinimplFin) (hC : Has F tLibslicesContainsimplFinimplFin) (w : SlR 11 (Fl Account.enc) h x s.book.list fp) (v : SlR 9 (Fl Fin.enc) h y s.finished fq) :
    Turn (loop F Z [1, 46, 47, 48] r244L1 ⟨[(46, .c x), (47, .c (.int .i64 (s.book.list.length : Nat))), (48, .c (.int .i64 (0 : Nat)))], [(1, 1, 0)], [(1, [.int .u64 s.lo, .int .u64 s.hi, .int .i64 s.state, .int .i64 s.epoch, x, y])], h⟩)
      (loop F Z [1, 46, 47, 48] r244L1 ⟨[(46, .c x), (47, .c (.int .i64 (s.book.list.length : Nat))), (48, .c (.int .i64 (s.book.list.length : Nat)))], [(1, 1, 0)], [(1, [.int .u64 s.lo, .int .u64 s.hi, .int .i64 s.state, .int .i64 s.epoch, x, y])], h⟩) (s.book.list.all s.acc) (fun s => lk s.env 2 = some (.c (.bool false)) ∧ s.hp = h) := by
  have hle := w.le2
  refine loop_all (F := F) (Z := Z) (live := [1, 46, 47, 48]) (b := r244L1) s.book.list (fun i => ⟨[(46, .c x), (47, .c (.int .i64 (s.book.list.length : Nat))), (48, .c (.int .i64 (i : Nat)))], [(1, 1, 0)], [(1, [.int .u64 s.lo, .int .u64 s.hi, .int .i64 s.state, .int .i64 s.epoch, x, y])], h⟩) s.acc _ fun i hi => ?_
  have hlt : (i : Int) < s.book.list.length := by omega
  have hws := wrapS i (by omega)
  have hxi := w.idx hi
  have hld := w.load hi
  have hc : ∀ t d, call F Z 266 [.c y, .agg [.int .i64 t, .int .u64 d]] h = some (.c (.bool (decide ((⟨t, d⟩ : Fin) ∈ s.finished))), h) := fun t d => containsFin_run hL hC v ⟨t, d⟩
  rw [loop_run]
  conv in (codeF _ _ r244L1 _) => unfold r244L1
  simp only [run0, run1, run2, run3, run4, noSlot, memN, RO.dst, lk, drop, forget, number, Nat.reduceBEq, cut?, splice?, builds, List.length_cons, List.length_nil, List.drop_succ_cons, List.drop_zero, List.take_succ_cons, List.take_zero, List.cons_append, List.nil_append, List.append_nil, List.drop_nil, List.take_nil, Nat.reduceAdd, Nat.reduceLeDiff, Nat.zero_add, Nat.add_zero, ↓reduceIte, Bool.not_true, Bool.not_false, decide_true, decide_false, eq_self, bne_self_eq_false, List.getElem?_cons_zero, List.getElem?_cons_succ, decide_eq_true_eq, Bool.false_eq_true, Bool.true_eq_false, reduceCtorEq, Nat.le_refl, hlt, hxi, hld, Account.enc, hc]
  generalize s.book.list[i] = a
  clear hxi hld w v
  (repeat' ((first | (rw [gF_if]; split) | (rw [condC_if]; split) | (rw [pickR_if]; split)) <;> (rename_i hh; (try simp only [Bool.not_eq_true, decide_eq_true_eq] at hh); simp only [hh, run0, run1, run2, run3, run4, noSlot, memN, RO.dst, lk, drop, forget, number, Nat.reduceBEq, cut?, splice?, builds, List.length_cons, List.length_nil, List.drop_succ_cons, List.drop_zero, List.take_succ_cons, List.take_zero, List.cons_append, List.nil_append, List.append_nil, List.drop_nil, List.take_nil, Nat.reduceAdd, Nat.reduceLeDiff, Nat.zero_add, Nat.add_zero, ↓reduceIte, Bool.not_true, Bool.not_false, decide_true, decide_false, eq_self, bne_self_eq_false, List.getElem?_cons_zero, List.getElem?_cons_succ, decide_eq_true_eq, Bool.false_eq_true, Bool.true_eq_false, reduceCtorEq, Nat.le_refl, hws, hc]))) <;> clear hc <;> first
    | exact .inl ⟨by simp_all [Shard.acc] <;> omega, rfl⟩
    | exact .inr ⟨by simp_all [Shard.acc] <;> omega, _, rfl, rfl, rfl⟩
set_option maxHeartbeats 4000000 in
theorem isShard_fins (hI13 : Has F tI13) (h1 : Has F tLibcmpCompareint) (h2 : Has F tLibcmpCompareuint64) (h3 : Has F tLibcmpOrint) (h4 : Has F tLibcmpisNaNint) (h5 : Has F tLibcmpisNaNuint64) (v : SlR 9 (Fl Fin.enc) h y s.finished fq) :
    (∃ s', (∃ g, s' = ⟨[(76, .c y), (77, .c (.int .i64 (s.finished.length : Nat))), (78, .c (.int .i64 (s.finished.length : Nat)))], [(1, 1, 0)], [(1, [.int .u64 s.lo, .int .u64 s.hi, .int .i64 s.state, .int .i64 s.epoch, x, y])], g⟩ ∧ On h g ∧ ∀ j, j < s.finished.length → s.finAt j = true) ∧
        loop F Z [1, 76, 77, 78] r244L0 ⟨[(76, .c y), (77, .c (.int .i64 (s.finished.length : Nat))), (78, .c (.int .i64 (0 : Nat)))], [(1, 1, 0)], [(1, [.int .u64 s.lo, .int .u64 s.hi, .int .i64 s.state, .int .i64 s.epoch, x, y])], h⟩ = loop F Z [1, 76, 77, 78] r244L0 s') ∨
      ∃ s', loop F Z [1, 76, 77, 78] r244L0 ⟨[(76, .c y), (77, .c (.int .i64 (s.finished.length : Nat))), (78, .c (.int .i64 (0 : Nat)))], [(1, 1, 0)], [(1, [.int .u64 s.lo, .int .u64 s.hi, .int .i64 s.state, .int .i64 s.epoch, x, y])], h⟩ = some (.ret, s') ∧ (lk s'.env 2 = some (.c (.bool false)) ∧ On h s'.hp ∧ ∃ j, j < s.finished.length ∧ s.finAt j = false) := by
  have hle := v.le2
  refine loop_rel (F := F) (Z := Z) (live := [1, 76, 77, 78]) (b := r244L0) s.finished.length (fun i s' => ∃ g, s' = ⟨[(76, .c y), (77, .c (.int .i64 (s.finished.length : Nat))), (78, .c (.int .i64 (i : Nat)))], [(1, 1, 0)], [(1, [.int .u64 s.lo, .int .u64 s.hi, .int .i64 s.state, .int .i64 s.epoch, x, y])], g⟩ ∧ On h g ∧ ∀ j, j < i → s.finAt j = true) _ (fun i s' hi ⟨g, hs, og, hall⟩ => ?_) ⟨h, rfl, On.refl h, fun j hj => absurd hj (Nat.not_lt_zero _)⟩
  subst hs
  have hlt : (i : Int) < s.finished.length := by omega
  have hws := wrapS i (by omega)
  have hxi := v.idx hi
  have vg := v.on (Fl.ok _) og
  have hld : ∀ j n, loadP g y.sid i j n = cut? (Fin.at_ s.finished i).enc j n := vg.loadD Fin.none_ hi
  have hfin : s.finAt i = (decide (1 ≤ (Fin.at_ s.finished i).tx) && (decide (s.lo ≤ (Fin.at_ s.finished i).id) && (decide ((Fin.at_ s.finished i).id ≤ s.hi) && (i == 0 || decide (cmpFin (Fin.at_ s.finished (i - 1)) (Fin.at_ s.finished i) < 0))))) := rfl
  have good : s.finAt i = true → ∀ j, j < i + 1 → s.finAt j = true := fun hg j hj => by
    by_cases he : j = i
    · rw [he]; exact hg
    · exact hall j (by omega)
  have bad : s.finAt i = false → ∃ j, j < s.finished.length ∧ s.finAt j = false := fun hb => ⟨i, hi, hb⟩
  have hpre : 0 < i → IntKind.i64.wrap ((i : Int) - 1) = ((i - 1 : Nat) : Int) := fun hp => by rw [wrapI _ (by omega) (by omega)]; omega
  have hpi : 0 < i → idxR 9 (some y) (some ((i - 1 : Nat) : Int)) = some (.ptr y.sid (i - 1) 0) := fun hp => v.idx (by omega)
  have hpl : 0 < i → ∀ j n, loadP g y.sid (i - 1) j n = cut? (Fin.at_ s.finished (i - 1)).enc j n := fun hp => vg.loadD Fin.none_ (by omega)
  clear v vg hall
  generalize s.finAt i = fa at *
  generalize Fin.at_ s.finished (i - 1) = pf at *
  generalize Fin.at_ s.finished i = f at *
  have cf := compareFins_run (Z := Z) hI13 h1 h2 h3 h4 h5 pf f ⟨g.next, g.next, g.get⟩
  have og' := og.trans (On.push g [[.int .i64 (cmpI pf.tx f.tx)], [.int .i64 (cmpI pf.id f.id)]])
  obtain ⟨k, hk⟩ : ∃ k, Heap.mk ((Heap.mk g.next g.next g.get).push [[.int .i64 (cmpI pf.tx f.tx)], [.int .i64 (cmpI pf.id f.id)]]).next g.floor ((Heap.mk g.next g.next g.get).push [[.int .i64 (cmpI pf.tx f.tx)], [.int .i64 (cmpI pf.id f.id)]]).get = k := ⟨_, rfl⟩
  have ok' : On h k := by rw [← hk]; exact og'
  obtain ⟨t, d⟩ := f
  obtain ⟨t', d'⟩ := pf
  simp only [Fin.enc] at cf hld hpl
  rw [loop_run]
  conv in (codeF _ _ r244L0 _) => unfold r244L0
  simp only [run0, run1, run2, run3, run4, noSlot, memN, RO.dst, lk, drop, forget, number, Nat.reduceBEq, cut?, splice?, builds, List.length_cons, List.length_nil, List.drop_succ_cons, List.drop_zero, List.take_succ_cons, List.take_zero, List.cons_append, List.nil_append, List.append_nil, List.drop_nil, List.take_nil, Nat.reduceAdd, Nat.reduceLeDiff, Nat.zero_add, Nat.add_zero, ↓reduceIte, Bool.not_true, Bool.not_false, decide_true, decide_false, eq_self, bne_self_eq_false, List.getElem?_cons_zero, List.getElem?_cons_succ, decide_eq_true_eq, Bool.false_eq_true, Bool.true_eq_false, reduceCtorEq, Nat.le_refl, hlt, hxi, hld]
  by_cases hp : 0 < i
  · have g1 : (i : Int) > 0 := by omega
    have hi0 : (i == 0) = false := by simp; omega
    have q1 := hpre hp
    have q2 := hpi hp
    have q3 := hpl hp
    clear hxi hpre hpi hpl
    (repeat' ((first | (rw [gF_if]; split) | (rw [condC_if]; split) | (rw [pickR_if]; split)) <;> (rename_i hh; (try simp only [Bool.not_eq_true, decide_eq_true_eq] at hh); simp only [hh, run0, run1, run2, run3, run4, noSlot, memN, RO.dst, lk, drop, forget, number, Nat.reduceBEq, cut?, splice?, builds, List.length_cons, List.length_nil, List.drop_succ_cons, List.drop_zero, List.take_succ_cons, List.take_zero, List.cons_append, List.nil_append, List.append_nil, List.drop_nil, List.take_nil, Nat.reduceAdd, Nat.reduceLeDiff, Nat.zero_add, Nat.add_zero, ↓reduceIte, Bool.not_true, Bool.not_false, decide_true, decide_false, eq_self, bne_self_eq_false, List.getElem?_cons_zero, List.getElem?_cons_succ, decide_eq_true_eq, Bool.false_eq_true, Bool.true_eq_false, reduceCtorEq, Nat.le_refl, hws, g1, q1, q2, q3, cf, hk, hld])))
    all_goals clear q2 q3 cf hk hld og'
    all_goals first
      | (exfalso; omega)
      | exact Or.inl ⟨_, ⟨_, rfl, og, good (by simp_all <;> omega)⟩, rfl⟩
      | exact Or.inl ⟨_, ⟨_, rfl, ok', good (by simp_all <;> omega)⟩, rfl⟩
      | exact Or.inr ⟨_, rfl, rfl, og, bad (by simp_all <;> omega)⟩
      | exact Or.inr ⟨_, rfl, rfl, ok', bad (by simp_all <;> omega)⟩
  · have g1 : ¬ (i : Int) > 0 := by omega
    have hi0 : (i == 0) = true := by simp; omega
    clear hxi hpre hpi hpl cf hk
    (repeat' ((first | (rw [gF_if]; split) | (rw [condC_if]; split) | (rw [pickR_if]; split)) <;> (rename_i hh; (try simp only [Bool.not_eq_true, decide_eq_true_eq] at hh); simp only [hh, run0, run1, run2, run3, run4, noSlot, memN, RO.dst, lk, drop, forget, number, Nat.reduceBEq, cut?, splice?, builds, List.length_cons, List.length_nil, List.drop_succ_cons, List.drop_zero, List.take_succ_cons, List.take_zero, List.cons_append, List.nil_append, List.append_nil, List.drop_nil, List.take_nil, Nat.reduceAdd, Nat.reduceLeDiff, Nat.zero_add, Nat.add_zero, ↓reduceIte, Bool.not_true, Bool.not_false, decide_true, decide_false, eq_self, bne_self_eq_false, List.getElem?_cons_zero, List.getElem?_cons_succ, decide_eq_true_eq, Bool.false_eq_true, Bool.true_eq_false, reduceCtorEq, Nat.le_refl, hws, g1, hld])))
    all_goals clear hld og'
    all_goals first
      | (exfalso; omega)
      | exact Or.inl ⟨_, ⟨_, rfl, og, good (by simp_all <;> omega)⟩, rfl⟩
      | exact Or.inr ⟨_, rfl, rfl, og, bad (by simp_all <;> omega)⟩
end
end Go.Proofs.Ytlfepembgjjejaa.A
/- Is a shard right? -/
namespace Go.Proofs.Ytlfepembgjjejaa.A
open Go
set_option linter.unusedSimpArgs false
set_option linter.unusedVariables false
def Shard.head (s : Shard) : Bool := decide (s.lo ≤ s.hi) && ((s.state == 0 || s.state == 1) && (inR s.epoch 1 1000000 && (bookOk s.book.list && decide ((s.finished.length : Int) ≤ 60))))
def Shard.good (s : Shard) : Bool := s.head && (s.book.list.all s.acc && (List.range s.finished.length).all s.finAt)
section
variable {F : Nat → Option RF} {Z : CallF} {h : Heap} {cs : List Cell} {s : Shard} {fp : List Nat}
set_option maxHeartbeats 4000000 in
theorem isShard_run (hI10 : Has F tI10) (hI13 : Has F tI13) (h1 : Has F tLibcmpCompareint) (h2 : Has F tLibcmpCompareuint64) (h3 : Has F tLibcmpOrint) (h4 : Has F tLibcmpisNaNint) (h5 : Has F tLibcmpisNaNuint64) (hL : Has F tLibslicesIndeximplFinimplFin) (hC : Has F tLibslicesContainsimplFinimplFin)
    (v : Shard.RI h cs s fp) (ok : s.Ok) : ∃ h', call F Z 244 [.agg cs] h = some (.c (.bool s.good), h') ∧ On h h' := by
  obtain ⟨x, p, y, q, rfl, rfl, w, u⟩ := v
  have hB := isBook_run (Z := Z) hI10 w ok.book.list
  have ka := isShard_accs (Z := Z) (s := s) hL hC w u
  have kf := isShard_fins (Z := Z) (s := s) (x := x) hI13 h1 h2 h3 h4 h5 u
  have l1 := w.len
  have l2 := u.len
  have n1 : ¬ (s.book.list.length : Int) < s.book.list.length := by omega
  have n2 : ¬ (s.finished.length : Int) < s.finished.length := by omega
  clear w u
  rw [call_run F Z (hI13.lk (g := 244) rfl) _ _ rfl]
  simp only [show ((0 : Nat) : Int) = 0 from rfl] at ka kf
  cases hd : s.head with
  | false =>
    have hg : s.good = false := by simp [Shard.good, hd]
    rw [hg]
    simp only [run0, run1, run2, run3, run4, noSlot, memN, RO.dst, lk, drop, forget, number, Nat.reduceBEq, cut?, splice?, builds, List.length_cons, List.length_nil, List.drop_succ_cons, List.drop_zero, List.take_succ_cons, List.take_zero, List.cons_append, List.nil_append, List.append_nil, List.drop_nil, List.take_nil, Nat.reduceAdd, Nat.reduceLeDiff, Nat.zero_add, Nat.add_zero, ↓reduceIte, Bool.not_true, Bool.not_false, decide_true, decide_false, eq_self, bne_self_eq_false, List.getElem?_cons_zero, List.getElem?_cons_succ, decide_eq_true_eq, Bool.false_eq_true, Bool.true_eq_false, reduceCtorEq, Nat.le_refl, hB, l2]
    clear ka kf
    (repeat' ((first | (rw [gF_if]; split) | (rw [condC_if]; split) | (rw [pickR_if]; split)) <;> (rename_i hh; (try simp only [Bool.not_eq_true, decide_eq_true_eq] at hh); simp only [hh, run0, run1, run2, run3, run4, noSlot, memN, RO.dst, lk, drop, forget, number, Nat.reduceBEq, cut?, splice?, builds, List.length_cons, List.length_nil, List.drop_succ_cons, List.drop_zero, List.take_succ_cons, List.take_zero, List.cons_append, List.nil_append, List.append_nil, List.drop_nil, List.take_nil, Nat.reduceAdd, Nat.reduceLeDiff, Nat.zero_add, Nat.add_zero, ↓reduceIte, Bool.not_true, Bool.not_false, decide_true, decide_false, eq_self, bne_self_eq_false, List.getElem?_cons_zero, List.getElem?_cons_succ, decide_eq_true_eq, Bool.false_eq_true, Bool.true_eq_false, reduceCtorEq, Nat.le_refl, hB, l2, l1])))
    all_goals clear hB l1 l2
    all_goals first
      | exact ⟨_, rfl, On.refl h⟩
      | (exfalso; simp_all [Shard.head, inR]; done)
      | (exfalso; simp_all [Shard.head, inR]; omega)
  | true =>
    have hg : s.good = (s.book.list.all s.acc && (List.range s.finished.length).all s.finAt) := by simp [Shard.good, hd]
    rw [hg]
    simp only [Shard.head, Bool.and_eq_true, decide_eq_true_eq, Bool.or_eq_true, beq_iff_eq, inR] at hd
    obtain ⟨d1, d2, ⟨d3, d4⟩, d5, d6⟩ := hd
    rw [d5] at hB
    have c1 : ¬ s.lo > s.hi := by omega
    have c3 : ¬ s.epoch < 1 := by omega
    have c4 : ¬ s.epoch > 1000000 := by omega
    have c6 : ¬ (s.finished.length : Int) > 60 := by omega
    have c2 : (s.state != 0) = false ∨ ((s.state != 0) = true ∧ (s.state != 1) = false) := by
      rcases d2 with d2 | d2 <;> simp [d2]
    rcases c2 with c2 | ⟨c2, c2'⟩
    · simp only [run0, run1, run2, run3, run4, noSlot, memN, RO.dst, lk, drop, forget, number, Nat.reduceBEq, cut?, splice?, builds, List.length_cons, List.length_nil, List.drop_succ_cons, List.drop_zero, List.take_succ_cons, List.take_zero, List.cons_append, List.nil_append, List.append_nil, List.drop_nil, List.take_nil, Nat.reduceAdd, Nat.reduceLeDiff, Nat.zero_add, Nat.add_zero, ↓reduceIte, Bool.not_true, Bool.not_false, decide_true, decide_false, eq_self, bne_self_eq_false, List.getElem?_cons_zero, List.getElem?_cons_succ, decide_eq_true_eq, Bool.false_eq_true, Bool.true_eq_false, reduceCtorEq, Nat.le_refl, hB, l1, l2, c1, c2, c3, c4, c6]
      rcases ka with ⟨a1, a2⟩ | ⟨a1, s', a2, a3, a4⟩
      · rw [a2, loop_run]
        conv in (codeF _ _ r244L1 _) => unfold r244L1
        simp only [run0, run1, run2, run3, run4, noSlot, memN, RO.dst, lk, drop, forget, number, Nat.reduceBEq, cut?, splice?, builds, List.length_cons, List.length_nil, List.drop_succ_cons, List.drop_zero, List.take_succ_cons, List.take_zero, List.cons_append, List.nil_append, List.append_nil, List.drop_nil, List.take_nil, Nat.reduceAdd, Nat.reduceLeDiff, Nat.zero_add, Nat.add_zero, ↓reduceIte, Bool.not_true, Bool.not_false, decide_true, decide_false, eq_self, bne_self_eq_false, List.getElem?_cons_zero, List.getElem?_cons_succ, decide_eq_true_eq, Bool.false_eq_true, Bool.true_eq_false, reduceCtorEq, Nat.le_refl, n1, l2]
        rcases kf with ⟨s'', ⟨g, hs, og, hall⟩, e⟩ | ⟨s'', e, b1, b2, j, hj, b3⟩
        · subst hs
          rw [e, loop_run]
          conv in (codeF _ _ r244L0 _) => unfold r244L0
          simp only [run0, run1, run2, run3, run4, noSlot, memN, RO.dst, lk, drop, forget, number, Nat.reduceBEq, cut?, splice?, builds, List.length_cons, List.length_nil, List.drop_succ_cons, List.drop_zero, List.take_succ_cons, List.take_zero, List.cons_append, List.nil_append, List.append_nil, List.drop_nil, List.take_nil, Nat.reduceAdd, Nat.reduceLeDiff, Nat.zero_add, Nat.add_zero, ↓reduceIte, Bool.not_true, Bool.not_false, decide_true, decide_false, eq_self, bne_self_eq_false, List.getElem?_cons_zero, List.getElem?_cons_succ, decide_eq_true_eq, Bool.false_eq_true, Bool.true_eq_false, reduceCtorEq, Nat.le_refl, n2]
          have ha : (List.range s.finished.length).all s.finAt = true := List.all_eq_true.2 fun j hj => hall j (by simpa using hj)
          exact ⟨_, by rw [a1, ha]; rfl, og⟩
        · rw [e]
          simp only [run0, run1, run2, run3, run4, noSlot, memN, RO.dst, lk, drop, forget, number, Nat.reduceBEq, cut?, splice?, builds, List.length_cons, List.length_nil, List.drop_succ_cons, List.drop_zero, List.take_succ_cons, List.take_zero, List.cons_append, List.nil_append, List.append_nil, List.drop_nil, List.take_nil, Nat.reduceAdd, Nat.reduceLeDiff, Nat.zero_add, Nat.add_zero, ↓reduceIte, Bool.not_true, Bool.not_false, decide_true, decide_false, eq_self, bne_self_eq_false, List.getElem?_cons_zero, List.getElem?_cons_succ, decide_eq_true_eq, Bool.false_eq_true, Bool.true_eq_false, reduceCtorEq, Nat.le_refl, b1]
          have ha : (List.range s.finished.length).all s.finAt = false := by
            rw [List.all_eq_false]
            exact ⟨j, by simpa using hj, by simp [b3]⟩
          exact ⟨_, by rw [a1, ha]; rfl, b2⟩
      · rw [a2]
        simp only [run0, run1, run2, run3, run4, noSlot, memN, RO.dst, lk, drop, forget, number, Nat.reduceBEq, cut?, splice?, builds, List.length_cons, List.length_nil, List.drop_succ_cons, List.drop_zero, List.take_succ_cons, List.take_zero, List.cons_append, List.nil_append, List.append_nil, List.drop_nil, List.take_nil, Nat.reduceAdd, Nat.reduceLeDiff, Nat.zero_add, Nat.add_zero, ↓reduceIte, Bool.not_true, Bool.not_false, decide_true, decide_false, eq_self, bne_self_eq_false, List.getElem?_cons_zero, List.getElem?_cons_succ, decide_eq_true_eq, Bool.false_eq_true, Bool.true_eq_false, reduceCtorEq, Nat.le_refl, a3, a4]
        exact ⟨_, by rw [a1]; rfl, On.refl h⟩
    · simp only [run0, run1, run2, run3, run4, noSlot, memN, RO.dst, lk, drop, forget, number, Nat.reduceBEq, cut?, splice?, builds, List.length_cons, List.length_nil, List.drop_succ_cons, List.drop_zero, List.take_succ_cons, List.take_zero, List.cons_append, List.nil_append, List.append_nil, List.drop_nil, List.take_nil, Nat.reduceAdd, Nat.reduceLeDiff, Nat.zero_add, Nat.add_zero, ↓reduceIte, Bool.not_true, Bool.not_false, decide_true, decide_false, eq_self, bne_self_eq_false, List.getElem?_cons_zero, List.getElem?_cons_succ, decide_eq_true_eq, Bool.false_eq_true, Bool.true_eq_false, reduceCtorEq, Nat.le_refl, hB, l1, l2, c1, c2, c2', c3, c4, c6]
      rcases ka with ⟨a1, a2⟩ | ⟨a1, s', a2, a3, a4⟩
      · rw [a2, loop_run]
        conv in (codeF _ _ r244L1 _) => unfold r244L1
        simp only [run0, run1, run2, run3, run4, noSlot, memN, RO.dst, lk, drop, forget, number, Nat.reduceBEq, cut?, splice?, builds, List.length_cons, List.length_nil, List.drop_succ_cons, List.drop_zero, List.take_succ_cons, List.take_zero, List.cons_append, List.nil_append, List.append_nil, List.drop_nil, List.take_nil, Nat.reduceAdd, Nat.reduceLeDiff, Nat.zero_add, Nat.add_zero, ↓reduceIte, Bool.not_true, Bool.not_false, decide_true, decide_false, eq_self, bne_self_eq_false, List.getElem?_cons_zero, List.getElem?_cons_succ, decide_eq_true_eq, Bool.false_eq_true, Bool.true_eq_false, reduceCtorEq, Nat.le_refl, n1, l2]
        rcases kf with ⟨s'', ⟨g, hs, og, hall⟩, e⟩ | ⟨s'', e, b1, b2, j, hj, b3⟩
        · subst hs
          rw [e, loop_run]
          conv in (codeF _ _ r244L0 _) => unfold r244L0
          simp only [run0, run1, run2, run3, run4, noSlot, memN, RO.dst, lk, drop, forget, number, Nat.reduceBEq, cut?, splice?, builds, List.length_cons, List.length_nil, List.drop_succ_cons, List.drop_zero, List.take_succ_cons, List.take_zero, List.cons_append, List.nil_append, List.append_nil, List.drop_nil, List.take_nil, Nat.reduceAdd, Nat.reduceLeDiff, Nat.zero_add, Nat.add_zero, ↓reduceIte, Bool.not_true, Bool.not_false, decide_true, decide_false, eq_self, bne_self_eq_false, List.getElem?_cons_zero, List.getElem?_cons_succ, decide_eq_true_eq, Bool.false_eq_true, Bool.true_eq_false, reduceCtorEq, Nat.le_refl, n2]
          have ha : (List.range s.finished.length).all s.finAt = true := List.all_eq_true.2 fun j hj => hall j (by simpa using hj)
          exact ⟨_, by rw [a1, ha]; rfl, og⟩
        · rw [e]
          simp only [run0, run1, run2, run3, run4, noSlot, memN, RO.dst, lk, drop, forget, number, Nat.reduceBEq, cut?, splice?, builds, List.length_cons, List.length_nil, List.drop_succ_cons, List.drop_zero, List.take_succ_cons, List.take_zero, List.cons_append, List.nil_append, List.append_nil, List.drop_nil, List.take_nil, Nat.reduceAdd, Nat.reduceLeDiff, Nat.zero_add, Nat.add_zero, ↓reduceIte, Bool.not_true, Bool.not_false, decide_true, decide_false, eq_self, bne_self_eq_false, List.getElem?_cons_zero, List.getElem?_cons_succ, decide_eq_true_eq, Bool.false_eq_true, Bool.true_eq_false, reduceCtorEq, Nat.le_refl, b1]
          have ha : (List.range s.finished.length).all s.finAt = false := by
            rw [List.all_eq_false]
            exact ⟨j, by simpa using hj, by simp [b3]⟩
          exact ⟨_, by rw [a1, ha]; rfl, b2⟩
      · rw [a2]
        simp only [run0, run1, run2, run3, run4, noSlot, memN, RO.dst, lk, drop, forget, number, Nat.reduceBEq, cut?, splice?, builds, List.length_cons, List.length_nil, List.drop_succ_cons, List.drop_zero, List.take_succ_cons, List.take_zero, List.cons_append, List.nil_append, List.append_nil, List.drop_nil, List.take_nil, Nat.reduceAdd, Nat.reduceLeDiff, Nat.zero_add, Nat.add_zero, ↓reduceIte, Bool.not_true, Bool.not_false, decide_true, decide_false, eq_self, bne_self_eq_false, List.getElem?_cons_zero, List.getElem?_cons_succ, decide_eq_true_eq, Bool.false_eq_true, Bool.true_eq_false, reduceCtorEq, Nat.le_refl, a3, a4]
        exact ⟨_, by rw [a1]; rfl, On.refl h⟩
end
end Go.Proofs.Ytlfepembgjjejaa.A
/- The reference's small functions of fins. -/
namespace Go.Proofs.Ytlfepembgjjejaa.A
open Go
set_option linter.unusedSimpArgs false
set_option linter.unusedVariables false
theorem cmpFin_lt (f g : Fin) : decide (cmpFin f g < 0) = (decide (f.tx < g.tx) || (f.tx == g.tx && decide (f.id < g.id))) := by
  unfold cmpFin orI
  by_cases h1 : f.tx < g.tx
  · have e : cmpI f.tx g.tx = -1 := by simp [cmpI, h1]
    rw [if_neg (by rw [e]; decide), e]
    simp [h1]
  · by_cases h2 : g.tx < f.tx
    · have e : cmpI f.tx g.tx = 1 := by simp [cmpI, h1, h2]
      rw [if_neg (by rw [e]; decide), e]
      have : (f.tx == g.tx) = false := by simp; omega
      simp [h1, this]
    · have e : cmpI f.tx g.tx = 0 := by simp [cmpI, h1, h2]
      rw [if_pos e]
      have ht : (f.tx == g.tx) = true := by simp; omega
      by_cases h3 : f.id < g.id
      · have e3 : cmpI f.id g.id = -1 := by simp [cmpI, h3]
        rw [e3]; simp [h1, ht, h3]
      · have e3 : ¬ cmpI f.id g.id < 0 := by
          unfold cmpI
          rw [if_neg h3]
          split <;> omega
        simp [e3, h1, h3]
section
variable {F : Nat → Option RF} {Z : CallF} {h : Heap} {x : Cell} {xs : List Fin} {fp : List Nat}
theorem l13Before_run (hS13 : Has F tS13) (f g : Fin) (h : Heap) : call F Z 242 [.agg f.enc, .agg g.enc] h = some (.c (.bool (decide (cmpFin f g < 0))), h) := by
  rw [cmpFin_lt]
  obtain ⟨t, d⟩ := f
  obtain ⟨t', d'⟩ := g
  rw [call_run F Z (hS13.lk (g := 242) rfl) _ _ rfl]
  simp only [Fin.enc, run0, run1, run2, run3, run4, noSlot, memN, RO.dst, lk, drop, forget, number, Nat.reduceBEq, cut?, splice?, builds, List.length_cons, List.length_nil, List.drop_succ_cons, List.drop_zero, List.take_succ_cons, List.take_zero, List.cons_append, List.nil_append, List.append_nil, List.drop_nil, List.take_nil, Nat.reduceAdd, Nat.reduceLeDiff, Nat.zero_add, Nat.add_zero, ↓reduceIte, Bool.not_true, Bool.not_false, decide_true, decide_false, eq_self, bne_self_eq_false, List.getElem?_cons_zero, List.getElem?_cons_succ, decide_eq_true_eq, Bool.false_eq_true, Bool.true_eq_false, reduceCtorEq, Nat.le_refl]
  (repeat' ((first | (rw [gF_if]; split) | (rw [condC_if]; split) | (rw [pickR_if]; split)) <;> (rename_i hh; (try simp only [Bool.not_eq_true, decide_eq_true_eq] at hh); simp only [hh, run0, run1, run2, run3, run4, noSlot, memN, RO.dst, lk, drop, forget, number, Nat.reduceBEq, cut?, splice?, builds, List.length_cons, List.length_nil, List.drop_succ_cons, List.drop_zero, List.take_succ_cons, List.take_zero, List.cons_append, List.nil_append, List.append_nil, List.drop_nil, List.take_nil, Nat.reduceAdd, Nat.reduceLeDiff, Nat.zero_add, Nat.add_zero, ↓reduceIte, Bool.not_true, Bool.not_false, decide_true, decide_false, eq_self, bne_self_eq_false, List.getElem?_cons_zero, List.getElem?_cons_succ, decide_eq_true_eq, Bool.false_eq_true, Bool.true_eq_false, reduceCtorEq, Nat.le_refl]))) <;> refine fin_bool ?_ <;> simp_all <;> omega
theorem l13Has_run (hS13 : Has F tS13) (w : SlR 9 (Fl Fin.enc) h x xs fp) (f : Fin) : call F Z 243 [.c x, .agg f.enc] h = some (.c (.bool (decide (f ∈ xs))), h) := by
  have hle := w.le2
  have hwl := w.len
  rw [call_run F Z (hS13.lk (g := 243) rfl) _ _ rfl]
  simp only [run0, run1, run2, run3, run4, noSlot, memN, RO.dst, lk, drop, forget, number, Nat.reduceBEq, cut?, splice?, builds, List.length_cons, List.length_nil, List.drop_succ_cons, List.drop_zero, List.take_succ_cons, List.take_zero, List.cons_append, List.nil_append, List.append_nil, List.drop_nil, List.take_nil, Nat.reduceAdd, Nat.reduceLeDiff, Nat.zero_add, Nat.add_zero, ↓reduceIte, Bool.not_true, Bool.not_false, decide_true, decide_false, eq_self, bne_self_eq_false, List.getElem?_cons_zero, List.getElem?_cons_succ, decide_eq_true_eq, Bool.false_eq_true, Bool.true_eq_false, reduceCtorEq, Nat.le_refl]
  have key := loop_find (F := F) (Z := Z) (live := [0, 3, 5]) (b := r243L0) xs (fun a => decide (a = f)) (fun i => ⟨[(0, .c x), (5, .c (.int .i64 (i : Nat)))], [(3, 3, 0)], [(3, f.enc)], h⟩) (fun i s => lk s.env 4 = some (.c (.bool true)) ∧ s.hp = h) fun i hi => by
    have hlt : (i : Int) < xs.length := by omega
    have hws := wrapS i (by omega)
    have hxi := w.idx hi
    have hld := w.load hi
    generalize xs[i] = a at *
    obtain ⟨t, d⟩ := a
    obtain ⟨t', d'⟩ := f
    rw [loop_run]
    conv in (codeF _ _ r243L0 _) => unfold r243L0
    have fe := fin_eqs t d t' d'
    simp only [run0, run1, run2, run3, run4, noSlot, memN, RO.dst, lk, drop, forget, number, Nat.reduceBEq, cut?, splice?, builds, List.length_cons, List.length_nil, List.drop_succ_cons, List.drop_zero, List.take_succ_cons, List.take_zero, List.cons_append, List.nil_append, List.append_nil, List.drop_nil, List.take_nil, Nat.reduceAdd, Nat.reduceLeDiff, Nat.zero_add, Nat.add_zero, ↓reduceIte, Bool.not_true, Bool.not_false, decide_true, decide_false, eq_self, bne_self_eq_false, List.getElem?_cons_zero, List.getElem?_cons_succ, decide_eq_true_eq, Bool.false_eq_true, Bool.true_eq_false, reduceCtorEq, Nat.le_refl, hwl, hlt, hxi, hld, Fin.enc, fe]
    clear hxi hld fe w
    (repeat' ((first | (rw [gF_if]; split) | (rw [condC_if]; split) | (rw [pickR_if]; split)) <;> (rename_i hh; (try simp only [Bool.not_eq_true, decide_eq_true_eq] at hh); simp only [hh, run0, run1, run2, run3, run4, noSlot, memN, RO.dst, lk, drop, forget, number, Nat.reduceBEq, cut?, splice?, builds, List.length_cons, List.length_nil, List.drop_succ_cons, List.drop_zero, List.take_succ_cons, List.take_zero, List.cons_append, List.nil_append, List.append_nil, List.drop_nil, List.take_nil, Nat.reduceAdd, Nat.reduceLeDiff, Nat.zero_add, Nat.add_zero, ↓reduceIte, Bool.not_true, Bool.not_false, decide_true, decide_false, eq_self, bne_self_eq_false, List.getElem?_cons_zero, List.getElem?_cons_succ, decide_eq_true_eq, Bool.false_eq_true, Bool.true_eq_false, reduceCtorEq, Nat.le_refl, hws]))) <;> first
      | exact .inl ⟨by simp_all, rfl⟩
      | exact .inr ⟨by simp_all, _, rfl, rfl, rfl⟩
  have hlt : ¬ (xs.length : Int) < xs.length := by omega
  simp only [show ((0 : Nat) : Int) = 0 from rfl] at key
  rcases key with ⟨k1, k2⟩ | ⟨i, k1, hi, s, k2, k3, k4⟩
  · rw [k2, loop_run]
    conv in (codeF _ _ r243L0 _) => unfold r243L0
    rw [List.findIdx?_eq_none_iff] at k1
    have : ¬ f ∈ xs := fun hm => by simpa using k1 f hm
    simp only [run0, run1, run2, run3, run4, noSlot, memN, RO.dst, lk, drop, forget, number, Nat.reduceBEq, cut?, splice?, builds, List.length_cons, List.length_nil, List.drop_succ_cons, List.drop_zero, List.take_succ_cons, List.take_zero, List.cons_append, List.nil_append, List.append_nil, List.drop_nil, List.take_nil, Nat.reduceAdd, Nat.reduceLeDiff, Nat.zero_add, Nat.add_zero, ↓reduceIte, Bool.not_true, Bool.not_false, decide_true, decide_false, eq_self, bne_self_eq_false, List.getElem?_cons_zero, List.getElem?_cons_succ, decide_eq_true_eq, Bool.false_eq_true, Bool.true_eq_false, reduceCtorEq, Nat.le_refl, hwl, hlt, this]
  · rw [k2]
    rw [List.findIdx?_eq_some_iff_getElem] at k1
    obtain ⟨hi, h2, _⟩ := k1
    have : f ∈ xs := by
      have : xs[i] = f := by simpa using h2
      rw [← this]; exact List.getElem_mem hi
    simp only [run0, run1, run2, run3, run4, noSlot, memN, RO.dst, lk, drop, forget, number, Nat.reduceBEq, cut?, splice?, builds, List.length_cons, List.length_nil, List.drop_succ_cons, List.drop_zero, List.take_succ_cons, List.take_zero, List.cons_append, List.nil_append, List.append_nil, List.drop_nil, List.take_nil, Nat.reduceAdd, Nat.reduceLeDiff, Nat.zero_add, Nat.add_zero, ↓reduceIte, Bool.not_true, Bool.not_false, decide_true, decide_false, eq_self, bne_self_eq_false, List.getElem?_cons_zero, List.getElem?_cons_succ, decide_eq_true_eq, Bool.false_eq_true, Bool.true_eq_false, reduceCtorEq, Nat.le_refl, k3, k4, this]
end
end Go.Proofs.Ytlfepembgjjejaa.A
/- Is a shard right, by the reference? -/
namespace Go.Proofs.Ytlfepembgjjejaa.A
open Go
set_option linter.unusedSimpArgs false
set_option linter.unusedVariables false
section
variable {F : Nat → Option RF} {Z : CallF} {h : Heap} {cs : List Cell} {s : Shard} {fp fq : List Nat} {x y : Cell}
set_option maxHeartbeats 2000000 in
theorem l13Shard_accs (hS13 : Has F tS13) (w : SlR 11 (Fl Account.enc) h x s.book.list fp) (v : SlR 9 (Fl Fin.enc) h y s.finished fq) :
    Turn (loop F Z [1, 5] r204L0 ⟨[(5, .c (.int .i64 (0 : Nat)))], [(1, 1, 0)], [(1, [.int .u64 s.lo, .int .u64 s.hi, .int .i64 s.state, .int .i64 s.epoch, x, y])], h⟩)
      (loop F Z [1, 5] r204L0 ⟨[(5, .c (.int .i64 (s.book.list.length : Nat)))], [(1, 1, 0)], [(1, [.int .u64 s.lo, .int .u64 s.hi, .int .i64 s.state, .int .i64 s.epoch, x, y])], h⟩) (s.book.list.all s.acc) (fun s => lk s.env 2 = some (.c (.bool false)) ∧ s.hp = h) := by
  have hle := w.le2
  refine loop_all (F := F) (Z := Z) (live := [1, 5]) (b := r204L0) s.book.list (fun i => ⟨[(5, .c (.int .i64 (i : Nat)))], [(1, 1, 0)], [(1, [.int .u64 s.lo, .int .u64 s.hi, .int .i64 s.state, .int .i64 s.epoch, x, y])], h⟩) s.acc _ fun i hi => ?_
  have hlt : (i : Int) < s.book.list.length := by omega
  have hws := wrapS i (by omega)
  have hwl := w.len
  have hxi := w.idx hi
  have hld := w.load hi
  have hc : ∀ t d, call F Z 243 [.c y, .agg [.int .i64 t, .int .u64 d]] h = some (.c (.bool (decide ((⟨t, d⟩ : Fin) ∈ s.finished))), h) := fun t d => l13Has_run hS13 v ⟨t, d⟩
  rw [loop_run]
  conv in (codeF _ _ r204L0 _) => unfold r204L0
  simp only [run0, run1, run2, run3, run4, noSlot, memN, RO.dst, lk, drop, forget, number, Nat.reduceBEq, cut?, splice?, builds, List.length_cons, List.length_nil, List.drop_succ_cons, List.drop_zero, List.take_succ_cons, List.take_zero, List.cons_append, List.nil_append, List.append_nil, List.drop_nil, List.take_nil, Nat.reduceAdd, Nat.reduceLeDiff, Nat.zero_add, Nat.add_zero, ↓reduceIte, Bool.not_true, Bool.not_false, decide_true, decide_false, eq_self, bne_self_eq_false, List.getElem?_cons_zero, List.getElem?_cons_succ, decide_eq_true_eq, Bool.false_eq_true, Bool.true_eq_false, reduceCtorEq, Nat.le_refl, hwl, hlt, hxi, hld, Account.enc, hc]
  generalize s.book.list[i] = a
  clear hxi hld w v
  (repeat' ((first | (rw [gF_if]; split) | (rw [condC_if]; split) | (rw [pickR_if]; split)) <;> (rename_i hh; (try simp only [Bool.not_eq_true, decide_eq_true_eq] at hh); simp only [hh, run0, run1, run2, run3, run4, noSlot, memN, RO.dst, lk, drop, forget, number, Nat.reduceBEq, cut?, splice?, builds, List.length_cons, List.length_nil, List.drop_succ_cons, List.drop_zero, List.take_succ_cons, List.take_zero, List.cons_append, List.nil_append, List.append_nil, List.drop_nil, List.take_nil, Nat.reduceAdd, Nat.reduceLeDiff, Nat.zero_add, Nat.add_zero, ↓reduceIte, Bool.not_true, Bool.not_false, decide_true, decide_false, eq_self, bne_self_eq_false, List.getElem?_cons_zero, List.getElem?_cons_succ, decide_eq_true_eq, Bool.false_eq_true, Bool.true_eq_false, reduceCtorEq, Nat.le_refl, hws, hc]))) <;> clear hc <;> first
    | exact .inl ⟨by simp_all [Shard.acc] <;> omega, rfl⟩
    | exact .inr ⟨by simp_all [Shard.acc] <;> omega, _, rfl, rfl, rfl⟩
set_option maxHeartbeats 4000000 in
theorem l13Shard_fins (hS13 : Has F tS13) (v : SlR 9 (Fl Fin.enc) h y s.finished fq) :
    Turn (loop F Z [1, 3] r204L1 ⟨[(3, .c (.int .i64 (0 : Nat)))], [(1, 1, 0)], [(1, [.int .u64 s.lo, .int .u64 s.hi, .int .i64 s.state, .int .i64 s.epoch, x, y])], h⟩)
      (loop F Z [1, 3] r204L1 ⟨[(3, .c (.int .i64 (s.finished.length : Nat)))], [(1, 1, 0)], [(1, [.int .u64 s.lo, .int .u64 s.hi, .int .i64 s.state, .int .i64 s.epoch, x, y])], h⟩) ((List.range s.finished.length).all s.finAt) (fun s => lk s.env 2 = some (.c (.bool false)) ∧ s.hp = h) := by
  have hle := v.le2
  refine loop_allN (F := F) (Z := Z) (live := [1, 3]) (b := r204L1) s.finished.length (fun i => ⟨[(3, .c (.int .i64 (i : Nat)))], [(1, 1, 0)], [(1, [.int .u64 s.lo, .int .u64 s.hi, .int .i64 s.state, .int .i64 s.epoch, x, y])], h⟩) s.finAt _ fun i hi => ?_
  have hlt : (i : Int) < s.finished.length := by omega
  have hws := wrapS i (by omega)
  have hwl := v.len
  have hxi := v.idx hi
  have hld : ∀ j n, loadP h y.sid i j n = cut? (Fin.at_ s.finished i).enc j n := v.loadD Fin.none_ hi
  have hfin : s.finAt i = (decide (1 ≤ (Fin.at_ s.finished i).tx) && (decide (s.lo ≤ (Fin.at_ s.finished i).id) && (decide ((Fin.at_ s.finished i).id ≤ s.hi) && (i == 0 || decide (cmpFin (Fin.at_ s.finished (i - 1)) (Fin.at_ s.finished i) < 0))))) := rfl
  have hpre : 0 < i → IntKind.i64.wrap ((i : Int) - 1) = ((i - 1 : Nat) : Int) := fun hp => by rw [wrapI _ (by omega) (by omega)]; omega
  have hpi : 0 < i → idxR 9 (some y) (some ((i - 1 : Nat) : Int)) = some (.ptr y.sid (i - 1) 0) := fun hp => v.idx (by omega)
  have hpl : 0 < i → ∀ j n, loadP h y.sid (i - 1) j n = cut? (Fin.at_ s.finished (i - 1)).enc j n := fun hp => v.loadD Fin.none_ (by omega)
  clear v
  generalize s.finAt i = fa at *
  generalize Fin.at_ s.finished (i - 1) = pf at *
  generalize Fin.at_ s.finished i = f at *
  have cf := fun g => l13Before_run (Z := Z) hS13 pf f g
  obtain ⟨t, d⟩ := f
  obtain ⟨t', d'⟩ := pf
  simp only [Fin.enc] at cf hld hpl
  rw [loop_run]
  conv in (codeF _ _ r204L1 _) => unfold r204L1
  simp only [run0, run1, run2, run3, run4, noSlot, memN, RO.dst, lk, drop, forget, number, Nat.reduceBEq, cut?, splice?, builds, List.length_cons, List.length_nil, List.drop_succ_cons, List.drop_zero, List.take_succ_cons, List.take_zero, List.cons_append, List.nil_append, List.append_nil, List.drop_nil, List.take_nil, Nat.reduceAdd, Nat.reduceLeDiff, Nat.zero_add, Nat.add_zero, ↓reduceIte, Bool.not_true, Bool.not_false, decide_true, decide_false, eq_self, bne_self_eq_false, List.getElem?_cons_zero, List.getElem?_cons_succ, decide_eq_true_eq, Bool.false_eq_true, Bool.true_eq_false, reduceCtorEq, Nat.le_refl, hwl, hlt, hxi, hld]
  by_cases hp : 0 < i
  · have g1 : (i : Int) > 0 := by omega
    have hi0 : (i == 0) = false := by simp; omega
    have q1 := hpre hp
    have q2 := hpi hp
    have q3 := hpl hp
    clear hxi hpre hpi hpl
    (repeat' ((first | (rw [gF_if]; split) | (rw [condC_if]; split) | (rw [pickR_if]; split)) <;> (rename_i hh; (try simp only [Bool.not_eq_true, decide_eq_true_eq] at hh); simp only [hh, run0, run1, run2, run3, run4, noSlot, memN, RO.dst, lk, drop, forget, number, Nat.reduceBEq, cut?, splice?, builds, List.length_cons, List.length_nil, List.drop_succ_cons, List.drop_zero, List.take_succ_cons, List.take_zero, List.cons_append, List.nil_append, List.append_nil, List.drop_nil, List.take_nil, Nat.reduceAdd, Nat.reduceLeDiff, Nat.zero_add, Nat.add_zero, ↓reduceIte, Bool.not_true, Bool.not_false, decide_true, decide_false, eq_self, bne_self_eq_false, List.getElem?_cons_zero, List.getElem?_cons_succ, decide_eq_true_eq, Bool.false_eq_true, Bool.true_eq_false, reduceCtorEq, Nat.le_refl, hws, g1, q1, q2, q3, cf, hld])))
    all_goals clear q2 q3 cf hld
    all_goals first
      | (exfalso; omega)
      | exact .inl ⟨by simp_all <;> omega, rfl⟩
      | exact .inr ⟨by simp_all <;> omega, _, rfl, rfl, rfl⟩
  · have g1 : ¬ (i : Int) > 0 := by omega
    have hi0 : (i == 0) = true := by simp; omega
    clear hxi hpre hpi hpl cf
    (repeat' ((first | (rw [gF_if]; split) | (rw [condC_if]; split) | (rw [pickR_if]; split)) <;> (rename_i hh; (try simp only [Bool.not_eq_true, decide_eq_true_eq] at hh); simp only [hh, run0, run1, run2, run3, run4, noSlot, memN, RO.dst, lk, drop, forget, number, Nat.reduceBEq, cut?, splice?, builds, List.length_cons, List.length_nil, List.drop_succ_cons, List.drop_zero, List.take_succ_cons, List.take_zero, List.cons_append, List.nil_append, List.append_nil, List.drop_nil, List.take_nil, Nat.reduceAdd, Nat.reduceLeDiff, Nat.zero_add, Nat.add_zero, ↓reduceIte, Bool.not_true, Bool.not_false, decide_true, decide_false, eq_self, bne_self_eq_false, List.getElem?_cons_zero, List.getElem?_cons_succ, decide_eq_true_eq, Bool.false_eq_true, Bool.true_eq_false, reduceCtorEq, Nat.le_refl, hws, g1, hld])))
    all_goals clear hld
    all_goals first
      | (exfalso; omega)
      | exact .inl ⟨by simp_all <;> omega, rfl⟩
      | exact .inr ⟨by simp_all <;> omega, _, rfl, rfl, rfl⟩
set_option maxHeartbeats 4000000 in
theorem l13Shard_run (hS : Has F tS01d) (hS10 : Has F tS10) (hS13 : Has F tS13) (v : Shard.RI h cs s fp) (ok : s.Ok) : call F Z 204 [.agg cs] h = some (.c (.bool s.good), h) := by
  obtain ⟨x, p, y, q, rfl, rfl, w, u⟩ := v
  have hB := sBookOk_run (Z := Z) hS10 w ok.book.list
  have ka := l13Shard_accs (Z := Z) (s := s) hS13 w u
  have kf := l13Shard_fins (Z := Z) (s := s) (x := x) hS13 u
  have l1 := w.len
  have l2 := u.len
  have n1 : ¬ (s.book.list.length : Int) < s.book.list.length := by omega
  have n2 : ¬ (s.finished.length : Int) < s.finished.length := by omega
  clear w u
  rw [call_run F Z (hS13.lk (g := 204) rfl) _ _ rfl]
  simp only [show ((0 : Nat) : Int) = 0 from rfl] at ka kf
  cases hd : s.head with
  | false =>
    have hg : s.good = false := by simp [Shard.good, hd]
    rw [hg]
    simp only [run0, run1, run2, run3, run4, noSlot, memN, RO.dst, lk, drop, forget, number, Nat.reduceBEq, cut?, splice?, builds, List.length_cons, List.length_nil, List.drop_succ_cons, List.drop_zero, List.take_succ_cons, List.take_zero, List.cons_append, List.nil_append, List.append_nil, List.drop_nil, List.take_nil, Nat.reduceAdd, Nat.reduceLeDiff, Nat.zero_add, Nat.add_zero, ↓reduceIte, Bool.not_true, Bool.not_false, decide_true, decide_false, eq_self, bne_self_eq_false, List.getElem?_cons_zero, List.getElem?_cons_succ, decide_eq_true_eq, Bool.false_eq_true, Bool.true_eq_false, reduceCtorEq, Nat.le_refl, hB, l2, l01In_run hS]
    clear ka kf
    (repeat' ((first | (rw [gF_if]; split) | (rw [condC_if]; split) | (rw [pickR_if]; split)) <;> (rename_i hh; (try simp only [Bool.not_eq_true, decide_eq_true_eq] at hh); simp only [hh, run0, run1, run2, run3, run4, noSlot, memN, RO.dst, lk, drop, forget, number, Nat.reduceBEq, cut?, splice?, builds, List.length_cons, List.length_nil, List.drop_succ_cons, List.drop_zero, List.take_succ_cons, List.take_zero, List.cons_append, List.nil_append, List.append_nil, List.drop_nil, List.take_nil, Nat.reduceAdd, Nat.reduceLeDiff, Nat.zero_add, Nat.add_zero, ↓reduceIte, Bool.not_true, Bool.not_false, decide_true, decide_false, eq_self, bne_self_eq_false, List.getElem?_cons_zero, List.getElem?_cons_succ, decide_eq_true_eq, Bool.false_eq_true, Bool.true_eq_false, reduceCtorEq, Nat.le_refl, hB, l2, l1, l01In_run hS])))
    all_goals clear hB l1 l2
    all_goals first
      | rfl
      | (exfalso; simp_all [Shard.head, inR]; done)
      | (exfalso; simp_all [Shard.head, inR]; omega)
  | true =>
    have hg : s.good = (s.book.list.all s.acc && (List.range s.finished.length).all s.finAt) := by simp [Shard.good, hd]
    rw [hg]
    simp only [Shard.head, Bool.and_eq_true, decide_eq_true_eq, Bool.or_eq_true, beq_iff_eq] at hd
    obtain ⟨d1, d2, d3, d5, d6⟩ := hd
    rw [d5] at hB
    have c1 : ¬ s.lo > s.hi := by omega
    have c2 : inR s.state 0 1 = true := by rcases d2 with d2 | d2 <;> simp [inR, d2]
    have c6 : ¬ (s.finished.length : Int) > 60 := by omega
    · simp only [run0, run1, run2, run3, run4, noSlot, memN, RO.dst, lk, drop, forget, number, Nat.reduceBEq, cut?, splice?, builds, List.length_cons, List.length_nil, List.drop_succ_cons, List.drop_zero, List.take_succ_cons, List.take_zero, List.cons_append, List.nil_append, List.append_nil, List.drop_nil, List.take_nil, Nat.reduceAdd, Nat.reduceLeDiff, Nat.zero_add, Nat.add_zero, ↓reduceIte, Bool.not_true, Bool.not_false, decide_true, decide_false, eq_self, bne_self_eq_false, List.getElem?_cons_zero, List.getElem?_cons_succ, decide_eq_true_eq, Bool.false_eq_true, Bool.true_eq_false, reduceCtorEq, Nat.le_refl, hB, l1, l2, c1, c2, d3, c6, l01In_run hS]
      rcases kf with ⟨a1, a2⟩ | ⟨a1, s', a2, a3, a4⟩
      · rw [a2, loop_run]
        conv in (codeF _ _ r204L1 _) => unfold r204L1
        simp only [run0, run1, run2, run3, run4, noSlot, memN, RO.dst, lk, drop, forget, number, Nat.reduceBEq, cut?, splice?, builds, List.length_cons, List.length_nil, List.drop_succ_cons, List.drop_zero, List.take_succ_cons, List.take_zero, List.cons_append, List.nil_append, List.append_nil, List.drop_nil, List.take_nil, Nat.reduceAdd, Nat.reduceLeDiff, Nat.zero_add, Nat.add_zero, ↓reduceIte, Bool.not_true, Bool.not_false, decide_true, decide_false, eq_self, bne_self_eq_false, List.getElem?_cons_zero, List.getElem?_cons_succ, decide_eq_true_eq, Bool.false_eq_true, Bool.true_eq_false, reduceCtorEq, Nat.le_refl, l2, n2]
        rcases ka with ⟨b1, b2⟩ | ⟨b1, s', b2, b3, b4⟩
        · rw [b2, loop_run]
          conv in (codeF _ _ r204L0 _) => unfold r204L0
          simp only [run0, run1, run2, run3, run4, noSlot, memN, RO.dst, lk, drop, forget, number, Nat.reduceBEq, cut?, splice?, builds, List.length_cons, List.length_nil, List.drop_succ_cons, List.drop_zero, List.take_succ_cons, List.take_zero, List.cons_append, List.nil_append, List.append_nil, List.drop_nil, List.take_nil, Nat.reduceAdd, Nat.reduceLeDiff, Nat.zero_add, Nat.add_zero, ↓reduceIte, Bool.not_true, Bool.not_false, decide_true, decide_false, eq_self, bne_self_eq_false, List.getElem?_cons_zero, List.getElem?_cons_succ, decide_eq_true_eq, Bool.false_eq_true, Bool.true_eq_false, reduceCtorEq, Nat.le_refl, l1, n1, a1, b1, Bool.and_self]
        · rw [b2]
          simp only [run0, run1, run2, run3, run4, noSlot, memN, RO.dst, lk, drop, forget, number, Nat.reduceBEq, cut?, splice?, builds, List.length_cons, List.length_nil, List.drop_succ_cons, List.drop_zero, List.take_succ_cons, List.take_zero, List.cons_append, List.nil_append, List.append_nil, List.drop_nil, List.take_nil, Nat.reduceAdd, Nat.reduceLeDiff, Nat.zero_add, Nat.add_zero, ↓reduceIte, Bool.not_true, Bool.not_false, decide_true, decide_false, eq_self, bne_self_eq_false, List.getElem?_cons_zero, List.getElem?_cons_succ, decide_eq_true_eq, Bool.false_eq_true, Bool.true_eq_false, reduceCtorEq, Nat.le_refl, b3, b4, b1, Bool.false_and]
      · rw [a2]
        simp only [run0, run1, run2, run3, run4, noSlot, memN, RO.dst, lk, drop, forget, number, Nat.reduceBEq, cut?, splice?, builds, List.length_cons, List.length_nil, List.drop_succ_cons, List.drop_zero, List.take_succ_cons, List.take_zero, List.cons_append, List.nil_append, List.append_nil, List.drop_nil, List.take_nil, Nat.reduceAdd, Nat.reduceLeDiff, Nat.zero_add, Nat.add_zero, ↓reduceIte, Bool.not_true, Bool.not_false, decide_true, decide_false, eq_self, bne_self_eq_false, List.getElem?_cons_zero, List.getElem?_cons_succ, decide_eq_true_eq, Bool.false_eq_true, Bool.true_eq_false, reduceCtorEq, Nat.le_refl, a3, a4, a1, Bool.and_false]
end
end Go.Proofs.Ytlfepembgjjejaa.A
