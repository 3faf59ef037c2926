/- The compact code of some functions: laws.toPast, laws.szPastS, laws.toPastS, laws.eqPastS, laws.markPastS, laws.heldPastS, laws.eqPast. -/
import Derived.Test.YtgogajbfiocdbaaA1
namespace Go.Proofs.Ytgogajbfiocdbaa.A
open Go
/-- laws.toPast -/
def r9 : RF :=
 ⟨1, [.cell 2 8 true],
 .seq (.reg [⟨none, .locb 1 (.t 0)⟩,
  ⟨none, .loc 2 [.int .i64 0, .int .u64 0, .int .u64 0, .int .u64 0, .int .i64 0, .int .i64 0, .int .i64 0, .int .u64 0]⟩])
 (.seq (.reg [⟨none, .loc 3 [.int .i64 0, .int .u64 0, .int .u64 0, .int .u64 0, .int .i64 0, .int .i64 0, .int .i64 0, .int .u64 0]⟩])
 (.seq (.reg [⟨none, .fad 4 1 0⟩,
  ⟨none, .load 5 4 4 true⟩,
  ⟨none, .call (some 6) 26 [(.t 5)] false⟩,
  ⟨none, .fad 7 3 0⟩,
  ⟨none, .store 7 4 (.t 6)⟩])
 (.seq (.reg [⟨none, .fad 8 1 4⟩,
  ⟨none, .load 9 8 1 false⟩,
  ⟨none, .fad 10 3 4⟩,
  ⟨none, .store 10 1 (.t 9)⟩])
 (.seq (.reg [⟨none, .fad 11 1 5⟩,
  ⟨none, .load 12 11 1 false⟩,
  ⟨none, .fad 13 3 5⟩,
  ⟨none, .store 13 1 (.t 12)⟩])
 (.seq (.reg [⟨none, .fad 14 1 6⟩,
  ⟨none, .load 15 14 1 false⟩,
  ⟨none, .fad 16 3 6⟩,
  ⟨none, .store 16 1 (.t 15)⟩])
 (.seq (.reg [⟨none, .fad 17 1 7⟩,
  ⟨none, .load 18 17 1 false⟩,
  ⟨none, .fad 19 3 7⟩,
  ⟨none, .store 19 1 (.t 18)⟩])
 (.seq (.reg [⟨none, .load 20 3 8 true⟩,
  ⟨none, .store 2 8 (.t 20)⟩])
 (.ret))))))))⟩
/-- laws.szPastS -/
def r40 : RF :=
 ⟨2, [.tmp 4],
 .seq (.reg [⟨none, .mov 4 (.k (.int .i64 0))⟩])
 (.seq (.reg [⟨none, .mov 5 (.t 1)⟩,
  ⟨none, .mov 6 (.t 0)⟩,
  ⟨none, .len 7 (.t 6)⟩,
  ⟨none, .bin 8 .sub (.t 5) (.t 7)⟩,
  ⟨none, .mov 1 (.t 8)⟩])
 (.seq (.seq (.reg [⟨none, .mov 9 (.t 1)⟩,
   ⟨none, .bin 10 .lss (.t 9) (.k (.int .i64 0))⟩])
  (.cond (.t 10)
  (.seq (.reg [⟨none, .mov 4 (.k (.int .i64 (-1)))⟩])
   (.ret))
  (.skip)))
 (.seq (.reg [⟨none, .mov 11 (.t 1)⟩,
  ⟨none, .mov 4 (.t 11)⟩])
 (.ret))))⟩
/-- A loop of laws.toPastS. -/
def r41L0 : RC :=
 .seq (.seq (.reg [⟨none, .mov 8 (.t 4)⟩,
      ⟨none, .mov 9 (.t 0)⟩,
      ⟨none, .len 10 (.t 9)⟩,
      ⟨none, .bin 11 .lss (.t 8) (.t 10)⟩])
     (.cond (.t 11)
     (.skip)
     (.exit 0)))
    (.seq (.block 1 (.reg [⟨none, .mov 14 (.t 3)⟩,
      ⟨none, .mov 15 (.t 4)⟩,
      ⟨none, .mov 16 (.t 0)⟩,
      ⟨none, .mov 17 (.t 4)⟩,
      ⟨none, .idx 18 2 (.t 16) (.t 17)⟩,
      ⟨none, .load 19 18 8 true⟩,
      ⟨none, .call (some 20) 9 [(.t 19)] false⟩,
      ⟨none, .idx 21 1 (.t 14) (.t 15)⟩,
      ⟨none, .store 21 8 (.t 20)⟩]))
    (.reg [⟨none, .mov 12 (.t 4)⟩,
    ⟨none, .bin 13 .add (.t 12) (.k (.int .i64 1))⟩,
    ⟨none, .mov 4 (.t 13)⟩]))
/-- laws.toPastS -/
def r41 : RF :=
 ⟨1, [.tmp 2],
 .seq (.reg [⟨none, .mov 2 (.k (.nil))⟩])
 (.seq (.reg [⟨none, .mov 5 (.t 0)⟩,
  ⟨none, .len 6 (.t 5)⟩,
  ⟨none, .mks 7 1 64 [.int .i64 0, .int .u64 0, .int .u64 0, .int .u64 0, .int .i64 0, .int .i64 0, .int .i64 0, .int .u64 0] (.t 6) (.t 6)⟩,
  ⟨none, .mov 3 (.t 7)⟩])
 (.seq (.seq (.reg [⟨none, .mov 4 (.k (.int .i64 0))⟩])
  (.block 0 (.loop [0, 3, 4]
   r41L0)))
 (.seq (.reg [⟨none, .mov 22 (.t 3)⟩,
  ⟨none, .mov 2 (.t 22)⟩])
 (.ret))))⟩
/-- A loop of laws.eqPastS. -/
def r44L0 : RC :=
 .seq (.seq (.reg [⟨none, .mov 11 (.t 5)⟩,
      ⟨none, .mov 12 (.t 0)⟩,
      ⟨none, .len 13 (.t 12)⟩,
      ⟨none, .bin 14 .lss (.t 11) (.t 13)⟩])
     (.cond (.t 14)
     (.skip)
     (.exit 0)))
    (.seq (.block 1 (.seq (.reg [⟨none, .chk []⟩,
       ⟨none, .mov 17 (.t 0)⟩,
       ⟨none, .mov 18 (.t 5)⟩,
       ⟨none, .idx 19 1 (.t 17) (.t 18)⟩,
       ⟨none, .mov 21 (.t 1)⟩,
       ⟨none, .mov 22 (.t 5)⟩,
       ⟨none, .idx 23 1 (.t 21) (.t 22)⟩,
       ⟨none, .load 20 19 8 true⟩,
       ⟨none, .load 24 23 8 true⟩,
       ⟨none, .call (some 25) 98 [(.t 20), (.t 24)] true⟩,
       ⟨none, .not 26 (.t 25)⟩])
      (.cond (.t 26)
      (.seq (.reg [⟨none, .mov 4 (.k (.bool false))⟩])
       (.ret))
      (.skip))))
    (.reg [⟨none, .mov 15 (.t 5)⟩,
    ⟨none, .bin 16 .add (.t 15) (.k (.int .i64 1))⟩,
    ⟨none, .mov 5 (.t 16)⟩]))
/-- laws.eqPastS -/
def r44 : RF :=
 ⟨2, [.tmp 4],
 .seq (.reg [⟨none, .mov 4 (.k (.bool false))⟩])
 (.seq (.seq (.reg [⟨none, .mov 6 (.t 0)⟩,
   ⟨none, .len 7 (.t 6)⟩,
   ⟨none, .mov 8 (.t 1)⟩,
   ⟨none, .len 9 (.t 8)⟩,
   ⟨none, .bin 10 .neq (.t 7) (.t 9)⟩])
  (.cond (.t 10)
  (.seq (.reg [⟨none, .mov 4 (.k (.bool false))⟩])
   (.ret))
  (.skip)))
 (.seq (.seq (.reg [⟨none, .mov 5 (.k (.int .i64 0))⟩])
  (.block 0 (.loop [0, 1, 5]
   r44L0)))
 (.seq (.reg [⟨none, .mov 4 (.k (.bool true))⟩])
 (.ret))))⟩
/-- A loop of laws.markPastS. -/
def r54L0 : RC :=
 .seq (.seq (.reg [⟨none, .mov 6 (.t 5)⟩,
      ⟨none, .mov 7 (.t 0)⟩,
      ⟨none, .len 8 (.t 7)⟩,
      ⟨none, .bin 9 .lss (.t 6) (.t 8)⟩])
     (.cond (.t 9)
     (.skip)
     (.exit 0)))
    (.seq (.block 1 (.seq (.reg [⟨none, .mov 12 (.t 0)⟩,
       ⟨none, .mov 13 (.t 5)⟩,
       ⟨none, .mov 14 (.t 1)⟩,
       ⟨none, .idx 15 1 (.t 12) (.t 13)⟩,
       ⟨none, .fad 16 15 0⟩,
       ⟨none, .fad 17 16 0⟩,
       ⟨none, .store 17 1 (.t 14)⟩])
      (.seq (.reg [⟨none, .mov 18 (.t 1)⟩,
       ⟨none, .bin 19 .add (.t 18) (.k (.int .i64 1))⟩,
       ⟨none, .mov 1 (.t 19)⟩])
      (.seq (.reg [⟨none, .mov 20 (.t 0)⟩,
       ⟨none, .mov 21 (.t 5)⟩,
       ⟨none, .mov 22 (.t 1)⟩,
       ⟨none, .conv 23 .u64 (.t 22)⟩,
       ⟨none, .idx 24 1 (.t 20) (.t 21)⟩,
       ⟨none, .fad 25 24 0⟩,
       ⟨none, .fad 26 25 1⟩,
       ⟨none, .store 26 1 (.t 23)⟩])
      (.seq (.reg [⟨none, .mov 27 (.t 1)⟩,
       ⟨none, .bin 28 .add (.t 27) (.k (.int .i64 1))⟩,
       ⟨none, .mov 1 (.t 28)⟩])
      (.seq (.reg [⟨none, .mov 29 (.t 0)⟩,
       ⟨none, .mov 30 (.t 5)⟩,
       ⟨none, .mov 31 (.t 1)⟩,
       ⟨none, .conv 32 .u64 (.t 31)⟩,
       ⟨none, .idx 33 1 (.t 29) (.t 30)⟩,
       ⟨none, .fad 34 33 0⟩,
       ⟨none, .fad 35 34 2⟩,
       ⟨none, .store 35 1 (.t 32)⟩])
      (.seq (.reg [⟨none, .mov 36 (.t 1)⟩,
       ⟨none, .bin 37 .add (.t 36) (.k (.int .i64 1))⟩,
       ⟨none, .mov 1 (.t 37)⟩])
      (.seq (.reg [⟨none, .mov 38 (.t 0)⟩,
       ⟨none, .mov 39 (.t 5)⟩,
       ⟨none, .mov 40 (.t 1)⟩,
       ⟨none, .conv 41 .u64 (.t 40)⟩,
       ⟨none, .idx 42 1 (.t 38) (.t 39)⟩,
       ⟨none, .fad 43 42 0⟩,
       ⟨none, .fad 44 43 3⟩,
       ⟨none, .store 44 1 (.t 41)⟩])
      (.seq (.reg [⟨none, .mov 45 (.t 1)⟩,
       ⟨none, .bin 46 .add (.t 45) (.k (.int .i64 1))⟩,
       ⟨none, .mov 1 (.t 46)⟩])
      (.seq (.reg [⟨none, .mov 47 (.t 0)⟩,
       ⟨none, .mov 48 (.t 5)⟩,
       ⟨none, .mov 49 (.t 1)⟩,
       ⟨none, .idx 50 1 (.t 47) (.t 48)⟩,
       ⟨none, .fad 51 50 4⟩,
       ⟨none, .store 51 1 (.t 49)⟩])
      (.seq (.reg [⟨none, .mov 52 (.t 1)⟩,
       ⟨none, .bin 53 .add (.t 52) (.k (.int .i64 1))⟩,
       ⟨none, .mov 1 (.t 53)⟩])
      (.seq (.reg [⟨none, .mov 54 (.t 0)⟩,
       ⟨none, .mov 55 (.t 5)⟩,
       ⟨none, .mov 56 (.t 1)⟩,
       ⟨none, .idx 57 1 (.t 54) (.t 55)⟩,
       ⟨none, .fad 58 57 5⟩,
       ⟨none, .store 58 1 (.t 56)⟩])
      (.seq (.reg [⟨none, .mov 59 (.t 1)⟩,
       ⟨none, .bin 60 .add (.t 59) (.k (.int .i64 1))⟩,
       ⟨none, .mov 1 (.t 60)⟩])
      (.seq (.reg [⟨none, .mov 61 (.t 0)⟩,
       ⟨none, .mov 62 (.t 5)⟩,
       ⟨none, .mov 63 (.t 1)⟩,
       ⟨none, .idx 64 1 (.t 61) (.t 62)⟩,
       ⟨none, .fad 65 64 6⟩,
       ⟨none, .store 65 1 (.t 63)⟩])
      (.seq (.reg [⟨none, .mov 66 (.t 1)⟩,
       ⟨none, .bin 67 .add (.t 66) (.k (.int .i64 1))⟩,
       ⟨none, .mov 1 (.t 67)⟩])
      (.seq (.reg [⟨none, .mov 68 (.t 0)⟩,
       ⟨none, .mov 69 (.t 5)⟩,
       ⟨none, .mov 70 (.t 1)⟩,
       ⟨none, .conv 71 .u64 (.t 70)⟩,
       ⟨none, .idx 72 1 (.t 68) (.t 69)⟩,
       ⟨none, .fad 73 72 7⟩,
       ⟨none, .store 73 1 (.t 71)⟩])
      (.reg [⟨none, .mov 74 (.t 1)⟩,
      ⟨none, .bin 75 .add (.t 74) (.k (.int .i64 1))⟩,
      ⟨none, .mov 1 (.t 75)⟩])))))))))))))))))
    (.reg [⟨none, .mov 10 (.t 5)⟩,
    ⟨none, .bin 11 .add (.t 10) (.k (.int .i64 1))⟩,
    ⟨none, .mov 5 (.t 11)⟩]))
/-- laws.markPastS -/
def r54 : RF :=
 ⟨2, [.tmp 4],
 .seq (.reg [⟨none, .mov 4 (.k (.int .i64 0))⟩])
 (.seq (.seq (.reg [⟨none, .mov 5 (.k (.int .i64 0))⟩])
  (.block 0 (.loop [0, 1, 5]
   r54L0)))
 (.seq (.reg [⟨none, .mov 76 (.t 1)⟩,
  ⟨none, .mov 4 (.t 76)⟩])
 (.ret)))⟩
/-- A loop of laws.heldPastS. -/
def r55L0 : RC :=
 .seq (.seq (.reg [⟨none, .mov 6 (.t 5)⟩,
      ⟨none, .mov 7 (.t 0)⟩,
      ⟨none, .len 8 (.t 7)⟩,
      ⟨none, .bin 9 .lss (.t 6) (.t 8)⟩])
     (.cond (.t 9)
     (.skip)
     (.exit 0)))
    (.seq (.block 1 (.seq (.seq (.reg [⟨none, .mov 12 (.t 0)⟩,
        ⟨none, .mov 13 (.t 5)⟩,
        ⟨none, .idx 14 1 (.t 12) (.t 13)⟩,
        ⟨none, .fad 15 14 0⟩,
        ⟨none, .fad 16 15 0⟩,
        ⟨none, .load 17 16 1 false⟩,
        ⟨none, .mov 18 (.t 1)⟩,
        ⟨none, .bin 19 .neq (.t 17) (.t 18)⟩])
       (.cond (.t 19)
       (.seq (.reg [⟨none, .mov 4 (.k (.int .i64 (-1)))⟩])
        (.ret))
       (.skip)))
      (.seq (.reg [⟨none, .mov 20 (.t 1)⟩,
       ⟨none, .bin 21 .add (.t 20) (.k (.int .i64 1))⟩,
       ⟨none, .mov 1 (.t 21)⟩])
      (.seq (.seq (.reg [⟨none, .mov 22 (.t 0)⟩,
        ⟨none, .mov 23 (.t 5)⟩,
        ⟨none, .idx 24 1 (.t 22) (.t 23)⟩,
        ⟨none, .fad 25 24 0⟩,
        ⟨none, .fad 26 25 1⟩,
        ⟨none, .load 27 26 1 false⟩,
        ⟨none, .mov 28 (.t 1)⟩,
        ⟨none, .conv 29 .u64 (.t 28)⟩,
        ⟨none, .bin 30 .neq (.t 27) (.t 29)⟩])
       (.cond (.t 30)
       (.seq (.reg [⟨none, .mov 4 (.k (.int .i64 (-1)))⟩])
        (.ret))
       (.skip)))
      (.seq (.reg [⟨none, .mov 31 (.t 1)⟩,
       ⟨none, .bin 32 .add (.t 31) (.k (.int .i64 1))⟩,
       ⟨none, .mov 1 (.t 32)⟩])
      (.seq (.seq (.reg [⟨none, .mov 33 (.t 0)⟩,
        ⟨none, .mov 34 (.t 5)⟩,
        ⟨none, .idx 35 1 (.t 33) (.t 34)⟩,
        ⟨none, .fad 36 35 0⟩,
        ⟨none, .fad 37 36 2⟩,
        ⟨none, .load 38 37 1 false⟩,
        ⟨none, .mov 39 (.t 1)⟩,
        ⟨none, .conv 40 .u64 (.t 39)⟩,
        ⟨none, .bin 41 .neq (.t 38) (.t 40)⟩])
       (.cond (.t 41)
       (.seq (.reg [⟨none, .mov 4 (.k (.int .i64 (-1)))⟩])
        (.ret))
       (.skip)))
      (.seq (.reg [⟨none, .mov 42 (.t 1)⟩,
       ⟨none, .bin 43 .add (.t 42) (.k (.int .i64 1))⟩,
       ⟨none, .mov 1 (.t 43)⟩])
      (.seq (.seq (.reg [⟨none, .mov 44 (.t 0)⟩,
        ⟨none, .mov 45 (.t 5)⟩,
        ⟨none, .idx 46 1 (.t 44) (.t 45)⟩,
        ⟨none, .fad 47 46 0⟩,
        ⟨none, .fad 48 47 3⟩,
        ⟨none, .load 49 48 1 false⟩,
        ⟨none, .mov 50 (.t 1)⟩,
        ⟨none, .conv 51 .u64 (.t 50)⟩,
        ⟨none, .bin 52 .neq (.t 49) (.t 51)⟩])
       (.cond (.t 52)
       (.seq (.reg [⟨none, .mov 4 (.k (.int .i64 (-1)))⟩])
        (.ret))
       (.skip)))
      (.seq (.reg [⟨none, .mov 53 (.t 1)⟩,
       ⟨none, .bin 54 .add (.t 53) (.k (.int .i64 1))⟩,
       ⟨none, .mov 1 (.t 54)⟩])
      (.seq (.seq (.reg [⟨none, .mov 55 (.t 0)⟩,
        ⟨none, .mov 56 (.t 5)⟩,
        ⟨none, .idx 57 1 (.t 55) (.t 56)⟩,
        ⟨none, .fad 58 57 4⟩,
        ⟨none, .load 59 58 1 false⟩,
        ⟨none, .mov 60 (.t 1)⟩,
        ⟨none, .bin 61 .neq (.t 59) (.t 60)⟩])
       (.cond (.t 61)
       (.seq (.reg [⟨none, .mov 4 (.k (.int .i64 (-1)))⟩])
        (.ret))
       (.skip)))
      (.seq (.reg [⟨none, .mov 62 (.t 1)⟩,
       ⟨none, .bin 63 .add (.t 62) (.k (.int .i64 1))⟩,
       ⟨none, .mov 1 (.t 63)⟩])
      (.seq (.seq (.reg [⟨none, .mov 64 (.t 0)⟩,
        ⟨none, .mov 65 (.t 5)⟩,
        ⟨none, .idx 66 1 (.t 64) (.t 65)⟩,
        ⟨none, .fad 67 66 5⟩,
        ⟨none, .load 68 67 1 false⟩,
        ⟨none, .mov 69 (.t 1)⟩,
        ⟨none, .bin 70 .neq (.t 68) (.t 69)⟩])
       (.cond (.t 70)
       (.seq (.reg [⟨none, .mov 4 (.k (.int .i64 (-1)))⟩])
        (.ret))
       (.skip)))
      (.seq (.reg [⟨none, .mov 71 (.t 1)⟩,
       ⟨none, .bin 72 .add (.t 71) (.k (.int .i64 1))⟩,
       ⟨none, .mov 1 (.t 72)⟩])
      (.seq (.seq (.reg [⟨none, .mov 73 (.t 0)⟩,
        ⟨none, .mov 74 (.t 5)⟩,
        ⟨none, .idx 75 1 (.t 73) (.t 74)⟩,
        ⟨none, .fad 76 75 6⟩,
        ⟨none, .load 77 76 1 false⟩,
        ⟨none, .mov 78 (.t 1)⟩,
        ⟨none, .bin 79 .neq (.t 77) (.t 78)⟩])
       (.cond (.t 79)
       (.seq (.reg [⟨none, .mov 4 (.k (.int .i64 (-1)))⟩])
        (.ret))
       (.skip)))
      (.seq (.reg [⟨none, .mov 80 (.t 1)⟩,
       ⟨none, .bin 81 .add (.t 80) (.k (.int .i64 1))⟩,
       ⟨none, .mov 1 (.t 81)⟩])
      (.seq (.seq (.reg [⟨none, .mov 82 (.t 0)⟩,
        ⟨none, .mov 83 (.t 5)⟩,
        ⟨none, .idx 84 1 (.t 82) (.t 83)⟩,
        ⟨none, .fad 85 84 7⟩,
        ⟨none, .load 86 85 1 false⟩,
        ⟨none, .mov 87 (.t 1)⟩,
        ⟨none, .conv 88 .u64 (.t 87)⟩,
        ⟨none, .bin 89 .neq (.t 86) (.t 88)⟩])
       (.cond (.t 89)
       (.seq (.reg [⟨none, .mov 4 (.k (.int .i64 (-1)))⟩])
        (.ret))
       (.skip)))
      (.reg [⟨none, .mov 90 (.t 1)⟩,
      ⟨none, .bin 91 .add (.t 90) (.k (.int .i64 1))⟩,
      ⟨none, .mov 1 (.t 91)⟩])))))))))))))))))
    (.reg [⟨none, .mov 10 (.t 5)⟩,
    ⟨none, .bin 11 .add (.t 10) (.k (.int .i64 1))⟩,
    ⟨none, .mov 5 (.t 11)⟩]))
/-- laws.heldPastS -/
def r55 : RF :=
 ⟨2, [.tmp 4],
 .seq (.reg [⟨none, .mov 4 (.k (.int .i64 0))⟩])
 (.seq (.seq (.reg [⟨none, .mov 5 (.k (.int .i64 0))⟩])
  (.block 0 (.loop [0, 1, 5]
   r55L0)))
 (.seq (.reg [⟨none, .mov 92 (.t 1)⟩,
  ⟨none, .mov 4 (.t 92)⟩])
 (.ret)))⟩
/-- laws.eqPast -/
def r98 : RF :=
 ⟨2, [.tmp 4],
 .seq (.reg [⟨none, .locb 2 (.t 0)⟩,
  ⟨none, .locb 3 (.t 1)⟩,
  ⟨none, .mov 4 (.k (.bool false))⟩])
 (.seq (.seq (.reg [⟨none, .fad 5 2 0⟩,
   ⟨none, .load 6 5 4 true⟩,
   ⟨none, .fad 7 3 0⟩,
   ⟨none, .load 8 7 4 true⟩,
   ⟨none, .call (some 9) 119 [(.t 6), (.t 8)] false⟩,
   ⟨none, .not 10 (.t 9)⟩])
  (.cond (.t 10)
  (.seq (.reg [⟨none, .mov 4 (.k (.bool false))⟩])
   (.ret))
  (.skip)))
 (.seq (.seq (.reg [⟨none, .fad 11 2 4⟩,
   ⟨none, .load 12 11 1 false⟩,
   ⟨none, .fad 13 3 4⟩,
   ⟨none, .load 14 13 1 false⟩,
   ⟨none, .bin 15 .neq (.t 12) (.t 14)⟩])
  (.cond (.t 15)
  (.seq (.reg [⟨none, .mov 4 (.k (.bool false))⟩])
   (.ret))
  (.skip)))
 (.seq (.seq (.reg [⟨none, .fad 16 2 5⟩,
   ⟨none, .load 17 16 1 false⟩,
   ⟨none, .fad 18 3 5⟩,
   ⟨none, .load 19 18 1 false⟩,
   ⟨none, .bin 20 .neq (.t 17) (.t 19)⟩])
  (.cond (.t 20)
  (.seq (.reg [⟨none, .mov 4 (.k (.bool false))⟩])
   (.ret))
  (.skip)))
 (.seq (.seq (.reg [⟨none, .fad 21 2 6⟩,
   ⟨none, .load 22 21 1 false⟩,
   ⟨none, .fad 23 3 6⟩,
   ⟨none, .load 24 23 1 false⟩,
   ⟨none, .bin 25 .neq (.t 22) (.t 24)⟩])
  (.cond (.t 25)
  (.seq (.reg [⟨none, .mov 4 (.k (.bool false))⟩])
   (.ret))
  (.skip)))
 (.seq (.seq (.reg [⟨none, .fad 26 2 7⟩,
   ⟨none, .load 27 26 1 false⟩,
   ⟨none, .fad 28 3 7⟩,
   ⟨none, .load 29 28 1 false⟩,
   ⟨none, .bin 30 .neq (.t 27) (.t 29)⟩])
  (.cond (.t 30)
  (.seq (.reg [⟨none, .mov 4 (.k (.bool false))⟩])
   (.ret))
  (.skip)))
 (.seq (.reg [⟨none, .mov 4 (.k (.bool true))⟩])
 (.ret)))))))⟩
/-- The functions of this text, with their numbers. -/
def tLPast : List (Nat × RF) := [(9, r9), (40, r40), (41, r41), (44, r44), (54, r54), (55, r55), (98, r98)]
end Go.Proofs.Ytgogajbfiocdbaa.A
