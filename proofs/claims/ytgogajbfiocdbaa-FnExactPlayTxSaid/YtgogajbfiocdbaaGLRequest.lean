/- The compact code of some functions: laws.eqRequestS, laws.markRequestS, laws.heldRequestS, laws.eqRequest, laws.toRequest. -/
import Derived.Test.YtgogajbfiocdbaaA1
namespace Go.Proofs.Ytgogajbfiocdbaa.A
open Go
/-- A loop of laws.eqRequestS. -/
def r48L0 : RC :=
 .seq (.seq (.reg [⟨none, .mov 11 (.t 5)⟩,
      ⟨none, .mov 12 (.t 0)⟩,
      ⟨none, .len 13 (.t 12)⟩,
      ⟨none, .bin 14 .lss (.t 11) (.t 13)⟩])
     (.cond (.t 14)
     (.skip)
     (.exit 0)))
    (.seq (.block 1 (.seq (.reg [⟨none, .chk []⟩,
       ⟨none, .mov 17 (.t 0)⟩,
       ⟨none, .mov 18 (.t 5)⟩,
       ⟨none, .idx 19 3 (.t 17) (.t 18)⟩,
       ⟨none, .mov 21 (.t 1)⟩,
       ⟨none, .mov 22 (.t 5)⟩,
       ⟨none, .idx 23 3 (.t 21) (.t 22)⟩,
       ⟨none, .load 20 19 5 true⟩,
       ⟨none, .load 24 23 5 true⟩,
       ⟨none, .call (some 25) 99 [(.t 20), (.t 24)] true⟩,
       ⟨none, .not 26 (.t 25)⟩])
      (.cond (.t 26)
      (.seq (.reg [⟨none, .mov 4 (.k (.bool false))⟩])
       (.ret))
      (.skip))))
    (.reg [⟨none, .mov 15 (.t 5)⟩,
    ⟨none, .bin 16 .add (.t 15) (.k (.int .i64 1))⟩,
    ⟨none, .mov 5 (.t 16)⟩]))
/-- laws.eqRequestS -/
def r48 : RF :=
 ⟨2, [.tmp 4],
 .seq (.reg [⟨none, .mov 4 (.k (.bool false))⟩])
 (.seq (.seq (.reg [⟨none, .mov 6 (.t 0)⟩,
   ⟨none, .len 7 (.t 6)⟩,
   ⟨none, .mov 8 (.t 1)⟩,
   ⟨none, .len 9 (.t 8)⟩,
   ⟨none, .bin 10 .neq (.t 7) (.t 9)⟩])
  (.cond (.t 10)
  (.seq (.reg [⟨none, .mov 4 (.k (.bool false))⟩])
   (.ret))
  (.skip)))
 (.seq (.seq (.reg [⟨none, .mov 5 (.k (.int .i64 0))⟩])
  (.block 0 (.loop [0, 1, 5]
   r48L0)))
 (.seq (.reg [⟨none, .mov 4 (.k (.bool true))⟩])
 (.ret))))⟩
/-- A loop of laws.markRequestS. -/
def r49L0 : RC :=
 .seq (.seq (.reg [⟨none, .mov 6 (.t 5)⟩,
      ⟨none, .mov 7 (.t 0)⟩,
      ⟨none, .len 8 (.t 7)⟩,
      ⟨none, .bin 9 .lss (.t 6) (.t 8)⟩])
     (.cond (.t 9)
     (.skip)
     (.exit 0)))
    (.seq (.block 1 (.seq (.reg [⟨none, .mov 12 (.t 0)⟩,
       ⟨none, .mov 13 (.t 5)⟩,
       ⟨none, .mov 14 (.t 1)⟩,
       ⟨none, .idx 15 3 (.t 12) (.t 13)⟩,
       ⟨none, .fad 16 15 0⟩,
       ⟨none, .store 16 1 (.t 14)⟩])
      (.seq (.reg [⟨none, .mov 17 (.t 1)⟩,
       ⟨none, .bin 18 .add (.t 17) (.k (.int .i64 1))⟩,
       ⟨none, .mov 1 (.t 18)⟩])
      (.seq (.reg [⟨none, .mov 19 (.t 0)⟩,
       ⟨none, .mov 20 (.t 5)⟩,
       ⟨none, .mov 21 (.t 1)⟩,
       ⟨none, .idx 22 3 (.t 19) (.t 20)⟩,
       ⟨none, .fad 23 22 1⟩,
       ⟨none, .store 23 1 (.t 21)⟩])
      (.seq (.reg [⟨none, .mov 24 (.t 1)⟩,
       ⟨none, .bin 25 .add (.t 24) (.k (.int .i64 1))⟩,
       ⟨none, .mov 1 (.t 25)⟩])
      (.seq (.reg [⟨none, .mov 26 (.t 0)⟩,
       ⟨none, .mov 27 (.t 5)⟩,
       ⟨none, .mov 28 (.t 1)⟩,
       ⟨none, .conv 29 .u64 (.t 28)⟩,
       ⟨none, .idx 30 3 (.t 26) (.t 27)⟩,
       ⟨none, .fad 31 30 2⟩,
       ⟨none, .store 31 1 (.t 29)⟩])
      (.seq (.reg [⟨none, .mov 32 (.t 1)⟩,
       ⟨none, .bin 33 .add (.t 32) (.k (.int .i64 1))⟩,
       ⟨none, .mov 1 (.t 33)⟩])
      (.seq (.reg [⟨none, .mov 34 (.t 0)⟩,
       ⟨none, .mov 35 (.t 5)⟩,
       ⟨none, .mov 36 (.t 1)⟩,
       ⟨none, .conv 37 .u64 (.t 36)⟩,
       ⟨none, .idx 38 3 (.t 34) (.t 35)⟩,
       ⟨none, .fad 39 38 3⟩,
       ⟨none, .store 39 1 (.t 37)⟩])
      (.seq (.reg [⟨none, .mov 40 (.t 1)⟩,
       ⟨none, .bin 41 .add (.t 40) (.k (.int .i64 1))⟩,
       ⟨none, .mov 1 (.t 41)⟩])
      (.seq (.reg [⟨none, .mov 42 (.t 0)⟩,
       ⟨none, .mov 43 (.t 5)⟩,
       ⟨none, .mov 44 (.t 1)⟩,
       ⟨none, .idx 45 3 (.t 42) (.t 43)⟩,
       ⟨none, .fad 46 45 4⟩,
       ⟨none, .store 46 1 (.t 44)⟩])
      (.reg [⟨none, .mov 47 (.t 1)⟩,
      ⟨none, .bin 48 .add (.t 47) (.k (.int .i64 1))⟩,
      ⟨none, .mov 1 (.t 48)⟩])))))))))))
    (.reg [⟨none, .mov 10 (.t 5)⟩,
    ⟨none, .bin 11 .add (.t 10) (.k (.int .i64 1))⟩,
    ⟨none, .mov 5 (.t 11)⟩]))
/-- laws.markRequestS -/
def r49 : RF :=
 ⟨2, [.tmp 4],
 .seq (.reg [⟨none, .mov 4 (.k (.int .i64 0))⟩])
 (.seq (.seq (.reg [⟨none, .mov 5 (.k (.int .i64 0))⟩])
  (.block 0 (.loop [0, 1, 5]
   r49L0)))
 (.seq (.reg [⟨none, .mov 49 (.t 1)⟩,
  ⟨none, .mov 4 (.t 49)⟩])
 (.ret)))⟩
/-- A loop of laws.heldRequestS. -/
def r50L0 : RC :=
 .seq (.seq (.reg [⟨none, .mov 6 (.t 5)⟩,
      ⟨none, .mov 7 (.t 0)⟩,
      ⟨none, .len 8 (.t 7)⟩,
      ⟨none, .bin 9 .lss (.t 6) (.t 8)⟩])
     (.cond (.t 9)
     (.skip)
     (.exit 0)))
    (.seq (.block 1 (.seq (.seq (.reg [⟨none, .mov 12 (.t 0)⟩,
        ⟨none, .mov 13 (.t 5)⟩,
        ⟨none, .idx 14 3 (.t 12) (.t 13)⟩,
        ⟨none, .fad 15 14 0⟩,
        ⟨none, .load 16 15 1 false⟩,
        ⟨none, .mov 17 (.t 1)⟩,
        ⟨none, .bin 18 .neq (.t 16) (.t 17)⟩])
       (.cond (.t 18)
       (.seq (.reg [⟨none, .mov 4 (.k (.int .i64 (-1)))⟩])
        (.ret))
       (.skip)))
      (.seq (.reg [⟨none, .mov 19 (.t 1)⟩,
       ⟨none, .bin 20 .add (.t 19) (.k (.int .i64 1))⟩,
       ⟨none, .mov 1 (.t 20)⟩])
      (.seq (.seq (.reg [⟨none, .mov 21 (.t 0)⟩,
        ⟨none, .mov 22 (.t 5)⟩,
        ⟨none, .idx 23 3 (.t 21) (.t 22)⟩,
        ⟨none, .fad 24 23 1⟩,
        ⟨none, .load 25 24 1 false⟩,
        ⟨none, .mov 26 (.t 1)⟩,
        ⟨none, .bin 27 .neq (.t 25) (.t 26)⟩])
       (.cond (.t 27)
       (.seq (.reg [⟨none, .mov 4 (.k (.int .i64 (-1)))⟩])
        (.ret))
       (.skip)))
      (.seq (.reg [⟨none, .mov 28 (.t 1)⟩,
       ⟨none, .bin 29 .add (.t 28) (.k (.int .i64 1))⟩,
       ⟨none, .mov 1 (.t 29)⟩])
      (.seq (.seq (.reg [⟨none, .mov 30 (.t 0)⟩,
        ⟨none, .mov 31 (.t 5)⟩,
        ⟨none, .idx 32 3 (.t 30) (.t 31)⟩,
        ⟨none, .fad 33 32 2⟩,
        ⟨none, .load 34 33 1 false⟩,
        ⟨none, .mov 35 (.t 1)⟩,
        ⟨none, .conv 36 .u64 (.t 35)⟩,
        ⟨none, .bin 37 .neq (.t 34) (.t 36)⟩])
       (.cond (.t 37)
       (.seq (.reg [⟨none, .mov 4 (.k (.int .i64 (-1)))⟩])
        (.ret))
       (.skip)))
      (.seq (.reg [⟨none, .mov 38 (.t 1)⟩,
       ⟨none, .bin 39 .add (.t 38) (.k (.int .i64 1))⟩,
       ⟨none, .mov 1 (.t 39)⟩])
      (.seq (.seq (.reg [⟨none, .mov 40 (.t 0)⟩,
        ⟨none, .mov 41 (.t 5)⟩,
        ⟨none, .idx 42 3 (.t 40) (.t 41)⟩,
        ⟨none, .fad 43 42 3⟩,
        ⟨none, .load 44 43 1 false⟩,
        ⟨none, .mov 45 (.t 1)⟩,
        ⟨none, .conv 46 .u64 (.t 45)⟩,
        ⟨none, .bin 47 .neq (.t 44) (.t 46)⟩])
       (.cond (.t 47)
       (.seq (.reg [⟨none, .mov 4 (.k (.int .i64 (-1)))⟩])
        (.ret))
       (.skip)))
      (.seq (.reg [⟨none, .mov 48 (.t 1)⟩,
       ⟨none, .bin 49 .add (.t 48) (.k (.int .i64 1))⟩,
       ⟨none, .mov 1 (.t 49)⟩])
      (.seq (.seq (.reg [⟨none, .mov 50 (.t 0)⟩,
        ⟨none, .mov 51 (.t 5)⟩,
        ⟨none, .idx 52 3 (.t 50) (.t 51)⟩,
        ⟨none, .fad 53 52 4⟩,
        ⟨none, .load 54 53 1 false⟩,
        ⟨none, .mov 55 (.t 1)⟩,
        ⟨none, .bin 56 .neq (.t 54) (.t 55)⟩])
       (.cond (.t 56)
       (.seq (.reg [⟨none, .mov 4 (.k (.int .i64 (-1)))⟩])
        (.ret))
       (.skip)))
      (.reg [⟨none, .mov 57 (.t 1)⟩,
      ⟨none, .bin 58 .add (.t 57) (.k (.int .i64 1))⟩,
      ⟨none, .mov 1 (.t 58)⟩])))))))))))
    (.reg [⟨none, .mov 10 (.t 5)⟩,
    ⟨none, .bin 11 .add (.t 10) (.k (.int .i64 1))⟩,
    ⟨none, .mov 5 (.t 11)⟩]))
/-- laws.heldRequestS -/
def r50 : RF :=
 ⟨2, [.tmp 4],
 .seq (.reg [⟨none, .mov 4 (.k (.int .i64 0))⟩])
 (.seq (.seq (.reg [⟨none, .mov 5 (.k (.int .i64 0))⟩])
  (.block 0 (.loop [0, 1, 5]
   r50L0)))
 (.seq (.reg [⟨none, .mov 59 (.t 1)⟩,
  ⟨none, .mov 4 (.t 59)⟩])
 (.ret)))⟩
/-- laws.eqRequest -/
def r99 : RF :=
 ⟨2, [.tmp 4],
 .seq (.reg [⟨none, .locb 2 (.t 0)⟩,
  ⟨none, .locb 3 (.t 1)⟩,
  ⟨none, .mov 4 (.k (.bool false))⟩])
 (.seq (.seq (.reg [⟨none, .fad 5 2 0⟩,
   ⟨none, .load 6 5 1 false⟩,
   ⟨none, .fad 7 3 0⟩,
   ⟨none, .load 8 7 1 false⟩,
   ⟨none, .bin 9 .neq (.t 6) (.t 8)⟩])
  (.cond (.t 9)
  (.seq (.reg [⟨none, .mov 4 (.k (.bool false))⟩])
   (.ret))
  (.skip)))
 (.seq (.seq (.reg [⟨none, .fad 10 2 1⟩,
   ⟨none, .load 11 10 1 false⟩,
   ⟨none, .fad 12 3 1⟩,
   ⟨none, .load 13 12 1 false⟩,
   ⟨none, .bin 14 .neq (.t 11) (.t 13)⟩])
  (.cond (.t 14)
  (.seq (.reg [⟨none, .mov 4 (.k (.bool false))⟩])
   (.ret))
  (.skip)))
 (.seq (.seq (.reg [⟨none, .fad 15 2 2⟩,
   ⟨none, .load 16 15 1 false⟩,
   ⟨none, .fad 17 3 2⟩,
   ⟨none, .load 18 17 1 false⟩,
   ⟨none, .bin 19 .neq (.t 16) (.t 18)⟩])
  (.cond (.t 19)
  (.seq (.reg [⟨none, .mov 4 (.k (.bool false))⟩])
   (.ret))
  (.skip)))
 (.seq (.seq (.reg [⟨none, .fad 20 2 3⟩,
   ⟨none, .load 21 20 1 false⟩,
   ⟨none, .fad 22 3 3⟩,
   ⟨none, .load 23 22 1 false⟩,
   ⟨none, .bin 24 .neq (.t 21) (.t 23)⟩])
  (.cond (.t 24)
  (.seq (.reg [⟨none, .mov 4 (.k (.bool false))⟩])
   (.ret))
  (.skip)))
 (.seq (.seq (.reg [⟨none, .fad 25 2 4⟩,
   ⟨none, .load 26 25 1 false⟩,
   ⟨none, .fad 27 3 4⟩,
   ⟨none, .load 28 27 1 false⟩,
   ⟨none, .bin 29 .neq (.t 26) (.t 28)⟩])
  (.cond (.t 29)
  (.seq (.reg [⟨none, .mov 4 (.k (.bool false))⟩])
   (.ret))
  (.skip)))
 (.seq (.reg [⟨none, .mov 4 (.k (.bool true))⟩])
 (.ret)))))))⟩
/-- laws.toRequest -/
def r109 : RF :=
 ⟨1, [.cell 2 5 true],
 .seq (.reg [⟨none, .locb 1 (.t 0)⟩,
  ⟨none, .loc 2 [.int .i64 0, .int .i64 0, .int .u64 0, .int .u64 0, .int .i64 0]⟩])
 (.seq (.reg [⟨none, .loc 3 [.int .i64 0, .int .i64 0, .int .u64 0, .int .u64 0, .int .i64 0]⟩])
 (.seq (.reg [⟨none, .fad 4 1 0⟩,
  ⟨none, .load 5 4 1 false⟩,
  ⟨none, .fad 6 3 0⟩,
  ⟨none, .store 6 1 (.t 5)⟩])
 (.seq (.reg [⟨none, .fad 7 1 1⟩,
  ⟨none, .load 8 7 1 false⟩,
  ⟨none, .fad 9 3 1⟩,
  ⟨none, .store 9 1 (.t 8)⟩])
 (.seq (.reg [⟨none, .fad 10 1 2⟩,
  ⟨none, .load 11 10 1 false⟩,
  ⟨none, .fad 12 3 2⟩,
  ⟨none, .store 12 1 (.t 11)⟩])
 (.seq (.reg [⟨none, .fad 13 1 3⟩,
  ⟨none, .load 14 13 1 false⟩,
  ⟨none, .fad 15 3 3⟩,
  ⟨none, .store 15 1 (.t 14)⟩])
 (.seq (.reg [⟨none, .fad 16 1 4⟩,
  ⟨none, .load 17 16 1 false⟩,
  ⟨none, .fad 18 3 4⟩,
  ⟨none, .store 18 1 (.t 17)⟩])
 (.seq (.reg [⟨none, .load 19 3 5 true⟩,
  ⟨none, .store 2 5 (.t 19)⟩])
 (.ret))))))))⟩
/-- The functions of this text, with their numbers. -/
def tLRequest : List (Nat × RF) := [(48, r48), (49, r49), (50, r50), (99, r99), (109, r109)]
end Go.Proofs.Ytgogajbfiocdbaa.A
