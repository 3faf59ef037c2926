/- The compact code of some functions: laws.szRangeS, laws.toRangeS, laws.eqRangeS, laws.markRangeS, laws.toRange, laws.eqRange, laws.heldRangeS. -/
import Derived.Test.YtgogajbfiocdbaaA1
namespace Go.Proofs.Ytgogajbfiocdbaa.A
open Go
/-- laws.szRangeS -/
def r102 : RF :=
 ⟨2, [.tmp 4],
 .seq (.reg [⟨none, .mov 4 (.k (.int .i64 0))⟩])
 (.seq (.reg [⟨none, .mov 5 (.t 1)⟩,
  ⟨none, .mov 6 (.t 0)⟩,
  ⟨none, .len 7 (.t 6)⟩,
  ⟨none, .bin 8 .sub (.t 5) (.t 7)⟩,
  ⟨none, .mov 1 (.t 8)⟩])
 (.seq (.seq (.reg [⟨none, .mov 9 (.t 1)⟩,
   ⟨none, .bin 10 .lss (.t 9) (.k (.int .i64 0))⟩])
  (.cond (.t 10)
  (.seq (.reg [⟨none, .mov 4 (.k (.int .i64 (-1)))⟩])
   (.ret))
  (.skip)))
 (.seq (.reg [⟨none, .mov 11 (.t 1)⟩,
  ⟨none, .mov 4 (.t 11)⟩])
 (.ret))))⟩
/-- A loop of laws.toRangeS. -/
def r105L0 : RC :=
 .seq (.seq (.reg [⟨none, .mov 8 (.t 4)⟩,
      ⟨none, .mov 9 (.t 0)⟩,
      ⟨none, .len 10 (.t 9)⟩,
      ⟨none, .bin 11 .lss (.t 8) (.t 10)⟩])
     (.cond (.t 11)
     (.skip)
     (.exit 0)))
    (.seq (.block 1 (.reg [⟨none, .mov 14 (.t 3)⟩,
      ⟨none, .mov 15 (.t 4)⟩,
      ⟨none, .mov 16 (.t 0)⟩,
      ⟨none, .mov 17 (.t 4)⟩,
      ⟨none, .idx 18 8 (.t 16) (.t 17)⟩,
      ⟨none, .load 19 18 3 true⟩,
      ⟨none, .call (some 20) 123 [(.t 19)] false⟩,
      ⟨none, .idx 21 7 (.t 14) (.t 15)⟩,
      ⟨none, .store 21 3 (.t 20)⟩]))
    (.reg [⟨none, .mov 12 (.t 4)⟩,
    ⟨none, .bin 13 .add (.t 12) (.k (.int .i64 1))⟩,
    ⟨none, .mov 4 (.t 13)⟩]))
/-- laws.toRangeS -/
def r105 : RF :=
 ⟨1, [.tmp 2],
 .seq (.reg [⟨none, .mov 2 (.k (.nil))⟩])
 (.seq (.reg [⟨none, .mov 5 (.t 0)⟩,
  ⟨none, .len 6 (.t 5)⟩,
  ⟨none, .mks 7 7 24 [.int .u64 0, .int .u64 0, .int .i64 0] (.t 6) (.t 6)⟩,
  ⟨none, .mov 3 (.t 7)⟩])
 (.seq (.seq (.reg [⟨none, .mov 4 (.k (.int .i64 0))⟩])
  (.block 0 (.loop [0, 3, 4]
   r105L0)))
 (.seq (.reg [⟨none, .mov 22 (.t 3)⟩,
  ⟨none, .mov 2 (.t 22)⟩])
 (.ret))))⟩
/-- A loop of laws.eqRangeS. -/
def r108L0 : RC :=
 .seq (.seq (.reg [⟨none, .mov 11 (.t 5)⟩,
      ⟨none, .mov 12 (.t 0)⟩,
      ⟨none, .len 13 (.t 12)⟩,
      ⟨none, .bin 14 .lss (.t 11) (.t 13)⟩])
     (.cond (.t 14)
     (.skip)
     (.exit 0)))
    (.seq (.block 1 (.seq (.reg [⟨none, .chk []⟩,
       ⟨none, .mov 17 (.t 0)⟩,
       ⟨none, .mov 18 (.t 5)⟩,
       ⟨none, .idx 19 7 (.t 17) (.t 18)⟩,
       ⟨none, .mov 21 (.t 1)⟩,
       ⟨none, .mov 22 (.t 5)⟩,
       ⟨none, .idx 23 7 (.t 21) (.t 22)⟩,
       ⟨none, .load 20 19 3 true⟩,
       ⟨none, .load 24 23 3 true⟩,
       ⟨none, .call (some 25) 127 [(.t 20), (.t 24)] true⟩,
       ⟨none, .not 26 (.t 25)⟩])
      (.cond (.t 26)
      (.seq (.reg [⟨none, .mov 4 (.k (.bool false))⟩])
       (.ret))
      (.skip))))
    (.reg [⟨none, .mov 15 (.t 5)⟩,
    ⟨none, .bin 16 .add (.t 15) (.k (.int .i64 1))⟩,
    ⟨none, .mov 5 (.t 16)⟩]))
/-- laws.eqRangeS -/
def r108 : RF :=
 ⟨2, [.tmp 4],
 .seq (.reg [⟨none, .mov 4 (.k (.bool false))⟩])
 (.seq (.seq (.reg [⟨none, .mov 6 (.t 0)⟩,
   ⟨none, .len 7 (.t 6)⟩,
   ⟨none, .mov 8 (.t 1)⟩,
   ⟨none, .len 9 (.t 8)⟩,
   ⟨none, .bin 10 .neq (.t 7) (.t 9)⟩])
  (.cond (.t 10)
  (.seq (.reg [⟨none, .mov 4 (.k (.bool false))⟩])
   (.ret))
  (.skip)))
 (.seq (.seq (.reg [⟨none, .mov 5 (.k (.int .i64 0))⟩])
  (.block 0 (.loop [0, 1, 5]
   r108L0)))
 (.seq (.reg [⟨none, .mov 4 (.k (.bool true))⟩])
 (.ret))))⟩
/-- A loop of laws.markRangeS. -/
def r117L0 : RC :=
 .seq (.seq (.reg [⟨none, .mov 6 (.t 5)⟩,
      ⟨none, .mov 7 (.t 0)⟩,
      ⟨none, .len 8 (.t 7)⟩,
      ⟨none, .bin 9 .lss (.t 6) (.t 8)⟩])
     (.cond (.t 9)
     (.skip)
     (.exit 0)))
    (.seq (.block 1 (.seq (.reg [⟨none, .mov 12 (.t 0)⟩,
       ⟨none, .mov 13 (.t 5)⟩,
       ⟨none, .mov 14 (.t 1)⟩,
       ⟨none, .conv 15 .u64 (.t 14)⟩,
       ⟨none, .idx 16 7 (.t 12) (.t 13)⟩,
       ⟨none, .fad 17 16 0⟩,
       ⟨none, .store 17 1 (.t 15)⟩])
      (.seq (.reg [⟨none, .mov 18 (.t 1)⟩,
       ⟨none, .bin 19 .add (.t 18) (.k (.int .i64 1))⟩,
       ⟨none, .mov 1 (.t 19)⟩])
      (.seq (.reg [⟨none, .mov 20 (.t 0)⟩,
       ⟨none, .mov 21 (.t 5)⟩,
       ⟨none, .mov 22 (.t 1)⟩,
       ⟨none, .conv 23 .u64 (.t 22)⟩,
       ⟨none, .idx 24 7 (.t 20) (.t 21)⟩,
       ⟨none, .fad 25 24 1⟩,
       ⟨none, .store 25 1 (.t 23)⟩])
      (.seq (.reg [⟨none, .mov 26 (.t 1)⟩,
       ⟨none, .bin 27 .add (.t 26) (.k (.int .i64 1))⟩,
       ⟨none, .mov 1 (.t 27)⟩])
      (.seq (.reg [⟨none, .mov 28 (.t 0)⟩,
       ⟨none, .mov 29 (.t 5)⟩,
       ⟨none, .mov 30 (.t 1)⟩,
       ⟨none, .idx 31 7 (.t 28) (.t 29)⟩,
       ⟨none, .fad 32 31 2⟩,
       ⟨none, .store 32 1 (.t 30)⟩])
      (.reg [⟨none, .mov 33 (.t 1)⟩,
      ⟨none, .bin 34 .add (.t 33) (.k (.int .i64 1))⟩,
      ⟨none, .mov 1 (.t 34)⟩])))))))
    (.reg [⟨none, .mov 10 (.t 5)⟩,
    ⟨none, .bin 11 .add (.t 10) (.k (.int .i64 1))⟩,
    ⟨none, .mov 5 (.t 11)⟩]))
/-- laws.markRangeS -/
def r117 : RF :=
 ⟨2, [.tmp 4],
 .seq (.reg [⟨none, .mov 4 (.k (.int .i64 0))⟩])
 (.seq (.seq (.reg [⟨none, .mov 5 (.k (.int .i64 0))⟩])
  (.block 0 (.loop [0, 1, 5]
   r117L0)))
 (.seq (.reg [⟨none, .mov 35 (.t 1)⟩,
  ⟨none, .mov 4 (.t 35)⟩])
 (.ret)))⟩
/-- laws.toRange -/
def r123 : RF :=
 ⟨1, [.cell 2 3 true],
 .seq (.reg [⟨none, .locb 1 (.t 0)⟩,
  ⟨none, .loc 2 [.int .u64 0, .int .u64 0, .int .i64 0]⟩])
 (.seq (.reg [⟨none, .loc 3 [.int .u64 0, .int .u64 0, .int .i64 0]⟩])
 (.seq (.reg [⟨none, .fad 4 1 0⟩,
  ⟨none, .load 5 4 1 false⟩,
  ⟨none, .fad 6 3 0⟩,
  ⟨none, .store 6 1 (.t 5)⟩])
 (.seq (.reg [⟨none, .fad 7 1 1⟩,
  ⟨none, .load 8 7 1 false⟩,
  ⟨none, .fad 9 3 1⟩,
  ⟨none, .store 9 1 (.t 8)⟩])
 (.seq (.reg [⟨none, .fad 10 1 2⟩,
  ⟨none, .load 11 10 1 false⟩,
  ⟨none, .fad 12 3 2⟩,
  ⟨none, .store 12 1 (.t 11)⟩])
 (.seq (.reg [⟨none, .load 13 3 3 true⟩,
  ⟨none, .store 2 3 (.t 13)⟩])
 (.ret))))))⟩
/-- laws.eqRange -/
def r127 : RF :=
 ⟨2, [.tmp 4],
 .seq (.reg [⟨none, .locb 2 (.t 0)⟩,
  ⟨none, .locb 3 (.t 1)⟩,
  ⟨none, .mov 4 (.k (.bool false))⟩])
 (.seq (.seq (.reg [⟨none, .fad 5 2 0⟩,
   ⟨none, .load 6 5 1 false⟩,
   ⟨none, .fad 7 3 0⟩,
   ⟨none, .load 8 7 1 false⟩,
   ⟨none, .bin 9 .neq (.t 6) (.t 8)⟩])
  (.cond (.t 9)
  (.seq (.reg [⟨none, .mov 4 (.k (.bool false))⟩])
   (.ret))
  (.skip)))
 (.seq (.seq (.reg [⟨none, .fad 10 2 1⟩,
   ⟨none, .load 11 10 1 false⟩,
   ⟨none, .fad 12 3 1⟩,
   ⟨none, .load 13 12 1 false⟩,
   ⟨none, .bin 14 .neq (.t 11) (.t 13)⟩])
  (.cond (.t 14)
  (.seq (.reg [⟨none, .mov 4 (.k (.bool false))⟩])
   (.ret))
  (.skip)))
 (.seq (.seq (.reg [⟨none, .fad 15 2 2⟩,
   ⟨none, .load 16 15 1 false⟩,
   ⟨none, .fad 17 3 2⟩,
   ⟨none, .load 18 17 1 false⟩,
   ⟨none, .bin 19 .neq (.t 16) (.t 18)⟩])
  (.cond (.t 19)
  (.seq (.reg [⟨none, .mov 4 (.k (.bool false))⟩])
   (.ret))
  (.skip)))
 (.seq (.reg [⟨none, .mov 4 (.k (.bool true))⟩])
 (.ret)))))⟩
/-- A loop of laws.heldRangeS. -/
def r135L0 : RC :=
 .seq (.seq (.reg [⟨none, .mov 6 (.t 5)⟩,
      ⟨none, .mov 7 (.t 0)⟩,
      ⟨none, .len 8 (.t 7)⟩,
      ⟨none, .bin 9 .lss (.t 6) (.t 8)⟩])
     (.cond (.t 9)
     (.skip)
     (.exit 0)))
    (.seq (.block 1 (.seq (.seq (.reg [⟨none, .mov 12 (.t 0)⟩,
        ⟨none, .mov 13 (.t 5)⟩,
        ⟨none, .idx 14 7 (.t 12) (.t 13)⟩,
        ⟨none, .fad 15 14 0⟩,
        ⟨none, .load 16 15 1 false⟩,
        ⟨none, .mov 17 (.t 1)⟩,
        ⟨none, .conv 18 .u64 (.t 17)⟩,
        ⟨none, .bin 19 .neq (.t 16) (.t 18)⟩])
       (.cond (.t 19)
       (.seq (.reg [⟨none, .mov 4 (.k (.int .i64 (-1)))⟩])
        (.ret))
       (.skip)))
      (.seq (.reg [⟨none, .mov 20 (.t 1)⟩,
       ⟨none, .bin 21 .add (.t 20) (.k (.int .i64 1))⟩,
       ⟨none, .mov 1 (.t 21)⟩])
      (.seq (.seq (.reg [⟨none, .mov 22 (.t 0)⟩,
        ⟨none, .mov 23 (.t 5)⟩,
        ⟨none, .idx 24 7 (.t 22) (.t 23)⟩,
        ⟨none, .fad 25 24 1⟩,
        ⟨none, .load 26 25 1 false⟩,
        ⟨none, .mov 27 (.t 1)⟩,
        ⟨none, .conv 28 .u64 (.t 27)⟩,
        ⟨none, .bin 29 .neq (.t 26) (.t 28)⟩])
       (.cond (.t 29)
       (.seq (.reg [⟨none, .mov 4 (.k (.int .i64 (-1)))⟩])
        (.ret))
       (.skip)))
      (.seq (.reg [⟨none, .mov 30 (.t 1)⟩,
       ⟨none, .bin 31 .add (.t 30) (.k (.int .i64 1))⟩,
       ⟨none, .mov 1 (.t 31)⟩])
      (.seq (.seq (.reg [⟨none, .mov 32 (.t 0)⟩,
        ⟨none, .mov 33 (.t 5)⟩,
        ⟨none, .idx 34 7 (.t 32) (.t 33)⟩,
        ⟨none, .fad 35 34 2⟩,
        ⟨none, .load 36 35 1 false⟩,
        ⟨none, .mov 37 (.t 1)⟩,
        ⟨none, .bin 38 .neq (.t 36) (.t 37)⟩])
       (.cond (.t 38)
       (.seq (.reg [⟨none, .mov 4 (.k (.int .i64 (-1)))⟩])
        (.ret))
       (.skip)))
      (.reg [⟨none, .mov 39 (.t 1)⟩,
      ⟨none, .bin 40 .add (.t 39) (.k (.int .i64 1))⟩,
      ⟨none, .mov 1 (.t 40)⟩])))))))
    (.reg [⟨none, .mov 10 (.t 5)⟩,
    ⟨none, .bin 11 .add (.t 10) (.k (.int .i64 1))⟩,
    ⟨none, .mov 5 (.t 11)⟩]))
/-- laws.heldRangeS -/
def r135 : RF :=
 ⟨2, [.tmp 4],
 .seq (.reg [⟨none, .mov 4 (.k (.int .i64 0))⟩])
 (.seq (.seq (.reg [⟨none, .mov 5 (.k (.int .i64 0))⟩])
  (.block 0 (.loop [0, 1, 5]
   r135L0)))
 (.seq (.reg [⟨none, .mov 41 (.t 1)⟩,
  ⟨none, .mov 4 (.t 41)⟩])
 (.ret)))⟩
/-- The functions of this text, with their numbers. -/
def tLRange : List (Nat × RF) := [(102, r102), (105, r105), (108, r108), (117, r117), (123, r123), (127, r127), (135, r135)]
end Go.Proofs.Ytgogajbfiocdbaa.A
