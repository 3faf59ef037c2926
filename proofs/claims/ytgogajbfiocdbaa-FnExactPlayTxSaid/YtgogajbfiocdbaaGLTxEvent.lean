/- The compact code of some functions: laws.szTxEventS, laws.toTxEventS, laws.eqTxEventS, laws.markTxEventS, laws.toTxEvent, laws.eqTxEvent. -/
import Derived.Test.YtgogajbfiocdbaaA1
namespace Go.Proofs.Ytgogajbfiocdbaa.A
open Go
/-- laws.szTxEventS -/
def r57 : RF :=
 ⟨2, [.tmp 4],
 .seq (.reg [⟨none, .mov 4 (.k (.int .i64 0))⟩])
 (.seq (.reg [⟨none, .mov 5 (.t 1)⟩,
  ⟨none, .mov 6 (.t 0)⟩,
  ⟨none, .len 7 (.t 6)⟩,
  ⟨none, .bin 8 .sub (.t 5) (.t 7)⟩,
  ⟨none, .mov 1 (.t 8)⟩])
 (.seq (.seq (.reg [⟨none, .mov 9 (.t 1)⟩,
   ⟨none, .bin 10 .lss (.t 9) (.k (.int .i64 0))⟩])
  (.cond (.t 10)
  (.seq (.reg [⟨none, .mov 4 (.k (.int .i64 (-1)))⟩])
   (.ret))
  (.skip)))
 (.seq (.reg [⟨none, .mov 11 (.t 1)⟩,
  ⟨none, .mov 4 (.t 11)⟩])
 (.ret))))⟩
/-- A loop of laws.toTxEventS. -/
def r58L0 : RC :=
 .seq (.seq (.reg [⟨none, .mov 8 (.t 4)⟩,
      ⟨none, .mov 9 (.t 0)⟩,
      ⟨none, .len 10 (.t 9)⟩,
      ⟨none, .bin 11 .lss (.t 8) (.t 10)⟩])
     (.cond (.t 11)
     (.skip)
     (.exit 0)))
    (.seq (.block 1 (.reg [⟨none, .mov 14 (.t 3)⟩,
      ⟨none, .mov 15 (.t 4)⟩,
      ⟨none, .mov 16 (.t 0)⟩,
      ⟨none, .mov 17 (.t 4)⟩,
      ⟨none, .idx 18 6 (.t 16) (.t 17)⟩,
      ⟨none, .load 19 18 3 true⟩,
      ⟨none, .call (some 20) 100 [(.t 19)] false⟩,
      ⟨none, .idx 21 5 (.t 14) (.t 15)⟩,
      ⟨none, .store 21 3 (.t 20)⟩]))
    (.reg [⟨none, .mov 12 (.t 4)⟩,
    ⟨none, .bin 13 .add (.t 12) (.k (.int .i64 1))⟩,
    ⟨none, .mov 4 (.t 13)⟩]))
/-- laws.toTxEventS -/
def r58 : RF :=
 ⟨1, [.tmp 2],
 .seq (.reg [⟨none, .mov 2 (.k (.nil))⟩])
 (.seq (.reg [⟨none, .mov 5 (.t 0)⟩,
  ⟨none, .len 6 (.t 5)⟩,
  ⟨none, .mks 7 5 24 [.int .i64 0, .int .i64 0, .int .i64 0] (.t 6) (.t 6)⟩,
  ⟨none, .mov 3 (.t 7)⟩])
 (.seq (.seq (.reg [⟨none, .mov 4 (.k (.int .i64 0))⟩])
  (.block 0 (.loop [0, 3, 4]
   r58L0)))
 (.seq (.reg [⟨none, .mov 22 (.t 3)⟩,
  ⟨none, .mov 2 (.t 22)⟩])
 (.ret))))⟩
/-- A loop of laws.eqTxEventS. -/
def r62L0 : RC :=
 .seq (.seq (.reg [⟨none, .mov 11 (.t 5)⟩,
      ⟨none, .mov 12 (.t 0)⟩,
      ⟨none, .len 13 (.t 12)⟩,
      ⟨none, .bin 14 .lss (.t 11) (.t 13)⟩])
     (.cond (.t 14)
     (.skip)
     (.exit 0)))
    (.seq (.block 1 (.seq (.reg [⟨none, .chk []⟩,
       ⟨none, .mov 17 (.t 0)⟩,
       ⟨none, .mov 18 (.t 5)⟩,
       ⟨none, .idx 19 5 (.t 17) (.t 18)⟩,
       ⟨none, .mov 21 (.t 1)⟩,
       ⟨none, .mov 22 (.t 5)⟩,
       ⟨none, .idx 23 5 (.t 21) (.t 22)⟩,
       ⟨none, .load 20 19 3 true⟩,
       ⟨none, .load 24 23 3 true⟩,
       ⟨none, .call (some 25) 101 [(.t 20), (.t 24)] true⟩,
       ⟨none, .not 26 (.t 25)⟩])
      (.cond (.t 26)
      (.seq (.reg [⟨none, .mov 4 (.k (.bool false))⟩])
       (.ret))
      (.skip))))
    (.reg [⟨none, .mov 15 (.t 5)⟩,
    ⟨none, .bin 16 .add (.t 15) (.k (.int .i64 1))⟩,
    ⟨none, .mov 5 (.t 16)⟩]))
/-- laws.eqTxEventS -/
def r62 : RF :=
 ⟨2, [.tmp 4],
 .seq (.reg [⟨none, .mov 4 (.k (.bool false))⟩])
 (.seq (.seq (.reg [⟨none, .mov 6 (.t 0)⟩,
   ⟨none, .len 7 (.t 6)⟩,
   ⟨none, .mov 8 (.t 1)⟩,
   ⟨none, .len 9 (.t 8)⟩,
   ⟨none, .bin 10 .neq (.t 7) (.t 9)⟩])
  (.cond (.t 10)
  (.seq (.reg [⟨none, .mov 4 (.k (.bool false))⟩])
   (.ret))
  (.skip)))
 (.seq (.seq (.reg [⟨none, .mov 5 (.k (.int .i64 0))⟩])
  (.block 0 (.loop [0, 1, 5]
   r62L0)))
 (.seq (.reg [⟨none, .mov 4 (.k (.bool true))⟩])
 (.ret))))⟩
/-- A loop of laws.markTxEventS. -/
def r63L0 : RC :=
 .seq (.seq (.reg [⟨none, .mov 6 (.t 5)⟩,
      ⟨none, .mov 7 (.t 0)⟩,
      ⟨none, .len 8 (.t 7)⟩,
      ⟨none, .bin 9 .lss (.t 6) (.t 8)⟩])
     (.cond (.t 9)
     (.skip)
     (.exit 0)))
    (.seq (.block 1 (.seq (.reg [⟨none, .mov 12 (.t 0)⟩,
       ⟨none, .mov 13 (.t 5)⟩,
       ⟨none, .mov 14 (.t 1)⟩,
       ⟨none, .idx 15 5 (.t 12) (.t 13)⟩,
       ⟨none, .fad 16 15 0⟩,
       ⟨none, .store 16 1 (.t 14)⟩])
      (.seq (.reg [⟨none, .mov 17 (.t 1)⟩,
       ⟨none, .bin 18 .add (.t 17) (.k (.int .i64 1))⟩,
       ⟨none, .mov 1 (.t 18)⟩])
      (.seq (.reg [⟨none, .mov 19 (.t 0)⟩,
       ⟨none, .mov 20 (.t 5)⟩,
       ⟨none, .mov 21 (.t 1)⟩,
       ⟨none, .idx 22 5 (.t 19) (.t 20)⟩,
       ⟨none, .fad 23 22 1⟩,
       ⟨none, .store 23 1 (.t 21)⟩])
      (.seq (.reg [⟨none, .mov 24 (.t 1)⟩,
       ⟨none, .bin 25 .add (.t 24) (.k (.int .i64 1))⟩,
       ⟨none, .mov 1 (.t 25)⟩])
      (.seq (.reg [⟨none, .mov 26 (.t 0)⟩,
       ⟨none, .mov 27 (.t 5)⟩,
       ⟨none, .mov 28 (.t 1)⟩,
       ⟨none, .idx 29 5 (.t 26) (.t 27)⟩,
       ⟨none, .fad 30 29 2⟩,
       ⟨none, .store 30 1 (.t 28)⟩])
      (.reg [⟨none, .mov 31 (.t 1)⟩,
      ⟨none, .bin 32 .add (.t 31) (.k (.int .i64 1))⟩,
      ⟨none, .mov 1 (.t 32)⟩])))))))
    (.reg [⟨none, .mov 10 (.t 5)⟩,
    ⟨none, .bin 11 .add (.t 10) (.k (.int .i64 1))⟩,
    ⟨none, .mov 5 (.t 11)⟩]))
/-- laws.markTxEventS -/
def r63 : RF :=
 ⟨2, [.tmp 4],
 .seq (.reg [⟨none, .mov 4 (.k (.int .i64 0))⟩])
 (.seq (.seq (.reg [⟨none, .mov 5 (.k (.int .i64 0))⟩])
  (.block 0 (.loop [0, 1, 5]
   r63L0)))
 (.seq (.reg [⟨none, .mov 33 (.t 1)⟩,
  ⟨none, .mov 4 (.t 33)⟩])
 (.ret)))⟩
/-- laws.toTxEvent -/
def r100 : RF :=
 ⟨1, [.cell 2 3 true],
 .seq (.reg [⟨none, .locb 1 (.t 0)⟩,
  ⟨none, .loc 2 [.int .i64 0, .int .i64 0, .int .i64 0]⟩])
 (.seq (.reg [⟨none, .loc 3 [.int .i64 0, .int .i64 0, .int .i64 0]⟩])
 (.seq (.reg [⟨none, .fad 4 1 0⟩,
  ⟨none, .load 5 4 1 false⟩,
  ⟨none, .fad 6 3 0⟩,
  ⟨none, .store 6 1 (.t 5)⟩])
 (.seq (.reg [⟨none, .fad 7 1 1⟩,
  ⟨none, .load 8 7 1 false⟩,
  ⟨none, .fad 9 3 1⟩,
  ⟨none, .store 9 1 (.t 8)⟩])
 (.seq (.reg [⟨none, .fad 10 1 2⟩,
  ⟨none, .load 11 10 1 false⟩,
  ⟨none, .fad 12 3 2⟩,
  ⟨none, .store 12 1 (.t 11)⟩])
 (.seq (.reg [⟨none, .load 13 3 3 true⟩,
  ⟨none, .store 2 3 (.t 13)⟩])
 (.ret))))))⟩
/-- laws.eqTxEvent -/
def r101 : RF :=
 ⟨2, [.tmp 4],
 .seq (.reg [⟨none, .locb 2 (.t 0)⟩,
  ⟨none, .locb 3 (.t 1)⟩,
  ⟨none, .mov 4 (.k (.bool false))⟩])
 (.seq (.seq (.reg [⟨none, .fad 5 2 0⟩,
   ⟨none, .load 6 5 1 false⟩,
   ⟨none, .fad 7 3 0⟩,
   ⟨none, .load 8 7 1 false⟩,
   ⟨none, .bin 9 .neq (.t 6) (.t 8)⟩])
  (.cond (.t 9)
  (.seq (.reg [⟨none, .mov 4 (.k (.bool false))⟩])
   (.ret))
  (.skip)))
 (.seq (.seq (.reg [⟨none, .fad 10 2 1⟩,
   ⟨none, .load 11 10 1 false⟩,
   ⟨none, .fad 12 3 1⟩,
   ⟨none, .load 13 12 1 false⟩,
   ⟨none, .bin 14 .neq (.t 11) (.t 13)⟩])
  (.cond (.t 14)
  (.seq (.reg [⟨none, .mov 4 (.k (.bool false))⟩])
   (.ret))
  (.skip)))
 (.seq (.seq (.reg [⟨none, .fad 15 2 2⟩,
   ⟨none, .load 16 15 1 false⟩,
   ⟨none, .fad 17 3 2⟩,
   ⟨none, .load 18 17 1 false⟩,
   ⟨none, .bin 19 .neq (.t 16) (.t 18)⟩])
  (.cond (.t 19)
  (.seq (.reg [⟨none, .mov 4 (.k (.bool false))⟩])
   (.ret))
  (.skip)))
 (.seq (.reg [⟨none, .mov 4 (.k (.bool true))⟩])
 (.ret)))))⟩
/-- The functions of this text, with their numbers. -/
def tLTxEvent : List (Nat × RF) := [(57, r57), (58, r58), (62, r62), (63, r63), (100, r100), (101, r101)]
end Go.Proofs.Ytgogajbfiocdbaa.A
