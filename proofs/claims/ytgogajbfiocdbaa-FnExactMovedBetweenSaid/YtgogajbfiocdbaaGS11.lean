/- The compact code of some functions: spec.FindRange, spec.RangesOk, spec.Covers. -/
import Derived.Test.YtgogajbfiocdbaaA1
namespace Go.Proofs.Ytgogajbfiocdbaa.A
open Go
/-- A loop of spec.FindRange. -/
def r104L0 : RC :=
 .seq (.seq (.reg [⟨none, .mov 6 (.t 5)⟩,
      ⟨none, .mov 7 (.t 0)⟩,
      ⟨none, .len 8 (.t 7)⟩,
      ⟨none, .bin 9 .lss (.t 6) (.t 8)⟩,
      ⟨none, .mov 10 (.t 9)⟩,
      ⟨some (10, true), .mov 11 (.t 0)⟩,
      ⟨some (10, true), .call (some 12) 120 [(.t 11)] false⟩,
      ⟨none, .pick 13 (.t 10) (.t 12) (.k (.bool false))⟩])
     (.cond (.t 13)
     (.skip)
     (.exit 0)))
    (.seq (.block 1 (.seq (.reg [⟨none, .mov 16 (.t 0)⟩,
       ⟨none, .mov 17 (.t 5)⟩,
       ⟨none, .idx 18 7 (.t 16) (.t 17)⟩,
       ⟨none, .load 19 18 3 true⟩,
       ⟨none, .mov 20 (.t 1)⟩,
       ⟨none, .call (some 21) 122 [(.t 19), (.t 20)] false⟩])
      (.cond (.t 21)
      (.seq (.reg [⟨none, .mov 22 (.t 5)⟩,
        ⟨none, .mov 4 (.t 22)⟩])
       (.ret))
      (.skip))))
    (.reg [⟨none, .mov 14 (.t 5)⟩,
    ⟨none, .bin 15 .add (.t 14) (.k (.int .i64 1))⟩,
    ⟨none, .mov 5 (.t 15)⟩]))
/-- spec.FindRange -/
def r104 : RF :=
 ⟨2, [.tmp 4],
 .seq (.reg [⟨none, .mov 4 (.k (.int .i64 0))⟩])
 (.seq (.seq (.reg [⟨none, .mov 5 (.k (.int .i64 0))⟩])
  (.block 0 (.loop [0, 1, 5]
   r104L0)))
 (.seq (.reg [⟨none, .mov 4 (.k (.int .i64 (-1)))⟩])
 (.ret)))⟩
/-- A loop of spec.RangesOk. -/
def r120L0 : RC :=
 .seq (.seq (.reg [⟨none, .mov 26 (.t 3)⟩,
      ⟨none, .mov 27 (.t 0)⟩,
      ⟨none, .len 28 (.t 27)⟩,
      ⟨none, .bin 29 .lss (.t 26) (.t 28)⟩])
     (.cond (.t 29)
     (.skip)
     (.exit 0)))
    (.seq (.block 1 (.seq (.reg [⟨none, .mov 32 (.t 0)⟩,
       ⟨none, .mov 33 (.t 3)⟩,
       ⟨none, .idx 34 7 (.t 32) (.t 33)⟩,
       ⟨none, .load 35 34 3 true⟩,
       ⟨none, .loc 4 [.int .u64 0, .int .u64 0, .int .i64 0]⟩,
       ⟨none, .store 4 3 (.t 35)⟩])
      (.seq (.reg [⟨none, .chk []⟩,
       ⟨none, .fad 36 4 0⟩,
       ⟨none, .load 37 36 1 false⟩,
       ⟨none, .fad 38 4 1⟩,
       ⟨none, .load 39 38 1 false⟩,
       ⟨none, .bin 40 .gtr (.t 37) (.t 39)⟩,
       ⟨none, .mov 41 (.t 40)⟩,
       ⟨some (41, false), .fad 42 4 2⟩,
       ⟨some (41, false), .load 43 42 1 false⟩,
       ⟨some (41, false), .call (some 44) 5 [(.t 43), (.k (.int .i64 0)), (.k (.int .i64 99))] true⟩,
       ⟨some (41, false), .not 45 (.t 44)⟩,
       ⟨none, .pick 46 (.t 41) (.k (.bool true)) (.t 45)⟩,
       ⟨none, .mov 47 (.t 46)⟩,
       ⟨some (47, false), .mov 48 (.t 3)⟩,
       ⟨some (47, false), .bin 49 .gtr (.t 48) (.k (.int .i64 0))⟩,
       ⟨some (47, false), .mov 50 (.t 49)⟩,
       ⟨some (50, true), .mov 51 (.t 0)⟩,
       ⟨some (50, true), .mov 52 (.t 3)⟩,
       ⟨some (50, true), .bin 53 .sub (.t 52) (.k (.int .i64 1))⟩,
       ⟨some (50, true), .idx 54 7 (.t 51) (.t 53)⟩,
       ⟨some (50, true), .fad 55 54 1⟩,
       ⟨some (50, true), .load 56 55 1 false⟩,
       ⟨some (50, true), .bin 57 .eql (.t 56) (.k (.int .u64 18446744073709551615))⟩,
       ⟨some (50, true), .mov 58 (.t 57)⟩,
       ⟨some (58, false), .mov 61 (.t 0)⟩,
       ⟨some (58, false), .mov 62 (.t 3)⟩,
       ⟨some (58, false), .bin 63 .sub (.t 62) (.k (.int .i64 1))⟩,
       ⟨some (58, false), .idx 64 7 (.t 61) (.t 63)⟩,
       ⟨some (58, false), .fad 59 4 0⟩,
       ⟨some (58, false), .load 60 59 1 false⟩,
       ⟨some (58, false), .fad 65 64 1⟩,
       ⟨some (58, false), .load 66 65 1 false⟩,
       ⟨some (58, false), .bin 67 .add (.t 66) (.k (.int .u64 1))⟩,
       ⟨some (58, false), .bin 68 .neq (.t 60) (.t 67)⟩,
       ⟨some (50, true), .pick 69 (.t 58) (.k (.bool true)) (.t 68)⟩,
       ⟨some (47, false), .pick 70 (.t 50) (.t 69) (.k (.bool false))⟩,
       ⟨none, .pick 71 (.t 47) (.k (.bool true)) (.t 70)⟩])
      (.cond (.t 71)
      (.seq (.reg [⟨none, .mov 2 (.k (.bool false))⟩])
       (.ret))
      (.skip)))))
    (.reg [⟨none, .mov 30 (.t 3)⟩,
    ⟨none, .bin 31 .add (.t 30) (.k (.int .i64 1))⟩,
    ⟨none, .mov 3 (.t 31)⟩]))
/-- spec.RangesOk -/
def r120 : RF :=
 ⟨1, [.tmp 2],
 .seq (.reg [⟨none, .mov 2 (.k (.bool false))⟩])
 (.seq (.seq (.reg [⟨none, .mov 5 (.t 0)⟩,
   ⟨none, .len 6 (.t 5)⟩,
   ⟨none, .call (some 7) 5 [(.t 6), (.k (.int .i64 1)), (.k (.int .i64 24))] false⟩,
   ⟨none, .not 8 (.t 7)⟩,
   ⟨none, .mov 9 (.t 8)⟩,
   ⟨some (9, false), .mov 10 (.t 0)⟩,
   ⟨some (9, false), .idx 11 7 (.t 10) (.k (.int .i64 0))⟩,
   ⟨some (9, false), .fad 12 11 0⟩,
   ⟨some (9, false), .load 13 12 1 false⟩,
   ⟨some (9, false), .bin 14 .neq (.t 13) (.k (.int .u64 0))⟩,
   ⟨none, .pick 15 (.t 9) (.k (.bool true)) (.t 14)⟩,
   ⟨none, .mov 16 (.t 15)⟩,
   ⟨some (16, false), .mov 17 (.t 0)⟩,
   ⟨some (16, false), .mov 18 (.t 0)⟩,
   ⟨some (16, false), .len 19 (.t 18)⟩,
   ⟨some (16, false), .bin 20 .sub (.t 19) (.k (.int .i64 1))⟩,
   ⟨some (16, false), .idx 21 7 (.t 17) (.t 20)⟩,
   ⟨some (16, false), .fad 22 21 1⟩,
   ⟨some (16, false), .load 23 22 1 false⟩,
   ⟨some (16, false), .bin 24 .neq (.t 23) (.k (.int .u64 18446744073709551615))⟩,
   ⟨none, .pick 25 (.t 16) (.k (.bool true)) (.t 24)⟩])
  (.cond (.t 25)
  (.seq (.reg [⟨none, .mov 2 (.k (.bool false))⟩])
   (.ret))
  (.skip)))
 (.seq (.seq (.reg [⟨none, .mov 3 (.k (.int .i64 0))⟩])
  (.block 0 (.loop [0, 3]
   r120L0)))
 (.seq (.reg [⟨none, .mov 2 (.k (.bool true))⟩])
 (.ret))))⟩
/-- spec.Covers -/
def r122 : RF :=
 ⟨2, [.tmp 4],
 .seq (.reg [⟨none, .locb 2 (.t 0)⟩,
  ⟨none, .mov 4 (.k (.bool false))⟩])
 (.seq (.reg [⟨none, .fad 5 2 0⟩,
  ⟨none, .load 6 5 1 false⟩,
  ⟨none, .mov 7 (.t 1)⟩,
  ⟨none, .bin 8 .leq (.t 6) (.t 7)⟩,
  ⟨none, .mov 9 (.t 8)⟩,
  ⟨some (9, true), .mov 10 (.t 1)⟩,
  ⟨some (9, true), .fad 11 2 1⟩,
  ⟨some (9, true), .load 12 11 1 false⟩,
  ⟨some (9, true), .bin 13 .leq (.t 10) (.t 12)⟩,
  ⟨none, .pick 14 (.t 9) (.t 13) (.k (.bool false))⟩,
  ⟨none, .mov 4 (.t 14)⟩])
 (.ret))⟩
/-- The functions of this text, with their numbers. -/
def tS11 : List (Nat × RF) := [(104, r104), (120, r120), (122, r122)]
end Go.Proofs.Ytgogajbfiocdbaa.A
