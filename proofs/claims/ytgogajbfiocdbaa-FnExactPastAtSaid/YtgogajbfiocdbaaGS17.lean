/- The compact code of some functions: spec.Ahead, spec.PastOk, spec.PastAt. -/
import Derived.Test.YtgogajbfiocdbaaA1
namespace Go.Proofs.Ytgogajbfiocdbaa.A
open Go
/-- spec.Ahead -/
def r10 : RF :=
 ⟨2, [.tmp 4],
 .seq (.reg [⟨none, .locb 2 (.t 0)⟩,
  ⟨none, .locb 3 (.t 1)⟩,
  ⟨none, .mov 4 (.k (.bool false))⟩])
 (.seq (.reg [⟨none, .fad 5 2 5⟩,
  ⟨none, .load 6 5 1 false⟩,
  ⟨none, .bin 7 .neq (.t 6) (.k (.int .i64 (-1)))⟩,
  ⟨none, .mov 8 (.t 7)⟩,
  ⟨some (8, true), .fad 9 2 5⟩,
  ⟨some (8, true), .load 10 9 1 false⟩,
  ⟨some (8, true), .fad 11 3 4⟩,
  ⟨some (8, true), .load 12 11 1 false⟩,
  ⟨some (8, true), .bin 13 .lss (.t 10) (.t 12)⟩,
  ⟨none, .pick 14 (.t 8) (.t 13) (.k (.bool false))⟩,
  ⟨none, .mov 4 (.t 14)⟩])
 (.ret))⟩
/-- A loop of spec.PastOk. -/
def r42L0 : RC :=
 .seq (.seq (.reg [⟨none, .mov 5 (.t 3)⟩,
      ⟨none, .mov 6 (.t 0)⟩,
      ⟨none, .len 7 (.t 6)⟩,
      ⟨none, .bin 8 .lss (.t 5) (.t 7)⟩])
     (.cond (.t 8)
     (.skip)
     (.exit 0)))
    (.seq (.block 1 (.seq (.reg [⟨none, .mov 11 (.t 0)⟩,
       ⟨none, .mov 12 (.t 3)⟩,
       ⟨none, .idx 13 1 (.t 11) (.t 12)⟩,
       ⟨none, .load 14 13 8 true⟩,
       ⟨none, .loc 4 [.int .i64 0, .int .u64 0, .int .u64 0, .int .u64 0, .int .i64 0, .int .i64 0, .int .i64 0, .int .u64 0]⟩,
       ⟨none, .store 4 8 (.t 14)⟩])
      (.seq (.seq (.reg [⟨none, .fad 15 4 0⟩,
        ⟨none, .fad 16 15 0⟩,
        ⟨none, .load 17 16 1 false⟩,
        ⟨none, .call (some 18) 5 [(.t 17), (.k (.int .i64 0)), (.k (.int .i64 5))] false⟩,
        ⟨none, .not 19 (.t 18)⟩,
        ⟨none, .mov 20 (.t 19)⟩,
        ⟨some (20, false), .fad 21 4 4⟩,
        ⟨some (20, false), .load 22 21 1 false⟩,
        ⟨some (20, false), .call (some 23) 5 [(.t 22), (.k (.int .i64 0)), (.k (.int .i64 1000000))] false⟩,
        ⟨some (20, false), .not 24 (.t 23)⟩,
        ⟨none, .pick 25 (.t 20) (.k (.bool true)) (.t 24)⟩])
       (.cond (.t 25)
       (.seq (.reg [⟨none, .mov 2 (.k (.bool false))⟩])
        (.ret))
       (.skip)))
      (.seq (.reg [⟨none, .fad 26 4 5⟩,
       ⟨none, .load 27 26 1 false⟩,
       ⟨none, .bin 28 .eql (.t 27) (.k (.int .i64 (-1)))⟩])
      (.cond (.t 28)
      (.seq (.reg [⟨none, .fad 29 4 6⟩,
        ⟨none, .load 30 29 1 false⟩,
        ⟨none, .bin 31 .neq (.t 30) (.k (.int .i64 0))⟩,
        ⟨none, .mov 32 (.t 31)⟩,
        ⟨some (32, false), .fad 33 4 7⟩,
        ⟨some (32, false), .load 34 33 1 false⟩,
        ⟨some (32, false), .bin 35 .neq (.t 34) (.k (.int .u64 0))⟩,
        ⟨none, .pick 36 (.t 32) (.k (.bool true)) (.t 35)⟩])
       (.cond (.t 36)
       (.seq (.reg [⟨none, .mov 2 (.k (.bool false))⟩])
        (.ret))
       (.skip)))
      (.seq (.reg [⟨none, .fad 37 4 5⟩,
        ⟨none, .load 38 37 1 false⟩,
        ⟨none, .fad 39 4 4⟩,
        ⟨none, .load 40 39 1 false⟩,
        ⟨none, .bin 41 .add (.t 40) (.k (.int .i64 1))⟩,
        ⟨none, .call (some 42) 5 [(.t 38), (.t 41), (.k (.int .i64 1000000))] false⟩,
        ⟨none, .not 43 (.t 42)⟩])
       (.cond (.t 43)
       (.seq (.reg [⟨none, .mov 2 (.k (.bool false))⟩])
        (.ret))
       (.skip))))))))
    (.reg [⟨none, .mov 9 (.t 3)⟩,
    ⟨none, .bin 10 .add (.t 9) (.k (.int .i64 1))⟩,
    ⟨none, .mov 3 (.t 10)⟩]))
/-- spec.PastOk -/
def r42 : RF :=
 ⟨1, [.tmp 2],
 .seq (.reg [⟨none, .mov 2 (.k (.bool false))⟩])
 (.seq (.seq (.reg [⟨none, .mov 3 (.k (.int .i64 0))⟩])
  (.block 0 (.loop [0, 3]
   r42L0)))
 (.seq (.reg [⟨none, .mov 44 (.t 0)⟩,
  ⟨none, .len 45 (.t 44)⟩,
  ⟨none, .bin 46 .leq (.t 45) (.k (.int .i64 7))⟩,
  ⟨none, .mov 2 (.t 46)⟩])
 (.ret)))⟩
/-- A loop of spec.PastAt. -/
def r52L0 : RC :=
 .seq (.seq (.reg [⟨none, .mov 12 (.t 6)⟩,
      ⟨none, .mov 13 (.t 0)⟩,
      ⟨none, .len 14 (.t 13)⟩,
      ⟨none, .bin 15 .lss (.t 12) (.t 14)⟩])
     (.cond (.t 15)
     (.skip)
     (.exit 0)))
    (.seq (.block 1 (.seq (.reg [⟨none, .mov 18 (.t 0)⟩,
       ⟨none, .mov 19 (.t 6)⟩,
       ⟨none, .idx 20 1 (.t 18) (.t 19)⟩,
       ⟨none, .load 21 20 8 true⟩,
       ⟨none, .loc 7 [.int .i64 0, .int .u64 0, .int .u64 0, .int .u64 0, .int .i64 0, .int .i64 0, .int .i64 0, .int .u64 0]⟩,
       ⟨none, .store 7 8 (.t 21)⟩])
      (.seq (.seq (.reg [⟨none, .fad 22 7 4⟩,
        ⟨none, .load 23 22 1 false⟩,
        ⟨none, .mov 24 (.t 1)⟩,
        ⟨none, .bin 25 .gtr (.t 23) (.t 24)⟩])
       (.cond (.t 25)
       (.exit 1)
       (.skip)))
      (.seq (.seq (.reg [⟨none, .fad 26 7 5⟩,
        ⟨none, .load 27 26 1 false⟩,
        ⟨none, .mov 28 (.t 1)⟩,
        ⟨none, .bin 29 .gtr (.t 27) (.t 28)⟩])
       (.cond (.t 29)
       (.reg [⟨none, .fad 30 7 0⟩,
        ⟨none, .load 31 30 4 true⟩,
        ⟨none, .fad 32 7 4⟩,
        ⟨none, .load 33 32 1 false⟩,
        ⟨none, .build 34 [.int .i64 0, .int .u64 0, .int .u64 0, .int .u64 0, .int .i64 0, .int .i64 0, .int .i64 0, .int .u64 0] [(0, 4, (.t 31)), (4, 1, (.t 33)), (5, 1, (.k (.int .i64 (-1))))]⟩,
        ⟨none, .store 7 8 (.t 34)⟩])
       (.skip)))
      (.reg [⟨none, .mov 35 (.t 5)⟩,
      ⟨none, .load 36 7 8 true⟩,
      ⟨none, .lit 37 1 1 [.int .i64 0, .int .u64 0, .int .u64 0, .int .u64 0, .int .i64 0, .int .i64 0, .int .i64 0, .int .u64 0] [(0, (.t 36))]⟩,
      ⟨none, .app 38 1 64 (.t 35) (.t 37)⟩,
      ⟨none, .mov 5 (.t 38)⟩])))))
    (.reg [⟨none, .mov 16 (.t 6)⟩,
    ⟨none, .bin 17 .add (.t 16) (.k (.int .i64 1))⟩,
    ⟨none, .mov 6 (.t 17)⟩]))
/-- spec.PastAt -/
def r52 : RF :=
 ⟨2, [.tmp 4],
 .seq (.reg [⟨none, .mov 4 (.k (.nil))⟩])
 (.seq (.reg [⟨none, .lit 8 1 0 [.int .i64 0, .int .u64 0, .int .u64 0, .int .u64 0, .int .i64 0, .int .i64 0, .int .i64 0, .int .u64 0] []⟩,
  ⟨none, .mov 5 (.t 8)⟩])
 (.seq (.seq (.reg [⟨none, .mov 9 (.t 0)⟩,
   ⟨none, .call (some 10) 42 [(.t 9)] false⟩,
   ⟨none, .not 11 (.t 10)⟩])
  (.cond (.t 11)
  (.seq (.reg [⟨none, .mov 4 (.k (.nil))⟩])
   (.ret))
  (.skip)))
 (.seq (.seq (.reg [⟨none, .mov 6 (.k (.int .i64 0))⟩])
  (.block 0 (.loop [0, 1, 5, 6]
   r52L0)))
 (.seq (.reg [⟨none, .mov 39 (.t 5)⟩,
  ⟨none, .mov 4 (.t 39)⟩])
 (.ret)))))⟩
/-- The functions of this text, with their numbers. -/
def tS17 : List (Nat × RF) := [(10, r10), (42, r42), (52, r52)]
end Go.Proofs.Ytgogajbfiocdbaa.A
