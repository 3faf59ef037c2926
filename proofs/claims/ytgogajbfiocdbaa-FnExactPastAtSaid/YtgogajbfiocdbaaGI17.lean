/- The compact code of some functions: impl.Ahead, impl.ahead, impl.PastOk, impl.PastAt, impl.isPast. -/
import Derived.Test.YtgogajbfiocdbaaA1
namespace Go.Proofs.Ytgogajbfiocdbaa.A
open Go
/-- impl.Ahead -/
def r11 : RF :=
 ⟨2, [.tmp 4],
 .seq (.reg [⟨none, .locb 2 (.t 0)⟩,
  ⟨none, .locb 3 (.t 1)⟩,
  ⟨none, .mov 4 (.k (.bool false))⟩])
 (.seq (.reg [⟨none, .load 5 2 8 true⟩,
  ⟨none, .load 6 3 8 true⟩,
  ⟨none, .call (some 7) 27 [(.t 5), (.t 6)] false⟩,
  ⟨none, .mov 4 (.t 7)⟩])
 (.ret))⟩
/-- impl.ahead -/
def r27 : RF :=
 ⟨2, [.tmp 4],
 .seq (.reg [⟨none, .locb 2 (.t 0)⟩,
  ⟨none, .locb 3 (.t 1)⟩,
  ⟨none, .mov 4 (.k (.bool false))⟩])
 (.seq (.reg [⟨none, .fad 5 2 5⟩,
  ⟨none, .load 6 5 1 false⟩,
  ⟨none, .bin 7 .neq (.t 6) (.k (.int .i64 (-1)))⟩,
  ⟨none, .mov 8 (.t 7)⟩,
  ⟨some (8, true), .fad 9 2 5⟩,
  ⟨some (8, true), .load 10 9 1 false⟩,
  ⟨some (8, true), .fad 11 3 4⟩,
  ⟨some (8, true), .load 12 11 1 false⟩,
  ⟨some (8, true), .bin 13 .lss (.t 10) (.t 12)⟩,
  ⟨none, .pick 14 (.t 8) (.t 13) (.k (.bool false))⟩,
  ⟨none, .mov 4 (.t 14)⟩])
 (.ret))⟩
/-- impl.PastOk -/
def r43 : RF :=
 ⟨1, [.tmp 2],
 .seq (.reg [⟨none, .mov 2 (.k (.bool false))⟩])
 (.seq (.reg [⟨none, .mov 3 (.t 0)⟩,
  ⟨none, .call (some 4) 97 [(.t 3)] false⟩,
  ⟨none, .mov 2 (.t 4)⟩])
 (.ret))⟩
/-- A loop of impl.PastAt. -/
def r53L0 : RC :=
 .seq (.reg [⟨none, .bin 15 .lss (.t 14) (.t 13)⟩])
    (.seq (.cond (.t 15)
     (.skip)
     (.exit 0))
    (.seq (.block 1 (.seq (.reg [⟨none, .idx 16 1 (.t 12) (.t 14)⟩,
       ⟨none, .load 17 16 8 true⟩,
       ⟨none, .loc 7 [.int .i64 0, .int .u64 0, .int .u64 0, .int .u64 0, .int .i64 0, .int .i64 0, .int .i64 0, .int .u64 0]⟩,
       ⟨none, .store 7 8 (.t 17)⟩])
      (.seq (.seq (.reg [⟨none, .fad 18 7 4⟩,
        ⟨none, .load 19 18 1 false⟩,
        ⟨none, .mov 20 (.t 1)⟩,
        ⟨none, .bin 21 .gtr (.t 19) (.t 20)⟩])
       (.cond (.t 21)
       (.exit 1)
       (.skip)))
      (.seq (.seq (.reg [⟨none, .fad 22 7 5⟩,
        ⟨none, .load 23 22 1 false⟩,
        ⟨none, .mov 24 (.t 1)⟩,
        ⟨none, .bin 25 .gtr (.t 23) (.t 24)⟩])
       (.cond (.t 25)
       (.seq (.reg [⟨none, .fad 26 7 5⟩,
         ⟨none, .store 26 1 (.k (.int .i64 (-1)))⟩])
        (.seq (.reg [⟨none, .fad 27 7 6⟩,
         ⟨none, .store 27 1 (.k (.int .i64 0))⟩])
        (.reg [⟨none, .fad 28 7 7⟩,
        ⟨none, .store 28 1 (.k (.int .u64 0))⟩])))
       (.skip)))
      (.reg [⟨none, .mov 29 (.t 5)⟩,
      ⟨none, .load 30 7 8 true⟩,
      ⟨none, .lit 31 1 1 [.int .i64 0, .int .u64 0, .int .u64 0, .int .u64 0, .int .i64 0, .int .i64 0, .int .i64 0, .int .u64 0] [(0, (.t 30))]⟩,
      ⟨none, .app 32 1 64 (.t 29) (.t 31)⟩,
      ⟨none, .mov 5 (.t 32)⟩])))))
    (.reg [⟨none, .bin 33 .add (.t 14) (.k (.int .i64 1))⟩,
    ⟨none, .mov 14 (.t 33)⟩])))
/-- impl.PastAt -/
def r53 : RF :=
 ⟨2, [.tmp 4],
 .seq (.reg [⟨none, .mov 4 (.k (.nil))⟩])
 (.seq (.seq (.reg [⟨none, .mov 8 (.t 0)⟩,
   ⟨none, .call (some 9) 97 [(.t 8)] false⟩,
   ⟨none, .not 10 (.t 9)⟩])
  (.cond (.t 10)
  (.seq (.reg [⟨none, .mov 4 (.k (.nil))⟩])
   (.ret))
  (.skip)))
 (.seq (.reg [⟨none, .lit 11 1 0 [.int .i64 0, .int .u64 0, .int .u64 0, .int .u64 0, .int .i64 0, .int .i64 0, .int .i64 0, .int .u64 0] []⟩,
  ⟨none, .mov 5 (.t 11)⟩])
 (.seq (.seq (.reg [⟨none, .mov 12 (.t 0)⟩,
   ⟨none, .len 13 (.t 12)⟩,
   ⟨none, .mov 14 (.k (.int .i64 0))⟩])
  (.block 0 (.loop [1, 5, 12, 13, 14]
   r53L0)))
 (.seq (.reg [⟨none, .mov 34 (.t 5)⟩,
  ⟨none, .mov 4 (.t 34)⟩])
 (.ret)))))⟩
/-- A loop of impl.isPast. -/
def r97L0 : RC :=
 .seq (.reg [⟨none, .bin 8 .lss (.t 7) (.t 6)⟩])
    (.seq (.cond (.t 8)
     (.skip)
     (.exit 0))
    (.seq (.block 1 (.seq (.reg [⟨none, .idx 9 1 (.t 5) (.t 7)⟩,
       ⟨none, .load 10 9 8 true⟩,
       ⟨none, .loc 4 [.int .i64 0, .int .u64 0, .int .u64 0, .int .u64 0, .int .i64 0, .int .i64 0, .int .i64 0, .int .u64 0]⟩,
       ⟨none, .store 4 8 (.t 10)⟩])
      (.seq (.seq (.reg [⟨none, .fad 11 4 0⟩,
        ⟨none, .fad 12 11 0⟩,
        ⟨none, .load 13 12 1 false⟩,
        ⟨none, .bin 14 .lss (.t 13) (.k (.int .i64 0))⟩,
        ⟨none, .mov 15 (.t 14)⟩,
        ⟨some (15, false), .fad 16 4 0⟩,
        ⟨some (15, false), .fad 17 16 0⟩,
        ⟨some (15, false), .load 18 17 1 false⟩,
        ⟨some (15, false), .bin 19 .gtr (.t 18) (.k (.int .i64 5))⟩,
        ⟨none, .pick 20 (.t 15) (.k (.bool true)) (.t 19)⟩,
        ⟨none, .mov 21 (.t 20)⟩,
        ⟨some (21, false), .fad 22 4 4⟩,
        ⟨some (21, false), .load 23 22 1 false⟩,
        ⟨some (21, false), .bin 24 .lss (.t 23) (.k (.int .i64 0))⟩,
        ⟨none, .pick 25 (.t 21) (.k (.bool true)) (.t 24)⟩,
        ⟨none, .mov 26 (.t 25)⟩,
        ⟨some (26, false), .fad 27 4 4⟩,
        ⟨some (26, false), .load 28 27 1 false⟩,
        ⟨some (26, false), .bin 29 .gtr (.t 28) (.k (.int .i64 1000000))⟩,
        ⟨none, .pick 30 (.t 26) (.k (.bool true)) (.t 29)⟩])
       (.cond (.t 30)
       (.seq (.reg [⟨none, .mov 2 (.k (.bool false))⟩])
        (.ret))
       (.skip)))
      (.seq (.reg [⟨none, .fad 31 4 5⟩,
       ⟨none, .load 32 31 1 false⟩,
       ⟨none, .bin 33 .eql (.t 32) (.k (.int .i64 (-1)))⟩,
       ⟨none, .mov 34 (.t 33)⟩,
       ⟨some (34, true), .fad 35 4 6⟩,
       ⟨some (34, true), .load 36 35 1 false⟩,
       ⟨some (34, true), .bin 37 .neq (.t 36) (.k (.int .i64 0))⟩,
       ⟨some (34, true), .mov 38 (.t 37)⟩,
       ⟨some (38, false), .fad 39 4 7⟩,
       ⟨some (38, false), .load 40 39 1 false⟩,
       ⟨some (38, false), .bin 41 .neq (.t 40) (.k (.int .u64 0))⟩,
       ⟨some (34, true), .pick 42 (.t 38) (.k (.bool true)) (.t 41)⟩,
       ⟨none, .pick 43 (.t 34) (.t 42) (.k (.bool false))⟩,
       ⟨none, .mov 44 (.t 43)⟩,
       ⟨some (44, false), .fad 45 4 5⟩,
       ⟨some (44, false), .load 46 45 1 false⟩,
       ⟨some (44, false), .bin 47 .neq (.t 46) (.k (.int .i64 (-1)))⟩,
       ⟨some (44, false), .mov 48 (.t 47)⟩,
       ⟨some (48, true), .fad 49 4 5⟩,
       ⟨some (48, true), .load 50 49 1 false⟩,
       ⟨some (48, true), .fad 51 4 4⟩,
       ⟨some (48, true), .load 52 51 1 false⟩,
       ⟨some (48, true), .bin 53 .leq (.t 50) (.t 52)⟩,
       ⟨some (48, true), .mov 54 (.t 53)⟩,
       ⟨some (54, false), .fad 55 4 5⟩,
       ⟨some (54, false), .load 56 55 1 false⟩,
       ⟨some (54, false), .bin 57 .gtr (.t 56) (.k (.int .i64 1000000))⟩,
       ⟨some (48, true), .pick 58 (.t 54) (.k (.bool true)) (.t 57)⟩,
       ⟨some (44, false), .pick 59 (.t 48) (.t 58) (.k (.bool false))⟩,
       ⟨none, .pick 60 (.t 44) (.k (.bool true)) (.t 59)⟩])
      (.cond (.t 60)
      (.seq (.reg [⟨none, .mov 2 (.k (.bool false))⟩])
       (.ret))
      (.skip))))))
    (.reg [⟨none, .bin 61 .add (.t 7) (.k (.int .i64 1))⟩,
    ⟨none, .mov 7 (.t 61)⟩])))
/-- impl.isPast -/
def r97 : RF :=
 ⟨1, [.tmp 2],
 .seq (.reg [⟨none, .mov 2 (.k (.bool false))⟩])
 (.seq (.seq (.reg [⟨none, .mov 5 (.t 0)⟩,
   ⟨none, .len 6 (.t 5)⟩,
   ⟨none, .mov 7 (.k (.int .i64 0))⟩])
  (.block 0 (.loop [0, 5, 6, 7]
   r97L0)))
 (.seq (.reg [⟨none, .mov 62 (.t 0)⟩,
  ⟨none, .len 63 (.t 62)⟩,
  ⟨none, .bin 64 .leq (.t 63) (.k (.int .i64 7))⟩,
  ⟨none, .mov 2 (.t 64)⟩])
 (.ret)))⟩
/-- The functions of this text, with their numbers. -/
def tI17 : List (Nat × RF) := [(11, r11), (27, r27), (43, r43), (53, r53), (97, r97)]
end Go.Proofs.Ytgogajbfiocdbaa.A
