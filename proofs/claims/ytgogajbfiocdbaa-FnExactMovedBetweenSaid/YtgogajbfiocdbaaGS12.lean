/- The compact code of some functions: spec.RouteOf, spec.MovedBetween, spec.ChartOk, spec.l12Copy, spec.l12Place. -/
import Derived.Test.YtgogajbfiocdbaaA1
namespace Go.Proofs.Ytgogajbfiocdbaa.A
open Go
/-- spec.RouteOf -/
def r69 : RF :=
 ⟨2, [.tmp 4, .tmp 5],
 .seq (.reg [⟨none, .locb 2 (.t 0)⟩,
  ⟨none, .mov 4 (.k (.int .i64 0))⟩,
  ⟨none, .mov 5 (.k (.int .i64 0))⟩])
 (.seq (.seq (.reg [⟨none, .load 6 2 5 true⟩,
   ⟨none, .call (some 7) 103 [(.t 6)] false⟩,
   ⟨none, .not 8 (.t 7)⟩])
  (.cond (.t 8)
  (.seq (.reg [⟨none, .mov 4 (.k (.int .i64 (-1)))⟩,
    ⟨none, .mov 5 (.k (.int .i64 (-1)))⟩])
   (.ret))
  (.skip)))
 (.seq (.reg [⟨none, .chk []⟩,
  ⟨none, .mov 13 (.t 1)⟩,
  ⟨none, .fad 9 2 1⟩,
  ⟨none, .load 10 9 1 false⟩,
  ⟨none, .fad 11 2 1⟩,
  ⟨none, .load 12 11 1 false⟩,
  ⟨none, .fad 18 2 0⟩,
  ⟨none, .load 19 18 1 false⟩,
  ⟨none, .call (some 14) 104 [(.t 12), (.t 13)] true⟩,
  ⟨none, .idx 15 7 (.t 10) (.t 14)⟩,
  ⟨none, .fad 16 15 2⟩,
  ⟨none, .load 17 16 1 false⟩,
  ⟨none, .mov 4 (.t 17)⟩,
  ⟨none, .mov 5 (.t 19)⟩])
 (.ret)))⟩
/-- spec.MovedBetween -/
def r73 : RF :=
 ⟨3, [.tmp 6],
 .seq (.reg [⟨none, .locb 3 (.t 0)⟩,
  ⟨none, .locb 4 (.t 1)⟩,
  ⟨none, .mov 6 (.k (.bool false))⟩])
 (.seq (.reg [⟨none, .load 12 3 5 true⟩,
  ⟨none, .mov 13 (.t 2)⟩,
  ⟨none, .call (some 14) 69 [(.t 12), (.t 13)] false⟩,
  ⟨none, .mov 11 (.t 14)⟩,
  ⟨none, .ext 15 (.t 11) 0⟩,
  ⟨none, .ext 16 (.t 11) 1⟩,
  ⟨none, .mov 7 (.t 15)⟩,
  ⟨none, .mov 8 (.t 16)⟩])
 (.seq (.reg [⟨none, .load 18 4 5 true⟩,
  ⟨none, .mov 19 (.t 2)⟩,
  ⟨none, .call (some 20) 69 [(.t 18), (.t 19)] false⟩,
  ⟨none, .mov 17 (.t 20)⟩,
  ⟨none, .ext 21 (.t 17) 0⟩,
  ⟨none, .ext 22 (.t 17) 1⟩,
  ⟨none, .mov 9 (.t 21)⟩,
  ⟨none, .mov 10 (.t 22)⟩])
 (.seq (.reg [⟨none, .mov 23 (.t 7)⟩,
  ⟨none, .bin 24 .geq (.t 23) (.k (.int .i64 0))⟩,
  ⟨none, .mov 25 (.t 24)⟩,
  ⟨some (25, true), .mov 26 (.t 9)⟩,
  ⟨some (25, true), .bin 27 .geq (.t 26) (.k (.int .i64 0))⟩,
  ⟨none, .pick 28 (.t 25) (.t 27) (.k (.bool false))⟩,
  ⟨none, .mov 29 (.t 28)⟩,
  ⟨some (29, true), .mov 30 (.t 7)⟩,
  ⟨some (29, true), .mov 31 (.t 9)⟩,
  ⟨some (29, true), .bin 32 .neq (.t 30) (.t 31)⟩,
  ⟨none, .pick 33 (.t 29) (.t 32) (.k (.bool false))⟩,
  ⟨none, .mov 6 (.t 33)⟩])
 (.ret))))⟩
/-- spec.ChartOk -/
def r103 : RF :=
 ⟨1, [.tmp 2],
 .seq (.reg [⟨none, .locb 1 (.t 0)⟩,
  ⟨none, .mov 2 (.k (.bool false))⟩])
 (.seq (.seq (.reg [⟨none, .fad 4 1 0⟩,
   ⟨none, .load 5 4 1 false⟩,
   ⟨none, .call (some 6) 5 [(.t 5), (.k (.int .i64 1)), (.k (.int .i64 1000000))] false⟩,
   ⟨none, .not 7 (.t 6)⟩,
   ⟨none, .mov 8 (.t 7)⟩,
   ⟨some (8, false), .fad 9 1 1⟩,
   ⟨some (8, false), .load 10 9 1 false⟩,
   ⟨some (8, false), .call (some 11) 120 [(.t 10)] false⟩,
   ⟨some (8, false), .not 12 (.t 11)⟩,
   ⟨none, .pick 13 (.t 8) (.k (.bool true)) (.t 12)⟩])
  (.cond (.t 13)
  (.seq (.reg [⟨none, .mov 2 (.k (.bool false))⟩])
   (.ret))
  (.skip)))
 (.seq (.seq (.reg [⟨none, .fad 14 1 2⟩,
   ⟨none, .load 15 14 1 false⟩,
   ⟨none, .not 16 (.t 15)⟩])
  (.cond (.t 16)
  (.seq (.reg [⟨none, .fad 17 1 3⟩,
    ⟨none, .load 18 17 1 false⟩,
    ⟨none, .bin 19 .eql (.t 18) (.k (.int .u64 0))⟩,
    ⟨none, .mov 20 (.t 19)⟩,
    ⟨some (20, true), .fad 21 1 4⟩,
    ⟨some (20, true), .load 22 21 1 false⟩,
    ⟨some (20, true), .bin 23 .eql (.t 22) (.k (.int .i64 0))⟩,
    ⟨none, .pick 24 (.t 20) (.t 23) (.k (.bool false))⟩,
    ⟨none, .mov 2 (.t 24)⟩])
   (.ret))
  (.skip)))
 (.seq (.reg [⟨none, .fad 25 1 1⟩,
  ⟨none, .load 26 25 1 false⟩,
  ⟨none, .fad 27 1 3⟩,
  ⟨none, .load 28 27 1 false⟩,
  ⟨none, .call (some 29) 121 [(.t 26), (.t 28)] false⟩,
  ⟨none, .mov 3 (.t 29)⟩])
 (.seq (.reg [⟨none, .chk []⟩,
  ⟨none, .mov 30 (.t 3)⟩,
  ⟨none, .bin 31 .geq (.t 30) (.k (.int .i64 0))⟩,
  ⟨none, .mov 32 (.t 31)⟩,
  ⟨some (32, true), .fad 33 1 4⟩,
  ⟨some (32, true), .load 34 33 1 false⟩,
  ⟨some (32, true), .call (some 35) 5 [(.t 34), (.k (.int .i64 0)), (.k (.int .i64 99))] true⟩,
  ⟨none, .pick 36 (.t 32) (.t 35) (.k (.bool false))⟩,
  ⟨none, .mov 37 (.t 36)⟩,
  ⟨some (37, true), .mov 40 (.t 3)⟩,
  ⟨some (37, true), .fad 38 1 1⟩,
  ⟨some (37, true), .load 39 38 1 false⟩,
  ⟨some (37, true), .idx 41 7 (.t 39) (.t 40)⟩,
  ⟨some (37, true), .fad 42 41 2⟩,
  ⟨some (37, true), .load 43 42 1 false⟩,
  ⟨some (37, true), .fad 44 1 4⟩,
  ⟨some (37, true), .load 45 44 1 false⟩,
  ⟨some (37, true), .bin 46 .neq (.t 43) (.t 45)⟩,
  ⟨none, .pick 47 (.t 37) (.t 46) (.k (.bool false))⟩,
  ⟨none, .mov 2 (.t 47)⟩])
 (.ret)))))⟩
/-- A loop of spec.l12Copy. -/
def r115L0 : RC :=
 .seq (.seq (.reg [⟨none, .mov 14 (.t 4)⟩,
      ⟨none, .fad 15 1 1⟩,
      ⟨none, .load 16 15 1 false⟩,
      ⟨none, .len 17 (.t 16)⟩,
      ⟨none, .bin 18 .lss (.t 14) (.t 17)⟩])
     (.cond (.t 18)
     (.skip)
     (.exit 0)))
    (.seq (.block 1 (.reg [⟨none, .chk []⟩,
      ⟨none, .mov 25 (.t 4)⟩,
      ⟨none, .fad 21 3 1⟩,
      ⟨none, .load 22 21 1 false⟩,
      ⟨none, .fad 23 1 1⟩,
      ⟨none, .load 24 23 1 false⟩,
      ⟨none, .idx 26 7 (.t 24) (.t 25)⟩,
      ⟨none, .load 27 26 3 true⟩,
      ⟨none, .lit 28 7 1 [.int .u64 0, .int .u64 0, .int .i64 0] [(0, (.t 27))]⟩,
      ⟨none, .app 29 7 24 (.t 22) (.t 28)⟩,
      ⟨none, .fad 30 3 1⟩,
      ⟨none, .store 30 1 (.t 29)⟩]))
    (.reg [⟨none, .mov 19 (.t 4)⟩,
    ⟨none, .bin 20 .add (.t 19) (.k (.int .i64 1))⟩,
    ⟨none, .mov 4 (.t 20)⟩]))
/-- spec.l12Copy -/
def r115 : RF :=
 ⟨1, [.cell 2 5 true],
 .seq (.reg [⟨none, .locb 1 (.t 0)⟩,
  ⟨none, .loc 2 [.int .i64 0, .nil, .bool false, .int .u64 0, .int .i64 0]⟩])
 (.seq (.reg [⟨none, .fad 5 1 0⟩,
  ⟨none, .load 6 5 1 false⟩,
  ⟨none, .fad 7 1 2⟩,
  ⟨none, .load 8 7 1 false⟩,
  ⟨none, .fad 9 1 3⟩,
  ⟨none, .load 10 9 1 false⟩,
  ⟨none, .fad 11 1 4⟩,
  ⟨none, .load 12 11 1 false⟩,
  ⟨none, .build 13 [.int .i64 0, .nil, .bool false, .int .u64 0, .int .i64 0] [(0, 1, (.t 6)), (2, 1, (.t 8)), (3, 1, (.t 10)), (4, 1, (.t 12))]⟩,
  ⟨none, .loc 3 [.int .i64 0, .nil, .bool false, .int .u64 0, .int .i64 0]⟩,
  ⟨none, .store 3 5 (.t 13)⟩])
 (.seq (.seq (.reg [⟨none, .mov 4 (.k (.int .i64 0))⟩])
  (.block 0 (.loop [1, 2, 3, 4]
   r115L0)))
 (.seq (.reg [⟨none, .load 31 3 5 true⟩,
  ⟨none, .store 2 5 (.t 31)⟩])
 (.ret))))⟩
/-- A loop of spec.l12Place. -/
def r121L0 : RC :=
 .seq (.seq (.reg [⟨none, .mov 6 (.t 5)⟩,
      ⟨none, .mov 7 (.t 0)⟩,
      ⟨none, .len 8 (.t 7)⟩,
      ⟨none, .bin 9 .lss (.t 6) (.t 8)⟩])
     (.cond (.t 9)
     (.skip)
     (.exit 0)))
    (.seq (.block 1 (.seq (.reg [⟨none, .mov 12 (.t 0)⟩,
       ⟨none, .mov 13 (.t 5)⟩,
       ⟨none, .idx 14 7 (.t 12) (.t 13)⟩,
       ⟨none, .fad 15 14 0⟩,
       ⟨none, .load 16 15 1 false⟩,
       ⟨none, .mov 17 (.t 1)⟩,
       ⟨none, .bin 18 .eql (.t 16) (.t 17)⟩])
      (.cond (.t 18)
      (.seq (.reg [⟨none, .mov 19 (.t 5)⟩,
        ⟨none, .mov 4 (.t 19)⟩])
       (.ret))
      (.skip))))
    (.reg [⟨none, .mov 10 (.t 5)⟩,
    ⟨none, .bin 11 .add (.t 10) (.k (.int .i64 1))⟩,
    ⟨none, .mov 5 (.t 11)⟩]))
/-- spec.l12Place -/
def r121 : RF :=
 ⟨2, [.tmp 4],
 .seq (.reg [⟨none, .mov 4 (.k (.int .i64 0))⟩])
 (.seq (.seq (.reg [⟨none, .mov 5 (.k (.int .i64 0))⟩])
  (.block 0 (.loop [0, 1, 5]
   r121L0)))
 (.seq (.reg [⟨none, .mov 4 (.k (.int .i64 (-1)))⟩])
 (.ret)))⟩
/-- The functions of this text, with their numbers. -/
def tS12 : List (Nat × RF) := [(69, r69), (73, r73), (103, r103), (115, r115), (121, r121)]
end Go.Proofs.Ytgogajbfiocdbaa.A
