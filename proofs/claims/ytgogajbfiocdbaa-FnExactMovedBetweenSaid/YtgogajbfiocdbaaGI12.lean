/- The compact code of some functions: impl.RouteOf, impl.MovedBetween, impl.isChart, impl.copyChart. -/
import Derived.Test.YtgogajbfiocdbaaA1
namespace Go.Proofs.Ytgogajbfiocdbaa.A
open Go
/-- impl.RouteOf -/
def r70 : RF :=
 ⟨2, [.tmp 4, .tmp 5],
 .seq (.reg [⟨none, .locb 2 (.t 0)⟩,
  ⟨none, .mov 4 (.k (.int .i64 0))⟩,
  ⟨none, .mov 5 (.k (.int .i64 0))⟩])
 (.seq (.seq (.reg [⟨none, .load 6 2 5 true⟩,
   ⟨none, .call (some 7) 106 [(.t 6)] false⟩,
   ⟨none, .not 8 (.t 7)⟩])
  (.cond (.t 8)
  (.seq (.reg [⟨none, .mov 4 (.k (.int .i64 (-1)))⟩,
    ⟨none, .mov 5 (.k (.int .i64 (-1)))⟩])
   (.ret))
  (.skip)))
 (.seq (.reg [⟨none, .chk []⟩,
  ⟨none, .mov 13 (.t 1)⟩,
  ⟨none, .fad 9 2 1⟩,
  ⟨none, .load 10 9 1 false⟩,
  ⟨none, .fad 11 2 1⟩,
  ⟨none, .load 12 11 1 false⟩,
  ⟨none, .fad 18 2 0⟩,
  ⟨none, .load 19 18 1 false⟩,
  ⟨none, .call (some 14) 107 [(.t 12), (.t 13)] true⟩,
  ⟨none, .idx 15 7 (.t 10) (.t 14)⟩,
  ⟨none, .fad 16 15 2⟩,
  ⟨none, .load 17 16 1 false⟩,
  ⟨none, .mov 4 (.t 17)⟩,
  ⟨none, .mov 5 (.t 19)⟩])
 (.ret)))⟩
/-- impl.MovedBetween -/
def r74 : RF :=
 ⟨3, [.tmp 6],
 .seq (.reg [⟨none, .locb 3 (.t 0)⟩,
  ⟨none, .locb 4 (.t 1)⟩,
  ⟨none, .mov 6 (.k (.bool false))⟩])
 (.seq (.reg [⟨none, .chk []⟩,
  ⟨none, .load 7 3 5 true⟩,
  ⟨none, .call (some 8) 106 [(.t 7)] true⟩,
  ⟨none, .mov 9 (.t 8)⟩,
  ⟨some (9, true), .load 10 4 5 true⟩,
  ⟨some (9, true), .call (some 11) 106 [(.t 10)] true⟩,
  ⟨none, .pick 12 (.t 9) (.t 11) (.k (.bool false))⟩,
  ⟨none, .mov 13 (.t 12)⟩,
  ⟨some (13, true), .mov 18 (.t 2)⟩,
  ⟨some (13, true), .mov 27 (.t 2)⟩,
  ⟨some (13, true), .fad 14 3 1⟩,
  ⟨some (13, true), .load 15 14 1 false⟩,
  ⟨some (13, true), .fad 16 3 1⟩,
  ⟨some (13, true), .load 17 16 1 false⟩,
  ⟨some (13, true), .fad 23 4 1⟩,
  ⟨some (13, true), .load 24 23 1 false⟩,
  ⟨some (13, true), .fad 25 4 1⟩,
  ⟨some (13, true), .load 26 25 1 false⟩,
  ⟨some (13, true), .call (some 19) 107 [(.t 17), (.t 18)] true⟩,
  ⟨some (13, true), .idx 20 7 (.t 15) (.t 19)⟩,
  ⟨some (13, true), .fad 21 20 2⟩,
  ⟨some (13, true), .load 22 21 1 false⟩,
  ⟨some (13, true), .call (some 28) 107 [(.t 26), (.t 27)] true⟩,
  ⟨some (13, true), .idx 29 7 (.t 24) (.t 28)⟩,
  ⟨some (13, true), .fad 30 29 2⟩,
  ⟨some (13, true), .load 31 30 1 false⟩,
  ⟨some (13, true), .bin 32 .neq (.t 22) (.t 31)⟩,
  ⟨none, .pick 33 (.t 13) (.t 32) (.k (.bool false))⟩,
  ⟨none, .mov 6 (.t 33)⟩])
 (.ret))⟩
/-- impl.isChart -/
def r106 : RF :=
 ⟨1, [.tmp 2],
 .seq (.reg [⟨none, .locb 1 (.t 0)⟩,
  ⟨none, .mov 2 (.k (.bool false))⟩])
 (.seq (.seq (.reg [⟨none, .fad 4 1 0⟩,
   ⟨none, .load 5 4 1 false⟩,
   ⟨none, .bin 6 .lss (.t 5) (.k (.int .i64 1))⟩,
   ⟨none, .mov 7 (.t 6)⟩,
   ⟨some (7, false), .fad 8 1 0⟩,
   ⟨some (7, false), .load 9 8 1 false⟩,
   ⟨some (7, false), .bin 10 .gtr (.t 9) (.k (.int .i64 1000000))⟩,
   ⟨none, .pick 11 (.t 7) (.k (.bool true)) (.t 10)⟩,
   ⟨none, .mov 12 (.t 11)⟩,
   ⟨some (12, false), .fad 13 1 1⟩,
   ⟨some (12, false), .load 14 13 1 false⟩,
   ⟨some (12, false), .call (some 15) 124 [(.t 14)] false⟩,
   ⟨some (12, false), .not 16 (.t 15)⟩,
   ⟨none, .pick 17 (.t 12) (.k (.bool true)) (.t 16)⟩])
  (.cond (.t 17)
  (.seq (.reg [⟨none, .mov 2 (.k (.bool false))⟩])
   (.ret))
  (.skip)))
 (.seq (.seq (.reg [⟨none, .fad 18 1 2⟩,
   ⟨none, .load 19 18 1 false⟩,
   ⟨none, .not 20 (.t 19)⟩])
  (.cond (.t 20)
  (.seq (.reg [⟨none, .fad 21 1 3⟩,
    ⟨none, .load 22 21 1 false⟩,
    ⟨none, .bin 23 .eql (.t 22) (.k (.int .u64 0))⟩,
    ⟨none, .mov 24 (.t 23)⟩,
    ⟨some (24, true), .fad 25 1 4⟩,
    ⟨some (24, true), .load 26 25 1 false⟩,
    ⟨some (24, true), .bin 27 .eql (.t 26) (.k (.int .i64 0))⟩,
    ⟨none, .pick 28 (.t 24) (.t 27) (.k (.bool false))⟩,
    ⟨none, .mov 2 (.t 28)⟩])
   (.ret))
  (.skip)))
 (.seq (.reg [⟨none, .chk [3]⟩,
  ⟨none, .loc 3 [.int .u64 0, .int .u64 0, .int .i64 0]⟩,
  ⟨none, .fad 29 1 1⟩,
  ⟨none, .load 30 29 1 false⟩,
  ⟨none, .fad 31 1 1⟩,
  ⟨none, .load 32 31 1 false⟩,
  ⟨none, .fad 33 1 3⟩,
  ⟨none, .load 34 33 1 false⟩,
  ⟨none, .call (some 35) 107 [(.t 32), (.t 34)] true⟩,
  ⟨none, .idx 36 7 (.t 30) (.t 35)⟩,
  ⟨none, .load 37 36 3 true⟩,
  ⟨none, .store 3 3 (.t 37)⟩])
 (.seq (.reg [⟨none, .fad 38 3 0⟩,
  ⟨none, .load 39 38 1 false⟩,
  ⟨none, .fad 40 1 3⟩,
  ⟨none, .load 41 40 1 false⟩,
  ⟨none, .bin 42 .eql (.t 39) (.t 41)⟩,
  ⟨none, .mov 43 (.t 42)⟩,
  ⟨some (43, true), .fad 44 1 4⟩,
  ⟨some (43, true), .load 45 44 1 false⟩,
  ⟨some (43, true), .call (some 46) 7 [(.t 45)] false⟩,
  ⟨none, .pick 47 (.t 43) (.t 46) (.k (.bool false))⟩,
  ⟨none, .mov 48 (.t 47)⟩,
  ⟨some (48, true), .fad 49 1 4⟩,
  ⟨some (48, true), .load 50 49 1 false⟩,
  ⟨some (48, true), .fad 51 3 2⟩,
  ⟨some (48, true), .load 52 51 1 false⟩,
  ⟨some (48, true), .bin 53 .neq (.t 50) (.t 52)⟩,
  ⟨none, .pick 54 (.t 48) (.t 53) (.k (.bool false))⟩,
  ⟨none, .mov 2 (.t 54)⟩])
 (.ret)))))⟩
/-- impl.copyChart -/
def r116 : RF :=
 ⟨1, [.cell 2 5 true],
 .seq (.reg [⟨none, .locb 1 (.t 0)⟩,
  ⟨none, .loc 2 [.int .i64 0, .nil, .bool false, .int .u64 0, .int .i64 0]⟩])
 (.seq (.reg [⟨none, .lit 3 7 0 [.int .u64 0, .int .u64 0, .int .i64 0] []⟩,
  ⟨none, .fad 4 1 1⟩,
  ⟨none, .load 5 4 1 false⟩,
  ⟨none, .app 6 7 24 (.t 3) (.t 5)⟩,
  ⟨none, .fad 7 1 1⟩,
  ⟨none, .store 7 1 (.t 6)⟩])
 (.seq (.reg [⟨none, .load 8 1 5 true⟩,
  ⟨none, .store 2 5 (.t 8)⟩])
 (.ret)))⟩
/-- The functions of this text, with their numbers. -/
def tI12 : List (Nat × RF) := [(70, r70), (74, r74), (106, r106), (116, r116)]
end Go.Proofs.Ytgogajbfiocdbaa.A
