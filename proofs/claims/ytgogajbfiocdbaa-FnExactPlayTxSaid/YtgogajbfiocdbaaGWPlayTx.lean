/- The compact code of some functions: laws.FnExactPlayTx. -/
import Derived.Test.YtgogajbfiocdbaaA1
namespace Go.Proofs.Ytgogajbfiocdbaa.A
open Go
/-- laws.FnExactPlayTx -/
def r56 : RF :=
 ⟨2, [.tmp 4],
 .seq (.reg [⟨none, .locb 2 (.t 0)⟩,
  ⟨none, .mov 4 (.k (.bool false))⟩])
 (.seq (.reg [⟨none, .mov 5 (.k (.int .i64 1048576))⟩])
 (.seq (.reg [⟨none, .mov 16 (.t 1)⟩,
  ⟨none, .mov 17 (.t 5)⟩,
  ⟨none, .call (some 18) 57 [(.t 16), (.t 17)] false⟩,
  ⟨none, .mov 5 (.t 18)⟩])
 (.seq (.seq (.reg [⟨none, .mov 19 (.t 5)⟩,
   ⟨none, .bin 20 .lss (.t 19) (.k (.int .i64 0))⟩])
  (.cond (.t 20)
  (.seq (.reg [⟨none, .mov 4 (.k (.bool true))⟩])
   (.ret))
  (.skip)))
 (.seq (.reg [⟨none, .load 22 2 10 true⟩,
  ⟨none, .call (some 23) 13 [(.t 22)] false⟩,
  ⟨none, .mov 24 (.t 1)⟩,
  ⟨none, .call (some 25) 58 [(.t 24)] false⟩,
  ⟨none, .call (some 26) 59 [(.t 23), (.t 25)] false⟩,
  ⟨none, .mov 21 (.t 26)⟩,
  ⟨none, .ext 27 (.t 21) 0⟩,
  ⟨none, .ext 28 (.t 21) 1⟩,
  ⟨none, .loc 6 [.int .i64 0, .int .u64 0, .int .u64 0, .int .u64 0, .int .i64 0, .bool false, .bool false, .bool false, .bool false, .int .i64 0]⟩,
  ⟨none, .store 6 10 (.t 27)⟩,
  ⟨none, .mov 7 (.t 28)⟩])
 (.seq (.reg [⟨none, .mov 29 (.t 1)⟩,
  ⟨none, .call (some 30) 58 [(.t 29)] false⟩,
  ⟨none, .mov 8 (.t 30)⟩])
 (.seq (.reg [⟨none, .load 32 2 10 true⟩,
  ⟨none, .call (some 33) 13 [(.t 32)] false⟩,
  ⟨none, .mov 34 (.t 8)⟩,
  ⟨none, .call (some 35) 60 [(.t 33), (.t 34)] false⟩,
  ⟨none, .mov 31 (.t 35)⟩,
  ⟨none, .ext 36 (.t 31) 0⟩,
  ⟨none, .ext 37 (.t 31) 1⟩,
  ⟨none, .loc 9 [.int .i64 0, .int .u64 0, .int .u64 0, .int .u64 0, .int .i64 0, .bool false, .bool false, .bool false, .bool false, .int .i64 0]⟩,
  ⟨none, .store 9 10 (.t 36)⟩,
  ⟨none, .mov 10 (.t 37)⟩])
 (.seq (.seq (.reg [⟨none, .load 38 9 10 true⟩,
   ⟨none, .load 39 6 10 true⟩,
   ⟨none, .call (some 40) 22 [(.t 38), (.t 39)] false⟩,
   ⟨none, .not 41 (.t 40)⟩,
   ⟨none, .mov 42 (.t 41)⟩,
   ⟨some (42, false), .mov 43 (.t 10)⟩,
   ⟨some (42, false), .mov 44 (.t 7)⟩,
   ⟨some (42, false), .call (some 45) 61 [(.t 43), (.t 44)] false⟩,
   ⟨some (42, false), .not 46 (.t 45)⟩,
   ⟨none, .pick 47 (.t 42) (.k (.bool true)) (.t 46)⟩])
  (.cond (.t 47)
  (.seq (.reg [⟨none, .mov 4 (.k (.bool false))⟩])
   (.ret))
  (.skip)))
 (.seq (.seq (.reg [⟨none, .mov 48 (.t 8)⟩,
   ⟨none, .mov 49 (.t 1)⟩,
   ⟨none, .call (some 50) 58 [(.t 49)] false⟩,
   ⟨none, .call (some 51) 62 [(.t 48), (.t 50)] false⟩,
   ⟨none, .not 52 (.t 51)⟩])
  (.cond (.t 52)
  (.seq (.reg [⟨none, .mov 4 (.k (.bool false))⟩])
   (.ret))
  (.skip)))
 (.seq (.reg [⟨none, .mov 11 (.k (.int .i64 1))⟩])
 (.seq (.reg [⟨none, .mov 53 (.t 8)⟩,
  ⟨none, .mov 54 (.t 11)⟩,
  ⟨none, .call (some 55) 63 [(.t 53), (.t 54)] false⟩,
  ⟨none, .mov 11 (.t 55)⟩])
 (.seq (.seq (.reg [⟨none, .mov 56 (.t 11)⟩,
   ⟨none, .bin 57 .lss (.t 56) (.k (.int .i64 0))⟩,
   ⟨none, .mov 58 (.t 57)⟩,
   ⟨some (58, false), .load 59 9 10 true⟩,
   ⟨some (58, false), .load 60 6 10 true⟩,
   ⟨some (58, false), .call (some 61) 22 [(.t 59), (.t 60)] false⟩,
   ⟨some (58, false), .not 62 (.t 61)⟩,
   ⟨none, .pick 63 (.t 58) (.k (.bool true)) (.t 62)⟩,
   ⟨none, .mov 64 (.t 63)⟩,
   ⟨some (64, false), .mov 65 (.t 10)⟩,
   ⟨some (64, false), .mov 66 (.t 7)⟩,
   ⟨some (64, false), .call (some 67) 61 [(.t 65), (.t 66)] false⟩,
   ⟨some (64, false), .not 68 (.t 67)⟩,
   ⟨none, .pick 69 (.t 64) (.k (.bool true)) (.t 68)⟩])
  (.cond (.t 69)
  (.seq (.reg [⟨none, .mov 4 (.k (.bool false))⟩])
   (.ret))
  (.skip)))
 (.seq (.reg [⟨none, .mov 12 (.k (.int .i64 1))⟩])
 (.seq (.reg [⟨none, .mov 70 (.t 10)⟩,
  ⟨none, .mov 71 (.t 12)⟩,
  ⟨none, .call (some 72) 64 [(.t 70), (.t 71)] false⟩,
  ⟨none, .mov 12 (.t 72)⟩])
 (.seq (.reg [⟨none, .mov 13 (.k (.int .i64 1))⟩])
 (.seq (.reg [⟨none, .mov 73 (.t 10)⟩,
  ⟨none, .mov 74 (.t 13)⟩,
  ⟨none, .call (some 75) 65 [(.t 73), (.t 74)] false⟩,
  ⟨none, .mov 13 (.t 75)⟩])
 (.seq (.seq (.reg [⟨none, .mov 76 (.t 13)⟩,
   ⟨none, .bin 77 .lss (.t 76) (.k (.int .i64 0))⟩])
  (.cond (.t 77)
  (.seq (.reg [⟨none, .mov 4 (.k (.bool false))⟩])
   (.ret))
  (.skip)))
 (.seq (.seq (.reg [⟨none, .mov 78 (.t 13)⟩,
   ⟨none, .mov 79 (.t 12)⟩,
   ⟨none, .bin 80 .neq (.t 78) (.t 79)⟩])
  (.cond (.t 80)
  (.seq (.reg [⟨none, .mov 4 (.k (.bool false))⟩])
   (.ret))
  (.skip)))
 (.seq (.reg [⟨none, .load 82 2 10 true⟩,
  ⟨none, .call (some 83) 13 [(.t 82)] false⟩,
  ⟨none, .mov 84 (.t 1)⟩,
  ⟨none, .call (some 85) 58 [(.t 84)] false⟩,
  ⟨none, .call (some 86) 60 [(.t 83), (.t 85)] false⟩,
  ⟨none, .mov 81 (.t 86)⟩,
  ⟨none, .ext 87 (.t 81) 0⟩,
  ⟨none, .ext 88 (.t 81) 1⟩,
  ⟨none, .loc 14 [.int .i64 0, .int .u64 0, .int .u64 0, .int .u64 0, .int .i64 0, .bool false, .bool false, .bool false, .bool false, .int .i64 0]⟩,
  ⟨none, .store 14 10 (.t 87)⟩,
  ⟨none, .mov 15 (.t 88)⟩])
 (.seq (.seq (.reg [⟨none, .load 89 14 10 true⟩,
   ⟨none, .load 90 6 10 true⟩,
   ⟨none, .call (some 91) 22 [(.t 89), (.t 90)] false⟩,
   ⟨none, .not 92 (.t 91)⟩,
   ⟨none, .mov 93 (.t 92)⟩,
   ⟨some (93, false), .mov 94 (.t 15)⟩,
   ⟨some (93, false), .mov 95 (.t 7)⟩,
   ⟨some (93, false), .call (some 96) 61 [(.t 94), (.t 95)] false⟩,
   ⟨some (93, false), .not 97 (.t 96)⟩,
   ⟨none, .pick 98 (.t 93) (.k (.bool true)) (.t 97)⟩])
  (.cond (.t 98)
  (.seq (.reg [⟨none, .mov 4 (.k (.bool false))⟩])
   (.ret))
  (.skip)))
 (.seq (.reg [⟨none, .mov 13 (.k (.int .i64 1))⟩])
 (.seq (.reg [⟨none, .mov 99 (.t 10)⟩,
  ⟨none, .mov 100 (.t 13)⟩,
  ⟨none, .call (some 101) 65 [(.t 99), (.t 100)] false⟩,
  ⟨none, .mov 13 (.t 101)⟩])
 (.seq (.seq (.reg [⟨none, .mov 102 (.t 13)⟩,
   ⟨none, .bin 103 .lss (.t 102) (.k (.int .i64 0))⟩])
  (.cond (.t 103)
  (.seq (.reg [⟨none, .mov 4 (.k (.bool false))⟩])
   (.ret))
  (.skip)))
 (.seq (.seq (.reg [⟨none, .mov 104 (.t 13)⟩,
   ⟨none, .mov 105 (.t 12)⟩,
   ⟨none, .bin 106 .neq (.t 104) (.t 105)⟩])
  (.cond (.t 106)
  (.seq (.reg [⟨none, .mov 4 (.k (.bool false))⟩])
   (.ret))
  (.skip)))
 (.seq (.reg [⟨none, .mov 4 (.k (.bool true))⟩])
 (.ret)))))))))))))))))))))))))⟩
/-- The functions of this text, with their numbers. -/
def tWPlayTx : List (Nat × RF) := [(56, r56)]
end Go.Proofs.Ytgogajbfiocdbaa.A
