/- The compact code of some functions: laws.FnExactPastAt. -/
import Derived.Test.YtgogajbfiocdbaaA1
namespace Go.Proofs.Ytgogajbfiocdbaa.A
open Go
/-- laws.FnExactPastAt -/
def r51 : RF :=
 ⟨2, [.tmp 4],
 .seq (.reg [⟨none, .mov 4 (.k (.bool false))⟩])
 (.seq (.reg [⟨none, .mov 5 (.k (.int .i64 1048576))⟩])
 (.seq (.reg [⟨none, .mov 13 (.t 0)⟩,
  ⟨none, .mov 14 (.t 5)⟩,
  ⟨none, .call (some 15) 40 [(.t 13), (.t 14)] false⟩,
  ⟨none, .mov 5 (.t 15)⟩])
 (.seq (.seq (.reg [⟨none, .mov 16 (.t 5)⟩,
   ⟨none, .bin 17 .lss (.t 16) (.k (.int .i64 0))⟩])
  (.cond (.t 17)
  (.seq (.reg [⟨none, .mov 4 (.k (.bool true))⟩])
   (.ret))
  (.skip)))
 (.seq (.reg [⟨none, .mov 18 (.t 0)⟩,
  ⟨none, .call (some 19) 41 [(.t 18)] false⟩,
  ⟨none, .mov 20 (.t 1)⟩,
  ⟨none, .call (some 21) 52 [(.t 19), (.t 20)] false⟩,
  ⟨none, .mov 6 (.t 21)⟩])
 (.seq (.reg [⟨none, .mov 22 (.t 0)⟩,
  ⟨none, .call (some 23) 41 [(.t 22)] false⟩,
  ⟨none, .mov 7 (.t 23)⟩])
 (.seq (.reg [⟨none, .mov 24 (.t 7)⟩,
  ⟨none, .mov 25 (.t 1)⟩,
  ⟨none, .call (some 26) 53 [(.t 24), (.t 25)] false⟩,
  ⟨none, .mov 8 (.t 26)⟩])
 (.seq (.seq (.reg [⟨none, .mov 27 (.t 8)⟩,
   ⟨none, .mov 28 (.t 6)⟩,
   ⟨none, .call (some 29) 44 [(.t 27), (.t 28)] false⟩,
   ⟨none, .not 30 (.t 29)⟩])
  (.cond (.t 30)
  (.seq (.reg [⟨none, .mov 4 (.k (.bool false))⟩])
   (.ret))
  (.skip)))
 (.seq (.seq (.reg [⟨none, .mov 31 (.t 7)⟩,
   ⟨none, .mov 32 (.t 0)⟩,
   ⟨none, .call (some 33) 41 [(.t 32)] false⟩,
   ⟨none, .call (some 34) 44 [(.t 31), (.t 33)] false⟩,
   ⟨none, .not 35 (.t 34)⟩])
  (.cond (.t 35)
  (.seq (.reg [⟨none, .mov 4 (.k (.bool false))⟩])
   (.ret))
  (.skip)))
 (.seq (.reg [⟨none, .mov 9 (.k (.int .i64 1))⟩])
 (.seq (.reg [⟨none, .mov 36 (.t 7)⟩,
  ⟨none, .mov 37 (.t 9)⟩,
  ⟨none, .call (some 38) 54 [(.t 36), (.t 37)] false⟩,
  ⟨none, .mov 9 (.t 38)⟩])
 (.seq (.seq (.reg [⟨none, .mov 39 (.t 9)⟩,
   ⟨none, .bin 40 .lss (.t 39) (.k (.int .i64 0))⟩,
   ⟨none, .mov 41 (.t 40)⟩,
   ⟨some (41, false), .mov 42 (.t 8)⟩,
   ⟨some (41, false), .mov 43 (.t 6)⟩,
   ⟨some (41, false), .call (some 44) 44 [(.t 42), (.t 43)] false⟩,
   ⟨some (41, false), .not 45 (.t 44)⟩,
   ⟨none, .pick 46 (.t 41) (.k (.bool true)) (.t 45)⟩])
  (.cond (.t 46)
  (.seq (.reg [⟨none, .mov 4 (.k (.bool false))⟩])
   (.ret))
  (.skip)))
 (.seq (.reg [⟨none, .mov 10 (.k (.int .i64 1))⟩])
 (.seq (.reg [⟨none, .mov 47 (.t 8)⟩,
  ⟨none, .mov 48 (.t 10)⟩,
  ⟨none, .call (some 49) 54 [(.t 47), (.t 48)] false⟩,
  ⟨none, .mov 10 (.t 49)⟩])
 (.seq (.reg [⟨none, .mov 11 (.k (.int .i64 1))⟩])
 (.seq (.reg [⟨none, .mov 50 (.t 8)⟩,
  ⟨none, .mov 51 (.t 11)⟩,
  ⟨none, .call (some 52) 55 [(.t 50), (.t 51)] false⟩,
  ⟨none, .mov 11 (.t 52)⟩])
 (.seq (.seq (.reg [⟨none, .mov 53 (.t 11)⟩,
   ⟨none, .bin 54 .lss (.t 53) (.k (.int .i64 0))⟩])
  (.cond (.t 54)
  (.seq (.reg [⟨none, .mov 4 (.k (.bool false))⟩])
   (.ret))
  (.skip)))
 (.seq (.seq (.reg [⟨none, .mov 55 (.t 11)⟩,
   ⟨none, .mov 56 (.t 10)⟩,
   ⟨none, .bin 57 .neq (.t 55) (.t 56)⟩])
  (.cond (.t 57)
  (.seq (.reg [⟨none, .mov 4 (.k (.bool false))⟩])
   (.ret))
  (.skip)))
 (.seq (.reg [⟨none, .mov 58 (.t 0)⟩,
  ⟨none, .call (some 59) 41 [(.t 58)] false⟩,
  ⟨none, .mov 60 (.t 1)⟩,
  ⟨none, .call (some 61) 53 [(.t 59), (.t 60)] false⟩,
  ⟨none, .mov 12 (.t 61)⟩])
 (.seq (.seq (.reg [⟨none, .mov 62 (.t 12)⟩,
   ⟨none, .mov 63 (.t 6)⟩,
   ⟨none, .call (some 64) 44 [(.t 62), (.t 63)] false⟩,
   ⟨none, .not 65 (.t 64)⟩])
  (.cond (.t 65)
  (.seq (.reg [⟨none, .mov 4 (.k (.bool false))⟩])
   (.ret))
  (.skip)))
 (.seq (.reg [⟨none, .mov 11 (.k (.int .i64 1))⟩])
 (.seq (.reg [⟨none, .mov 66 (.t 8)⟩,
  ⟨none, .mov 67 (.t 11)⟩,
  ⟨none, .call (some 68) 55 [(.t 66), (.t 67)] false⟩,
  ⟨none, .mov 11 (.t 68)⟩])
 (.seq (.seq (.reg [⟨none, .mov 69 (.t 11)⟩,
   ⟨none, .bin 70 .lss (.t 69) (.k (.int .i64 0))⟩])
  (.cond (.t 70)
  (.seq (.reg [⟨none, .mov 4 (.k (.bool false))⟩])
   (.ret))
  (.skip)))
 (.seq (.seq (.reg [⟨none, .mov 71 (.t 11)⟩,
   ⟨none, .mov 72 (.t 10)⟩,
   ⟨none, .bin 73 .neq (.t 71) (.t 72)⟩])
  (.cond (.t 73)
  (.seq (.reg [⟨none, .mov 4 (.k (.bool false))⟩])
   (.ret))
  (.skip)))
 (.seq (.reg [⟨none, .mov 4 (.k (.bool true))⟩])
 (.ret)))))))))))))))))))))))))⟩
/-- The functions of this text, with their numbers. -/
def tWPastAt : List (Nat × RF) := [(51, r51)]
end Go.Proofs.Ytgogajbfiocdbaa.A
