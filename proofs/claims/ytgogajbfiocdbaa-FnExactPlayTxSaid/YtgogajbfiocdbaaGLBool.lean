/- The compact code of some functions: laws.eqBoolS, laws.markBoolS, laws.heldBoolS. -/
import Derived.Test.YtgogajbfiocdbaaA1
namespace Go.Proofs.Ytgogajbfiocdbaa.A
open Go
/-- A loop of laws.eqBoolS. -/
def r61L0 : RC :=
 .seq (.seq (.reg [⟨none, .mov 11 (.t 5)⟩,
      ⟨none, .mov 12 (.t 0)⟩,
      ⟨none, .len 13 (.t 12)⟩,
      ⟨none, .bin 14 .lss (.t 11) (.t 13)⟩])
     (.cond (.t 14)
     (.skip)
     (.exit 0)))
    (.seq (.block 1 (.seq (.reg [⟨none, .chk []⟩,
       ⟨none, .mov 17 (.t 0)⟩,
       ⟨none, .mov 18 (.t 5)⟩,
       ⟨none, .idx 19 4 (.t 17) (.t 18)⟩,
       ⟨none, .mov 21 (.t 1)⟩,
       ⟨none, .mov 22 (.t 5)⟩,
       ⟨none, .idx 23 4 (.t 21) (.t 22)⟩,
       ⟨none, .load 20 19 1 false⟩,
       ⟨none, .load 24 23 1 false⟩,
       ⟨none, .beq 25 true (.t 20) (.t 24)⟩])
      (.cond (.t 25)
      (.seq (.reg [⟨none, .mov 4 (.k (.bool false))⟩])
       (.ret))
      (.skip))))
    (.reg [⟨none, .mov 15 (.t 5)⟩,
    ⟨none, .bin 16 .add (.t 15) (.k (.int .i64 1))⟩,
    ⟨none, .mov 5 (.t 16)⟩]))
/-- laws.eqBoolS -/
def r61 : RF :=
 ⟨2, [.tmp 4],
 .seq (.reg [⟨none, .mov 4 (.k (.bool false))⟩])
 (.seq (.seq (.reg [⟨none, .mov 6 (.t 0)⟩,
   ⟨none, .len 7 (.t 6)⟩,
   ⟨none, .mov 8 (.t 1)⟩,
   ⟨none, .len 9 (.t 8)⟩,
   ⟨none, .bin 10 .neq (.t 7) (.t 9)⟩])
  (.cond (.t 10)
  (.seq (.reg [⟨none, .mov 4 (.k (.bool false))⟩])
   (.ret))
  (.skip)))
 (.seq (.seq (.reg [⟨none, .mov 5 (.k (.int .i64 0))⟩])
  (.block 0 (.loop [0, 1, 5]
   r61L0)))
 (.seq (.reg [⟨none, .mov 4 (.k (.bool true))⟩])
 (.ret))))⟩
/-- A loop of laws.markBoolS. -/
def r64L0 : RC :=
 .seq (.seq (.reg [⟨none, .mov 6 (.t 5)⟩,
      ⟨none, .mov 7 (.t 0)⟩,
      ⟨none, .len 8 (.t 7)⟩,
      ⟨none, .bin 9 .lss (.t 6) (.t 8)⟩])
     (.cond (.t 9)
     (.skip)
     (.exit 0)))
    (.seq (.block 1 (.seq (.reg [⟨none, .mov 12 (.t 0)⟩,
       ⟨none, .mov 13 (.t 5)⟩,
       ⟨none, .mov 14 (.t 1)⟩,
       ⟨none, .bin 15 .rem (.t 14) (.k (.int .i64 3))⟩,
       ⟨none, .bin 16 .eql (.t 15) (.k (.int .i64 0))⟩,
       ⟨none, .idx 17 4 (.t 12) (.t 13)⟩,
       ⟨none, .store 17 1 (.t 16)⟩])
      (.reg [⟨none, .mov 18 (.t 1)⟩,
      ⟨none, .bin 19 .add (.t 18) (.k (.int .i64 1))⟩,
      ⟨none, .mov 1 (.t 19)⟩])))
    (.reg [⟨none, .mov 10 (.t 5)⟩,
    ⟨none, .bin 11 .add (.t 10) (.k (.int .i64 1))⟩,
    ⟨none, .mov 5 (.t 11)⟩]))
/-- laws.markBoolS -/
def r64 : RF :=
 ⟨2, [.tmp 4],
 .seq (.reg [⟨none, .mov 4 (.k (.int .i64 0))⟩])
 (.seq (.seq (.reg [⟨none, .mov 5 (.k (.int .i64 0))⟩])
  (.block 0 (.loop [0, 1, 5]
   r64L0)))
 (.seq (.reg [⟨none, .mov 20 (.t 1)⟩,
  ⟨none, .mov 4 (.t 20)⟩])
 (.ret)))⟩
/-- A loop of laws.heldBoolS. -/
def r65L0 : RC :=
 .seq (.seq (.reg [⟨none, .mov 6 (.t 5)⟩,
      ⟨none, .mov 7 (.t 0)⟩,
      ⟨none, .len 8 (.t 7)⟩,
      ⟨none, .bin 9 .lss (.t 6) (.t 8)⟩])
     (.cond (.t 9)
     (.skip)
     (.exit 0)))
    (.seq (.block 1 (.seq (.seq (.reg [⟨none, .mov 12 (.t 0)⟩,
        ⟨none, .mov 13 (.t 5)⟩,
        ⟨none, .idx 14 4 (.t 12) (.t 13)⟩,
        ⟨none, .load 15 14 1 false⟩,
        ⟨none, .mov 16 (.t 1)⟩,
        ⟨none, .bin 17 .rem (.t 16) (.k (.int .i64 3))⟩,
        ⟨none, .bin 18 .eql (.t 17) (.k (.int .i64 0))⟩,
        ⟨none, .beq 19 true (.t 15) (.t 18)⟩])
       (.cond (.t 19)
       (.seq (.reg [⟨none, .mov 4 (.k (.int .i64 (-1)))⟩])
        (.ret))
       (.skip)))
      (.reg [⟨none, .mov 20 (.t 1)⟩,
      ⟨none, .bin 21 .add (.t 20) (.k (.int .i64 1))⟩,
      ⟨none, .mov 1 (.t 21)⟩])))
    (.reg [⟨none, .mov 10 (.t 5)⟩,
    ⟨none, .bin 11 .add (.t 10) (.k (.int .i64 1))⟩,
    ⟨none, .mov 5 (.t 11)⟩]))
/-- laws.heldBoolS -/
def r65 : RF :=
 ⟨2, [.tmp 4],
 .seq (.reg [⟨none, .mov 4 (.k (.int .i64 0))⟩])
 (.seq (.seq (.reg [⟨none, .mov 5 (.k (.int .i64 0))⟩])
  (.block 0 (.loop [0, 1, 5]
   r65L0)))
 (.seq (.reg [⟨none, .mov 22 (.t 1)⟩,
  ⟨none, .mov 4 (.t 22)⟩])
 (.ret)))⟩
/-- The functions of this text, with their numbers. -/
def tLBool : List (Nat × RF) := [(61, r61), (64, r64), (65, r65)]
end Go.Proofs.Ytgogajbfiocdbaa.A
