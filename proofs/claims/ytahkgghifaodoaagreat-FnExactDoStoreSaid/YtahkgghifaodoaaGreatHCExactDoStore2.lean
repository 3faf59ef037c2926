/- The functions that the statement reaches, part 2: bodies and what they compute. No condition. -/
import Derived.Test.YtahkgghifaodoaaGreatHCExactDoStore1
import Derived.Test.YtahkgghifaodoaaGreatA1
import Derived.Test.YtahkgghifaodoaaGreatZ6
import Derived.Test.YtahkgghifaodoaaGreatB9
import Derived.Test.YtahkgghifaodoaaGreatD
namespace Go.Proofs.YtahkgghifaodoaaGreat.A
open Go
def r156L0 : RC :=
 .seq (.seq (.reg [⟨none, .mov 21 (.t 3)⟩,
      ⟨none, .fad 22 1 2⟩,
      ⟨none, .load 23 22 1 false⟩,
      ⟨none, .len 24 (.t 23)⟩,
      ⟨none, .bin 25 .lss (.t 21) (.t 24)⟩])
     (.cond (.t 25)
     (.skip)
     (.exit 0)))
    (.seq (.block 1 (.seq (.reg [⟨none, .fad 28 1 2⟩,
       ⟨none, .load 29 28 1 false⟩,
       ⟨none, .mov 30 (.t 3)⟩,
       ⟨none, .idx 31 16 (.t 29) (.t 30)⟩,
       ⟨none, .load 32 31 6 true⟩,
       ⟨none, .loc 4 [.int .u64 0, .int .u64 0, .int .i64 0, .int .i64 0, .nil, .nil]⟩,
       ⟨none, .store 4 6 (.t 32)⟩])
      (.seq (.reg [⟨none, .chk []⟩,
       ⟨none, .load 33 4 6 true⟩,
       ⟨none, .call (some 34) 204 [(.t 33)] true⟩,
       ⟨none, .not 35 (.t 34)⟩,
       ⟨none, .mov 36 (.t 35)⟩,
       ⟨some (36, false), .fad 37 4 3⟩,
       ⟨some (36, false), .load 38 37 1 false⟩,
       ⟨some (36, false), .fad 39 1 1⟩,
       ⟨some (36, false), .load 40 39 1 false⟩,
       ⟨some (36, false), .bin 41 .gtr (.t 38) (.t 40)⟩,
       ⟨none, .pick 42 (.t 36) (.k (.bool true)) (.t 41)⟩,
       ⟨none, .mov 43 (.t 42)⟩,
       ⟨some (43, false), .mov 44 (.t 3)⟩,
       ⟨some (43, false), .bin 45 .gtr (.t 44) (.k (.int .i64 0))⟩,
       ⟨some (43, false), .mov 46 (.t 45)⟩,
       ⟨some (46, true), .mov 49 (.t 3)⟩,
       ⟨some (46, true), .bin 50 .sub (.t 49) (.k (.int .i64 1))⟩,
       ⟨some (46, true), .fad 47 1 2⟩,
       ⟨some (46, true), .load 48 47 1 false⟩,
       ⟨some (46, true), .idx 51 16 (.t 48) (.t 50)⟩,
       ⟨some (46, true), .fad 52 51 1⟩,
       ⟨some (46, true), .load 53 52 1 false⟩,
       ⟨some (46, true), .fad 54 4 0⟩,
       ⟨some (46, true), .load 55 54 1 false⟩,
       ⟨some (46, true), .bin 56 .geq (.t 53) (.t 55)⟩,
       ⟨some (43, false), .pick 57 (.t 46) (.t 56) (.k (.bool false))⟩,
       ⟨none, .pick 58 (.t 43) (.k (.bool true)) (.t 57)⟩])
      (.cond (.t 58)
      (.seq (.reg [⟨none, .mov 2 (.k (.bool false))⟩])
       (.ret))
      (.skip)))))
    (.reg [⟨none, .mov 26 (.t 3)⟩,
    ⟨none, .bin 27 .add (.t 26) (.k (.int .i64 1))⟩,
    ⟨none, .mov 3 (.t 27)⟩]))
def r156 : RF :=
 ⟨1, [.tmp 2],
 .seq (.reg [⟨none, .locb 1 (.t 0)⟩,
  ⟨none, .mov 2 (.k (.bool false))⟩])
 (.seq (.seq (.reg [⟨none, .fad 5 1 0⟩,
   ⟨none, .load 6 5 1 false⟩,
   ⟨none, .call (some 7) 5 [(.t 6), (.k (.int .i64 0)), (.k (.int .i64 99))] false⟩,
   ⟨none, .not 8 (.t 7)⟩,
   ⟨none, .mov 9 (.t 8)⟩,
   ⟨some (9, false), .fad 10 1 1⟩,
   ⟨some (9, false), .load 11 10 1 false⟩,
   ⟨some (9, false), .call (some 12) 5 [(.t 11), (.k (.int .i64 0)), (.k (.int .i64 1000000))] false⟩,
   ⟨some (9, false), .not 13 (.t 12)⟩,
   ⟨none, .pick 14 (.t 9) (.k (.bool true)) (.t 13)⟩,
   ⟨none, .mov 15 (.t 14)⟩,
   ⟨some (15, false), .fad 16 1 2⟩,
   ⟨some (15, false), .load 17 16 1 false⟩,
   ⟨some (15, false), .len 18 (.t 17)⟩,
   ⟨some (15, false), .bin 19 .gtr (.t 18) (.k (.int .i64 8))⟩,
   ⟨none, .pick 20 (.t 15) (.k (.bool true)) (.t 19)⟩])
  (.cond (.t 20)
  (.seq (.reg [⟨none, .mov 2 (.k (.bool false))⟩])
   (.ret))
  (.skip)))
 (.seq (.seq (.reg [⟨none, .mov 3 (.k (.int .i64 0))⟩])
  (.block 0 (.loop [1, 3]
   r156L0)))
 (.seq (.reg [⟨none, .mov 2 (.k (.bool true))⟩])
 (.ret))))⟩
def r204L0 : RC :=
 .seq (.seq (.reg [⟨none, .mov 80 (.t 5)⟩,
      ⟨none, .fad 81 1 4⟩,
      ⟨none, .fad 82 81 0⟩,
      ⟨none, .load 83 82 1 false⟩,
      ⟨none, .len 84 (.t 83)⟩,
      ⟨none, .bin 85 .lss (.t 80) (.t 84)⟩])
     (.cond (.t 85)
     (.skip)
     (.exit 2)))
    (.seq (.block 3 (.seq (.reg [⟨none, .fad 88 1 4⟩,
       ⟨none, .fad 89 88 0⟩,
       ⟨none, .load 90 89 1 false⟩,
       ⟨none, .mov 91 (.t 5)⟩,
       ⟨none, .idx 92 11 (.t 90) (.t 91)⟩,
       ⟨none, .load 93 92 5 true⟩,
       ⟨none, .loc 6 [.int .u64 0, .int .u64 0, .int .u64 0, .int .u64 0, .int .i64 0]⟩,
       ⟨none, .store 6 5 (.t 93)⟩])
      (.seq (.reg [⟨none, .fad 94 6 0⟩,
       ⟨none, .load 95 94 1 false⟩,
       ⟨none, .fad 96 1 0⟩,
       ⟨none, .load 97 96 1 false⟩,
       ⟨none, .bin 98 .lss (.t 95) (.t 97)⟩,
       ⟨none, .mov 99 (.t 98)⟩,
       ⟨some (99, false), .fad 100 6 0⟩,
       ⟨some (99, false), .load 101 100 1 false⟩,
       ⟨some (99, false), .fad 102 1 1⟩,
       ⟨some (99, false), .load 103 102 1 false⟩,
       ⟨some (99, false), .bin 104 .gtr (.t 101) (.t 103)⟩,
       ⟨none, .pick 105 (.t 99) (.k (.bool true)) (.t 104)⟩,
       ⟨none, .mov 106 (.t 105)⟩,
       ⟨some (106, false), .fad 107 1 5⟩,
       ⟨some (106, false), .load 108 107 1 false⟩,
       ⟨some (106, false), .fad 109 6 4⟩,
       ⟨some (106, false), .load 110 109 1 false⟩,
       ⟨some (106, false), .fad 111 6 0⟩,
       ⟨some (106, false), .load 112 111 1 false⟩,
       ⟨some (106, false), .build 113 [.int .i64 0, .int .u64 0] [(0, 1, (.t 110)), (1, 1, (.t 112))]⟩,
       ⟨some (106, false), .call (some 114) 243 [(.t 108), (.t 113)] false⟩,
       ⟨none, .pick 115 (.t 106) (.k (.bool true)) (.t 114)⟩])
      (.cond (.t 115)
      (.seq (.reg [⟨none, .mov 2 (.k (.bool false))⟩])
       (.ret))
      (.skip)))))
    (.reg [⟨none, .mov 86 (.t 5)⟩,
    ⟨none, .bin 87 .add (.t 86) (.k (.int .i64 1))⟩,
    ⟨none, .mov 5 (.t 87)⟩]))
def r204L1 : RC :=
 .seq (.seq (.reg [⟨none, .mov 36 (.t 3)⟩,
      ⟨none, .fad 37 1 5⟩,
      ⟨none, .load 38 37 1 false⟩,
      ⟨none, .len 39 (.t 38)⟩,
      ⟨none, .bin 40 .lss (.t 36) (.t 39)⟩])
     (.cond (.t 40)
     (.skip)
     (.exit 0)))
    (.seq (.block 1 (.seq (.reg [⟨none, .fad 43 1 5⟩,
       ⟨none, .load 44 43 1 false⟩,
       ⟨none, .mov 45 (.t 3)⟩,
       ⟨none, .idx 46 9 (.t 44) (.t 45)⟩,
       ⟨none, .load 47 46 2 true⟩,
       ⟨none, .loc 4 [.int .i64 0, .int .u64 0]⟩,
       ⟨none, .store 4 2 (.t 47)⟩])
      (.seq (.reg [⟨none, .chk []⟩,
       ⟨none, .fad 48 4 0⟩,
       ⟨none, .load 49 48 1 false⟩,
       ⟨none, .bin 50 .lss (.t 49) (.k (.int .i64 1))⟩,
       ⟨none, .mov 51 (.t 50)⟩,
       ⟨some (51, false), .fad 52 4 1⟩,
       ⟨some (51, false), .load 53 52 1 false⟩,
       ⟨some (51, false), .fad 54 1 0⟩,
       ⟨some (51, false), .load 55 54 1 false⟩,
       ⟨some (51, false), .bin 56 .lss (.t 53) (.t 55)⟩,
       ⟨none, .pick 57 (.t 51) (.k (.bool true)) (.t 56)⟩,
       ⟨none, .mov 58 (.t 57)⟩,
       ⟨some (58, false), .fad 59 4 1⟩,
       ⟨some (58, false), .load 60 59 1 false⟩,
       ⟨some (58, false), .fad 61 1 1⟩,
       ⟨some (58, false), .load 62 61 1 false⟩,
       ⟨some (58, false), .bin 63 .gtr (.t 60) (.t 62)⟩,
       ⟨none, .pick 64 (.t 58) (.k (.bool true)) (.t 63)⟩,
       ⟨none, .mov 65 (.t 64)⟩,
       ⟨some (65, false), .mov 66 (.t 3)⟩,
       ⟨some (65, false), .bin 67 .gtr (.t 66) (.k (.int .i64 0))⟩,
       ⟨some (65, false), .mov 68 (.t 67)⟩,
       ⟨some (68, true), .mov 71 (.t 3)⟩,
       ⟨some (68, true), .bin 72 .sub (.t 71) (.k (.int .i64 1))⟩,
       ⟨some (68, true), .fad 69 1 5⟩,
       ⟨some (68, true), .load 70 69 1 false⟩,
       ⟨some (68, true), .idx 73 9 (.t 70) (.t 72)⟩,
       ⟨some (68, true), .load 74 73 2 true⟩,
       ⟨some (68, true), .load 75 4 2 true⟩,
       ⟨some (68, true), .call (some 76) 242 [(.t 74), (.t 75)] true⟩,
       ⟨some (68, true), .not 77 (.t 76)⟩,
       ⟨some (65, false), .pick 78 (.t 68) (.t 77) (.k (.bool false))⟩,
       ⟨none, .pick 79 (.t 65) (.k (.bool true)) (.t 78)⟩])
      (.cond (.t 79)
      (.seq (.reg [⟨none, .mov 2 (.k (.bool false))⟩])
       (.ret))
      (.skip)))))
    (.reg [⟨none, .mov 41 (.t 3)⟩,
    ⟨none, .bin 42 .add (.t 41) (.k (.int .i64 1))⟩,
    ⟨none, .mov 3 (.t 42)⟩]))
def r204 : RF :=
 ⟨1, [.tmp 2],
 .seq (.reg [⟨none, .locb 1 (.t 0)⟩,
  ⟨none, .mov 2 (.k (.bool false))⟩])
 (.seq (.seq (.reg [⟨none, .fad 7 1 0⟩,
   ⟨none, .load 8 7 1 false⟩,
   ⟨none, .fad 9 1 1⟩,
   ⟨none, .load 10 9 1 false⟩,
   ⟨none, .bin 11 .gtr (.t 8) (.t 10)⟩,
   ⟨none, .mov 12 (.t 11)⟩,
   ⟨some (12, false), .fad 13 1 2⟩,
   ⟨some (12, false), .load 14 13 1 false⟩,
   ⟨some (12, false), .call (some 15) 5 [(.t 14), (.k (.int .i64 0)), (.k (.int .i64 1))] false⟩,
   ⟨some (12, false), .not 16 (.t 15)⟩,
   ⟨none, .pick 17 (.t 12) (.k (.bool true)) (.t 16)⟩,
   ⟨none, .mov 18 (.t 17)⟩,
   ⟨some (18, false), .fad 19 1 3⟩,
   ⟨some (18, false), .load 20 19 1 false⟩,
   ⟨some (18, false), .call (some 21) 5 [(.t 20), (.k (.int .i64 1)), (.k (.int .i64 1000000))] false⟩,
   ⟨some (18, false), .not 22 (.t 21)⟩,
   ⟨none, .pick 23 (.t 18) (.k (.bool true)) (.t 22)⟩,
   ⟨none, .mov 24 (.t 23)⟩,
   ⟨some (24, false), .fad 25 1 4⟩,
   ⟨some (24, false), .load 26 25 1 true⟩,
   ⟨some (24, false), .call (some 27) 241 [(.t 26)] false⟩,
   ⟨some (24, false), .not 28 (.t 27)⟩,
   ⟨none, .pick 29 (.t 24) (.k (.bool true)) (.t 28)⟩,
   ⟨none, .mov 30 (.t 29)⟩,
   ⟨some (30, false), .fad 31 1 5⟩,
   ⟨some (30, false), .load 32 31 1 false⟩,
   ⟨some (30, false), .len 33 (.t 32)⟩,
   ⟨some (30, false), .bin 34 .gtr (.t 33) (.k (.int .i64 60))⟩,
   ⟨none, .pick 35 (.t 30) (.k (.bool true)) (.t 34)⟩])
  (.cond (.t 35)
  (.seq (.reg [⟨none, .mov 2 (.k (.bool false))⟩])
   (.ret))
  (.skip)))
 (.seq (.seq (.reg [⟨none, .mov 3 (.k (.int .i64 0))⟩])
  (.block 0 (.loop [1, 3]
   r204L1)))
 (.seq (.seq (.reg [⟨none, .mov 5 (.k (.int .i64 0))⟩])
  (.block 2 (.loop [1, 5]
   r204L0)))
 (.seq (.reg [⟨none, .mov 2 (.k (.bool true))⟩])
 (.ret)))))⟩
def r211L0 : RC :=
 .seq (.seq (.reg [⟨none, .mov 6 (.t 5)⟩,
      ⟨none, .fad 7 2 2⟩,
      ⟨none, .load 8 7 1 false⟩,
      ⟨none, .len 9 (.t 8)⟩,
      ⟨none, .bin 10 .lss (.t 6) (.t 9)⟩])
     (.cond (.t 10)
     (.skip)
     (.exit 0)))
    (.seq (.block 1 (.seq (.reg [⟨none, .fad 13 2 2⟩,
       ⟨none, .load 14 13 1 false⟩,
       ⟨none, .mov 15 (.t 5)⟩,
       ⟨none, .idx 16 16 (.t 14) (.t 15)⟩,
       ⟨none, .fad 17 16 0⟩,
       ⟨none, .load 18 17 1 false⟩,
       ⟨none, .mov 19 (.t 1)⟩,
       ⟨none, .bin 20 .leq (.t 18) (.t 19)⟩,
       ⟨none, .mov 21 (.t 20)⟩,
       ⟨some (21, true), .mov 22 (.t 1)⟩,
       ⟨some (21, true), .fad 23 2 2⟩,
       ⟨some (21, true), .load 24 23 1 false⟩,
       ⟨some (21, true), .mov 25 (.t 5)⟩,
       ⟨some (21, true), .idx 26 16 (.t 24) (.t 25)⟩,
       ⟨some (21, true), .fad 27 26 1⟩,
       ⟨some (21, true), .load 28 27 1 false⟩,
       ⟨some (21, true), .bin 29 .leq (.t 22) (.t 28)⟩,
       ⟨none, .pick 30 (.t 21) (.t 29) (.k (.bool false))⟩])
      (.cond (.t 30)
      (.seq (.reg [⟨none, .mov 31 (.t 5)⟩,
        ⟨none, .mov 4 (.t 31)⟩])
       (.ret))
      (.skip))))
    (.reg [⟨none, .mov 11 (.t 5)⟩,
    ⟨none, .bin 12 .add (.t 11) (.k (.int .i64 1))⟩,
    ⟨none, .mov 5 (.t 12)⟩]))
def r211 : RF :=
 ⟨2, [.tmp 4],
 .seq (.reg [⟨none, .locb 2 (.t 0)⟩,
  ⟨none, .mov 4 (.k (.int .i64 0))⟩])
 (.seq (.seq (.reg [⟨none, .mov 5 (.k (.int .i64 0))⟩])
  (.block 0 (.loop [1, 2, 5]
   r211L0)))
 (.seq (.reg [⟨none, .mov 4 (.k (.int .i64 (-1)))⟩])
 (.ret)))⟩
def r228L0 : RC :=
 .seq (.seq (.reg [⟨none, .mov 10 (.t 4)⟩,
      ⟨none, .fad 11 1 5⟩,
      ⟨none, .load 12 11 1 false⟩,
      ⟨none, .len 13 (.t 12)⟩,
      ⟨none, .bin 14 .lss (.t 10) (.t 13)⟩])
     (.cond (.t 14)
     (.skip)
     (.exit 0)))
    (.seq (.block 1 (.reg [⟨none, .mov 17 (.t 3)⟩,
      ⟨none, .fad 18 1 5⟩,
      ⟨none, .load 19 18 1 false⟩,
      ⟨none, .mov 20 (.t 4)⟩,
      ⟨none, .idx 21 9 (.t 19) (.t 20)⟩,
      ⟨none, .load 22 21 2 true⟩,
      ⟨none, .lit 23 9 1 [.int .i64 0, .int .u64 0] [(0, (.t 22))]⟩,
      ⟨none, .app 24 9 16 (.t 17) (.t 23)⟩,
      ⟨none, .mov 3 (.t 24)⟩]))
    (.reg [⟨none, .mov 15 (.t 4)⟩,
    ⟨none, .bin 16 .add (.t 15) (.k (.int .i64 1))⟩,
    ⟨none, .mov 4 (.t 16)⟩]))
def r228 : RF :=
 ⟨1, [.cell 2 6 true],
 .seq (.reg [⟨none, .locb 1 (.t 0)⟩,
  ⟨none, .loc 2 [.int .u64 0, .int .u64 0, .int .i64 0, .int .i64 0, .nil, .nil]⟩])
 (.seq (.reg [⟨none, .fad 5 1 4⟩,
  ⟨none, .load 6 5 1 true⟩,
  ⟨none, .call (some 7) 259 [(.t 6)] false⟩,
  ⟨none, .fad 8 1 4⟩,
  ⟨none, .store 8 1 (.t 7)⟩])
 (.seq (.reg [⟨none, .lit 9 9 0 [.int .i64 0, .int .u64 0] []⟩,
  ⟨none, .mov 3 (.t 9)⟩])
 (.seq (.seq (.reg [⟨none, .mov 4 (.k (.int .i64 0))⟩])
  (.block 0 (.loop [1, 2, 3, 4]
   r228L0)))
 (.seq (.reg [⟨none, .mov 25 (.t 3)⟩,
  ⟨none, .fad 26 1 5⟩,
  ⟨none, .store 26 1 (.t 25)⟩])
 (.seq (.reg [⟨none, .load 27 1 6 true⟩,
  ⟨none, .store 2 6 (.t 27)⟩])
 (.ret))))))⟩
def r242 : RF :=
 ⟨2, [.tmp 4],
 .seq (.reg [⟨none, .locb 2 (.t 0)⟩,
  ⟨none, .locb 3 (.t 1)⟩,
  ⟨none, .mov 4 (.k (.bool false))⟩])
 (.seq (.reg [⟨none, .fad 5 2 0⟩,
  ⟨none, .load 6 5 1 false⟩,
  ⟨none, .fad 7 3 0⟩,
  ⟨none, .load 8 7 1 false⟩,
  ⟨none, .bin 9 .lss (.t 6) (.t 8)⟩,
  ⟨none, .mov 10 (.t 9)⟩,
  ⟨some (10, false), .fad 11 2 0⟩,
  ⟨some (10, false), .load 12 11 1 false⟩,
  ⟨some (10, false), .fad 13 3 0⟩,
  ⟨some (10, false), .load 14 13 1 false⟩,
  ⟨some (10, false), .bin 15 .eql (.t 12) (.t 14)⟩,
  ⟨some (10, false), .mov 16 (.t 15)⟩,
  ⟨some (16, true), .fad 17 2 1⟩,
  ⟨some (16, true), .load 18 17 1 false⟩,
  ⟨some (16, true), .fad 19 3 1⟩,
  ⟨some (16, true), .load 20 19 1 false⟩,
  ⟨some (16, true), .bin 21 .lss (.t 18) (.t 20)⟩,
  ⟨some (10, false), .pick 22 (.t 16) (.t 21) (.k (.bool false))⟩,
  ⟨none, .pick 23 (.t 10) (.k (.bool true)) (.t 22)⟩,
  ⟨none, .mov 4 (.t 23)⟩])
 (.ret))⟩
def r243L0 : RC :=
 .seq (.seq (.reg [⟨none, .mov 6 (.t 5)⟩,
      ⟨none, .mov 7 (.t 0)⟩,
      ⟨none, .len 8 (.t 7)⟩,
      ⟨none, .bin 9 .lss (.t 6) (.t 8)⟩])
     (.cond (.t 9)
     (.skip)
     (.exit 0)))
    (.seq (.block 1 (.seq (.reg [⟨none, .chk []⟩,
       ⟨none, .mov 12 (.t 0)⟩,
       ⟨none, .mov 13 (.t 5)⟩,
       ⟨none, .idx 14 9 (.t 12) (.t 13)⟩,
       ⟨none, .load 15 14 2 true⟩,
       ⟨none, .load 16 3 2 true⟩,
       ⟨none, .eqs 17 false [.i .i64, .i .u64] (.t 15) (.t 16)⟩])
      (.cond (.t 17)
      (.seq (.reg [⟨none, .mov 4 (.k (.bool true))⟩])
       (.ret))
      (.skip))))
    (.reg [⟨none, .mov 10 (.t 5)⟩,
    ⟨none, .bin 11 .add (.t 10) (.k (.int .i64 1))⟩,
    ⟨none, .mov 5 (.t 11)⟩]))
def r243 : RF :=
 ⟨2, [.tmp 4],
 .seq (.reg [⟨none, .locb 3 (.t 1)⟩,
  ⟨none, .mov 4 (.k (.bool false))⟩])
 (.seq (.seq (.reg [⟨none, .mov 5 (.k (.int .i64 0))⟩])
  (.block 0 (.loop [0, 3, 5]
   r243L0)))
 (.seq (.reg [⟨none, .mov 4 (.k (.bool false))⟩])
 (.ret)))⟩
def r317L0 : RC :=
 .seq (.seq (.reg [⟨none, .mov 10 (.t 4)⟩,
      ⟨none, .fad 11 1 2⟩,
      ⟨none, .load 12 11 1 false⟩,
      ⟨none, .len 13 (.t 12)⟩,
      ⟨none, .bin 14 .lss (.t 10) (.t 13)⟩])
     (.cond (.t 14)
     (.skip)
     (.exit 0)))
    (.seq (.block 1 (.reg [⟨none, .chk []⟩,
      ⟨none, .mov 21 (.t 4)⟩,
      ⟨none, .fad 17 3 2⟩,
      ⟨none, .load 18 17 1 false⟩,
      ⟨none, .fad 19 1 2⟩,
      ⟨none, .load 20 19 1 false⟩,
      ⟨none, .idx 22 16 (.t 20) (.t 21)⟩,
      ⟨none, .load 23 22 6 true⟩,
      ⟨none, .call (some 24) 228 [(.t 23)] true⟩,
      ⟨none, .lit 25 16 1 [.int .u64 0, .int .u64 0, .int .i64 0, .int .i64 0, .nil, .nil] [(0, (.t 24))]⟩,
      ⟨none, .app 26 16 80 (.t 18) (.t 25)⟩,
      ⟨none, .fad 27 3 2⟩,
      ⟨none, .store 27 1 (.t 26)⟩]))
    (.reg [⟨none, .mov 15 (.t 4)⟩,
    ⟨none, .bin 16 .add (.t 15) (.k (.int .i64 1))⟩,
    ⟨none, .mov 4 (.t 16)⟩]))
def r317 : RF :=
 ⟨1, [.cell 2 3 true],
 .seq (.reg [⟨none, .locb 1 (.t 0)⟩,
  ⟨none, .loc 2 [.int .i64 0, .int .i64 0, .nil]⟩])
 (.seq (.reg [⟨none, .fad 5 1 0⟩,
  ⟨none, .load 6 5 1 false⟩,
  ⟨none, .fad 7 1 1⟩,
  ⟨none, .load 8 7 1 false⟩,
  ⟨none, .build 9 [.int .i64 0, .int .i64 0, .nil] [(0, 1, (.t 6)), (1, 1, (.t 8))]⟩,
  ⟨none, .loc 3 [.int .i64 0, .int .i64 0, .nil]⟩,
  ⟨none, .store 3 3 (.t 9)⟩])
 (.seq (.seq (.reg [⟨none, .mov 4 (.k (.int .i64 0))⟩])
  (.block 0 (.loop [1, 2, 3, 4]
   r317L0)))
 (.seq (.reg [⟨none, .load 28 3 3 true⟩,
  ⟨none, .store 2 3 (.t 28)⟩])
 (.ret))))⟩
def r374L0 : RC :=
 .seq (.seq (.reg [⟨none, .mov 12 (.t 7)⟩,
      ⟨none, .mov 13 (.t 0)⟩,
      ⟨none, .len 14 (.t 13)⟩,
      ⟨none, .bin 15 .lss (.t 12) (.t 14)⟩])
     (.cond (.t 15)
     (.skip)
     (.exit 0)))
    (.seq (.block 1 (.seq (.seq (.reg [⟨none, .chk []⟩,
        ⟨none, .mov 18 (.t 6)⟩,
        ⟨none, .not 19 (.t 18)⟩,
        ⟨none, .mov 20 (.t 19)⟩,
        ⟨some (20, true), .mov 22 (.t 0)⟩,
        ⟨some (20, true), .mov 23 (.t 7)⟩,
        ⟨some (20, true), .idx 24 9 (.t 22) (.t 23)⟩,
        ⟨some (20, true), .load 21 3 2 true⟩,
        ⟨some (20, true), .load 25 24 2 true⟩,
        ⟨some (20, true), .call (some 26) 242 [(.t 21), (.t 25)] true⟩,
        ⟨none, .pick 27 (.t 20) (.t 26) (.k (.bool false))⟩])
       (.cond (.t 27)
       (.seq (.reg [⟨none, .mov 28 (.t 5)⟩,
         ⟨none, .load 29 3 2 true⟩,
         ⟨none, .lit 30 9 1 [.int .i64 0, .int .u64 0] [(0, (.t 29))]⟩,
         ⟨none, .app 31 9 16 (.t 28) (.t 30)⟩,
         ⟨none, .mov 5 (.t 31)⟩])
        (.reg [⟨none, .mov 6 (.k (.bool true))⟩]))
       (.skip)))
      (.reg [⟨none, .mov 32 (.t 5)⟩,
      ⟨none, .mov 33 (.t 0)⟩,
      ⟨none, .mov 34 (.t 7)⟩,
      ⟨none, .idx 35 9 (.t 33) (.t 34)⟩,
      ⟨none, .load 36 35 2 true⟩,
      ⟨none, .lit 37 9 1 [.int .i64 0, .int .u64 0] [(0, (.t 36))]⟩,
      ⟨none, .app 38 9 16 (.t 32) (.t 37)⟩,
      ⟨none, .mov 5 (.t 38)⟩])))
    (.reg [⟨none, .mov 16 (.t 7)⟩,
    ⟨none, .bin 17 .add (.t 16) (.k (.int .i64 1))⟩,
    ⟨none, .mov 7 (.t 17)⟩]))
def r374 : RF :=
 ⟨2, [.tmp 4],
 .seq (.reg [⟨none, .locb 3 (.t 1)⟩,
  ⟨none, .mov 4 (.k (.nil))⟩])
 (.seq (.reg [⟨none, .lit 8 9 0 [.int .i64 0, .int .u64 0] []⟩,
  ⟨none, .mov 5 (.t 8)⟩])
 (.seq (.reg [⟨none, .mov 9 (.t 0)⟩,
  ⟨none, .load 10 3 2 true⟩,
  ⟨none, .call (some 11) 243 [(.t 9), (.t 10)] false⟩,
  ⟨none, .mov 6 (.t 11)⟩])
 (.seq (.seq (.reg [⟨none, .mov 7 (.k (.int .i64 0))⟩])
  (.block 0 (.loop [0, 3, 5, 6, 7]
   r374L0)))
 (.seq (.seq (.reg [⟨none, .mov 39 (.t 6)⟩,
   ⟨none, .not 40 (.t 39)⟩])
  (.cond (.t 40)
  (.reg [⟨none, .mov 41 (.t 5)⟩,
   ⟨none, .load 42 3 2 true⟩,
   ⟨none, .lit 43 9 1 [.int .i64 0, .int .u64 0] [(0, (.t 42))]⟩,
   ⟨none, .app 44 9 16 (.t 41) (.t 43)⟩,
   ⟨none, .mov 5 (.t 44)⟩])
  (.skip)))
 (.seq (.reg [⟨none, .mov 45 (.t 5)⟩,
  ⟨none, .mov 4 (.t 45)⟩])
 (.ret))))))⟩
def r381 : RF :=
 ⟨2, [.cell 4 3 true, .tmp 5, .tmp 6],
 .seq (.reg [⟨none, .locb 2 (.t 0)⟩,
  ⟨none, .locb 3 (.t 1)⟩,
  ⟨none, .loc 4 [.int .i64 0, .int .i64 0, .nil]⟩,
  ⟨none, .mov 5 (.k (.int .i64 0))⟩,
  ⟨none, .mov 6 (.k (.int .u64 0))⟩])
 (.seq (.reg [⟨none, .load 14 2 3 true⟩,
  ⟨none, .call (some 15) 317 [(.t 14)] false⟩,
  ⟨none, .loc 7 [.int .i64 0, .int .i64 0, .nil]⟩,
  ⟨none, .store 7 3 (.t 15)⟩])
 (.seq (.seq (.reg [⟨none, .load 16 2 3 true⟩,
   ⟨none, .call (some 17) 156 [(.t 16)] false⟩,
   ⟨none, .not 18 (.t 17)⟩,
   ⟨none, .mov 19 (.t 18)⟩,
   ⟨some (19, false), .fad 20 3 1⟩,
   ⟨some (19, false), .load 21 20 1 false⟩,
   ⟨some (19, false), .call (some 22) 5 [(.t 21), (.k (.int .i64 0)), (.k (.int .i64 8))] false⟩,
   ⟨some (19, false), .not 23 (.t 22)⟩,
   ⟨none, .pick 24 (.t 19) (.k (.bool true)) (.t 23)⟩])
  (.cond (.t 24)
  (.seq (.reg [⟨none, .load 25 7 3 true⟩,
    ⟨none, .store 4 3 (.t 25)⟩,
    ⟨none, .mov 5 (.k (.int .i64 11))⟩,
    ⟨none, .mov 6 (.k (.int .u64 0))⟩])
   (.ret))
  (.skip)))
 (.seq (.reg [⟨none, .load 26 2 3 true⟩,
  ⟨none, .fad 27 3 2⟩,
  ⟨none, .load 28 27 1 false⟩,
  ⟨none, .call (some 29) 211 [(.t 26), (.t 28)] false⟩,
  ⟨none, .mov 8 (.t 29)⟩])
 (.seq (.seq (.reg [⟨none, .mov 30 (.t 8)⟩,
   ⟨none, .bin 31 .lss (.t 30) (.k (.int .i64 0))⟩])
  (.cond (.t 31)
  (.seq (.reg [⟨none, .load 32 7 3 true⟩,
    ⟨none, .store 4 3 (.t 32)⟩,
    ⟨none, .mov 5 (.k (.int .i64 8))⟩,
    ⟨none, .mov 6 (.k (.int .u64 0))⟩])
   (.ret))
  (.skip)))
 (.seq (.reg [⟨none, .fad 33 2 2⟩,
  ⟨none, .load 34 33 1 false⟩,
  ⟨none, .mov 35 (.t 8)⟩,
  ⟨none, .idx 36 16 (.t 34) (.t 35)⟩,
  ⟨none, .load 37 36 6 true⟩,
  ⟨none, .call (some 38) 228 [(.t 37)] false⟩,
  ⟨none, .loc 9 [.int .u64 0, .int .u64 0, .int .i64 0, .int .i64 0, .nil, .nil]⟩,
  ⟨none, .store 9 6 (.t 38)⟩])
 (.seq (.reg [⟨none, .fad 39 3 4⟩,
  ⟨none, .load 40 39 1 false⟩,
  ⟨none, .fad 41 3 2⟩,
  ⟨none, .load 42 41 1 false⟩,
  ⟨none, .build 43 [.int .i64 0, .int .u64 0] [(0, 1, (.t 40)), (1, 1, (.t 42))]⟩,
  ⟨none, .loc 10 [.int .i64 0, .int .u64 0]⟩,
  ⟨none, .store 10 2 (.t 43)⟩])
 (.seq (.block 0 (.seq (.reg [⟨none, .fad 45 9 3⟩,
    ⟨none, .load 46 45 1 false⟩,
    ⟨none, .fad 47 3 0⟩,
    ⟨none, .load 48 47 1 false⟩,
    ⟨none, .bin 49 .neq (.t 46) (.t 48)⟩,
    ⟨none, .mov 44 (.t 49)⟩])
   (.cond (.t 44)
   (.seq (.reg [⟨none, .load 50 7 3 true⟩,
     ⟨none, .store 4 3 (.t 50)⟩,
     ⟨none, .mov 5 (.k (.int .i64 9))⟩,
     ⟨none, .mov 6 (.k (.int .u64 0))⟩])
    (.ret))
   (.seq (.reg [⟨none, .fad 52 9 2⟩,
     ⟨none, .load 53 52 1 false⟩,
     ⟨none, .bin 54 .eql (.t 53) (.k (.int .i64 1))⟩,
     ⟨none, .mov 55 (.t 54)⟩,
     ⟨some (55, true), .fad 56 3 1⟩,
     ⟨some (55, true), .load 57 56 1 false⟩,
     ⟨some (55, true), .bin 58 .neq (.t 57) (.k (.int .i64 8))⟩,
     ⟨none, .pick 59 (.t 55) (.t 58) (.k (.bool false))⟩,
     ⟨none, .mov 51 (.t 59)⟩])
    (.cond (.t 51)
    (.seq (.reg [⟨none, .load 60 7 3 true⟩,
      ⟨none, .store 4 3 (.t 60)⟩,
      ⟨none, .mov 5 (.k (.int .i64 10))⟩,
      ⟨none, .mov 6 (.k (.int .u64 0))⟩])
     (.ret))
    (.seq (.reg [⟨none, .fad 62 3 1⟩,
      ⟨none, .load 63 62 1 false⟩,
      ⟨none, .call (some 64) 5 [(.t 63), (.k (.int .i64 4)), (.k (.int .i64 7))] false⟩,
      ⟨none, .mov 65 (.t 64)⟩,
      ⟨some (65, true), .fad 66 3 4⟩,
      ⟨some (65, true), .load 67 66 1 false⟩,
      ⟨some (65, true), .bin 68 .lss (.t 67) (.k (.int .i64 1))⟩,
      ⟨none, .pick 69 (.t 65) (.t 68) (.k (.bool false))⟩,
      ⟨none, .mov 61 (.t 69)⟩])
     (.cond (.t 61)
     (.seq (.reg [⟨none, .load 70 7 3 true⟩,
       ⟨none, .store 4 3 (.t 70)⟩,
       ⟨none, .mov 5 (.k (.int .i64 11))⟩,
       ⟨none, .mov 6 (.k (.int .u64 0))⟩])
      (.ret))
     (.seq (.reg [⟨none, .fad 72 3 1⟩,
       ⟨none, .load 73 72 1 false⟩,
       ⟨none, .call (some 74) 5 [(.t 73), (.k (.int .i64 4)), (.k (.int .i64 5))] false⟩,
       ⟨none, .mov 75 (.t 74)⟩,
       ⟨some (75, true), .fad 76 9 5⟩,
       ⟨some (75, true), .load 77 76 1 false⟩,
       ⟨some (75, true), .load 78 10 2 true⟩,
       ⟨some (75, true), .call (some 79) 243 [(.t 77), (.t 78)] false⟩,
       ⟨none, .pick 80 (.t 75) (.t 79) (.k (.bool false))⟩,
       ⟨none, .mov 71 (.t 80)⟩])
      (.cond (.t 71)
      (.seq (.reg [⟨none, .load 81 7 3 true⟩,
        ⟨none, .store 4 3 (.t 81)⟩,
        ⟨none, .mov 5 (.k (.int .i64 12))⟩,
        ⟨none, .mov 6 (.k (.int .u64 0))⟩])
       (.ret))
      (.seq (.reg [⟨none, .fad 83 3 1⟩,
        ⟨none, .load 84 83 1 false⟩,
        ⟨none, .call (some 85) 5 [(.t 84), (.k (.int .i64 6)), (.k (.int .i64 7))] false⟩,
        ⟨none, .mov 86 (.t 85)⟩,
        ⟨some (86, true), .fad 87 9 5⟩,
        ⟨some (86, true), .load 88 87 1 false⟩,
        ⟨some (86, true), .load 89 10 2 true⟩,
        ⟨some (86, true), .call (some 90) 243 [(.t 88), (.t 89)] false⟩,
        ⟨some (86, true), .not 91 (.t 90)⟩,
        ⟨none, .pick 92 (.t 86) (.t 91) (.k (.bool false))⟩,
        ⟨none, .mov 93 (.t 92)⟩,
        ⟨some (93, true), .fad 94 9 5⟩,
        ⟨some (93, true), .load 95 94 1 false⟩,
        ⟨some (93, true), .len 96 (.t 95)⟩,
        ⟨some (93, true), .bin 97 .eql (.t 96) (.k (.int .i64 60))⟩,
        ⟨none, .pick 98 (.t 93) (.t 97) (.k (.bool false))⟩,
        ⟨none, .mov 82 (.t 98)⟩])
       (.cond (.t 82)
       (.seq (.reg [⟨none, .load 99 7 3 true⟩,
         ⟨none, .store 4 3 (.t 99)⟩,
         ⟨none, .mov 5 (.k (.int .i64 13))⟩,
         ⟨none, .mov 6 (.k (.int .u64 0))⟩])
        (.ret))
       (.skip))))))))))))
 (.seq (.reg [⟨none, .mov 11 (.k (.int .i64 0))⟩])
 (.seq (.seq (.reg [⟨none, .fad 100 3 1⟩,
   ⟨none, .load 101 100 1 false⟩])
  (.block 1 (.seq (.reg [⟨none, .bin 109 .eql (.t 101) (.k (.int .i64 0))⟩,
    ⟨none, .mov 108 (.t 109)⟩])
   (.cond (.t 108)
   (.reg [⟨none, .fad 111 9 4⟩,
    ⟨none, .load 112 111 1 true⟩,
    ⟨none, .fad 113 3 2⟩,
    ⟨none, .load 114 113 1 false⟩,
    ⟨none, .call (some 115) 323 [(.t 112), (.t 114)] false⟩,
    ⟨none, .mov 110 (.t 115)⟩,
    ⟨none, .ext 116 (.t 110) 0⟩,
    ⟨none, .ext 117 (.t 110) 1⟩,
    ⟨none, .fad 118 9 4⟩,
    ⟨none, .store 118 1 (.t 116)⟩,
    ⟨none, .mov 11 (.t 117)⟩])
   (.seq (.reg [⟨none, .bin 120 .eql (.t 101) (.k (.int .i64 1))⟩,
     ⟨none, .mov 119 (.t 120)⟩])
    (.cond (.t 119)
    (.reg [⟨none, .fad 122 9 4⟩,
     ⟨none, .load 123 122 1 true⟩,
     ⟨none, .fad 124 3 2⟩,
     ⟨none, .load 125 124 1 false⟩,
     ⟨none, .call (some 126) 324 [(.t 123), (.t 125)] false⟩,
     ⟨none, .mov 121 (.t 126)⟩,
     ⟨none, .ext 127 (.t 121) 0⟩,
     ⟨none, .ext 128 (.t 121) 1⟩,
     ⟨none, .fad 129 9 4⟩,
     ⟨none, .store 129 1 (.t 127)⟩,
     ⟨none, .mov 11 (.t 128)⟩])
    (.seq (.reg [⟨none, .bin 131 .eql (.t 101) (.k (.int .i64 2))⟩,
      ⟨none, .mov 130 (.t 131)⟩])
     (.cond (.t 130)
     (.reg [⟨none, .fad 133 9 4⟩,
      ⟨none, .load 134 133 1 true⟩,
      ⟨none, .fad 135 3 2⟩,
      ⟨none, .load 136 135 1 false⟩,
      ⟨none, .fad 137 3 3⟩,
      ⟨none, .load 138 137 1 false⟩,
      ⟨none, .call (some 139) 325 [(.t 134), (.t 136), (.t 138)] false⟩,
      ⟨none, .mov 132 (.t 139)⟩,
      ⟨none, .ext 140 (.t 132) 0⟩,
      ⟨none, .ext 141 (.t 132) 1⟩,
      ⟨none, .fad 142 9 4⟩,
      ⟨none, .store 142 1 (.t 140)⟩,
      ⟨none, .mov 11 (.t 141)⟩])
     (.seq (.reg [⟨none, .bin 144 .eql (.t 101) (.k (.int .i64 3))⟩,
       ⟨none, .mov 143 (.t 144)⟩])
      (.cond (.t 143)
      (.reg [⟨none, .fad 146 9 4⟩,
       ⟨none, .load 147 146 1 true⟩,
       ⟨none, .fad 148 3 2⟩,
       ⟨none, .load 149 148 1 false⟩,
       ⟨none, .fad 150 3 3⟩,
       ⟨none, .load 151 150 1 false⟩,
       ⟨none, .call (some 152) 326 [(.t 147), (.t 149), (.t 151)] false⟩,
       ⟨none, .mov 145 (.t 152)⟩,
       ⟨none, .ext 153 (.t 145) 0⟩,
       ⟨none, .ext 154 (.t 145) 1⟩,
       ⟨none, .fad 155 9 4⟩,
       ⟨none, .store 155 1 (.t 153)⟩,
       ⟨none, .mov 11 (.t 154)⟩])
      (.seq (.reg [⟨none, .bin 157 .eql (.t 101) (.k (.int .i64 4))⟩,
        ⟨none, .mov 156 (.t 157)⟩])
       (.cond (.t 156)
       (.reg [⟨none, .fad 159 9 4⟩,
        ⟨none, .load 160 159 1 true⟩,
        ⟨none, .fad 161 3 2⟩,
        ⟨none, .load 162 161 1 false⟩,
        ⟨none, .fad 163 3 3⟩,
        ⟨none, .load 164 163 1 false⟩,
        ⟨none, .fad 165 3 4⟩,
        ⟨none, .load 166 165 1 false⟩,
        ⟨none, .call (some 167) 388 [(.t 160), (.t 162), (.t 164), (.t 166)] false⟩,
        ⟨none, .mov 158 (.t 167)⟩,
        ⟨none, .ext 168 (.t 158) 0⟩,
        ⟨none, .ext 169 (.t 158) 1⟩,
        ⟨none, .fad 170 9 4⟩,
        ⟨none, .store 170 1 (.t 168)⟩,
        ⟨none, .mov 11 (.t 169)⟩])
       (.seq (.reg [⟨none, .bin 172 .eql (.t 101) (.k (.int .i64 5))⟩,
         ⟨none, .mov 171 (.t 172)⟩])
        (.cond (.t 171)
        (.reg [⟨none, .fad 174 9 4⟩,
         ⟨none, .load 175 174 1 true⟩,
         ⟨none, .fad 176 3 2⟩,
         ⟨none, .load 177 176 1 false⟩,
         ⟨none, .fad 178 3 3⟩,
         ⟨none, .load 179 178 1 false⟩,
         ⟨none, .fad 180 3 4⟩,
         ⟨none, .load 181 180 1 false⟩,
         ⟨none, .call (some 182) 389 [(.t 175), (.t 177), (.t 179), (.t 181)] false⟩,
         ⟨none, .mov 173 (.t 182)⟩,
         ⟨none, .ext 183 (.t 173) 0⟩,
         ⟨none, .ext 184 (.t 173) 1⟩,
         ⟨none, .fad 185 9 4⟩,
         ⟨none, .store 185 1 (.t 183)⟩,
         ⟨none, .mov 11 (.t 184)⟩])
        (.seq (.reg [⟨none, .bin 187 .eql (.t 101) (.k (.int .i64 6))⟩,
          ⟨none, .mov 186 (.t 187)⟩])
         (.cond (.t 186)
         (.reg [⟨none, .fad 189 9 4⟩,
          ⟨none, .load 190 189 1 true⟩,
          ⟨none, .fad 191 3 2⟩,
          ⟨none, .load 192 191 1 false⟩,
          ⟨none, .fad 193 3 4⟩,
          ⟨none, .load 194 193 1 false⟩,
          ⟨none, .call (some 195) 390 [(.t 190), (.t 192), (.t 194)] false⟩,
          ⟨none, .mov 188 (.t 195)⟩,
          ⟨none, .ext 196 (.t 188) 0⟩,
          ⟨none, .ext 197 (.t 188) 1⟩,
          ⟨none, .fad 198 9 4⟩,
          ⟨none, .store 198 1 (.t 196)⟩,
          ⟨none, .mov 11 (.t 197)⟩])
         (.seq (.reg [⟨none, .bin 200 .eql (.t 101) (.k (.int .i64 7))⟩,
           ⟨none, .mov 199 (.t 200)⟩])
          (.cond (.t 199)
          (.reg [⟨none, .fad 202 9 4⟩,
           ⟨none, .load 203 202 1 true⟩,
           ⟨none, .fad 204 3 2⟩,
           ⟨none, .load 205 204 1 false⟩,
           ⟨none, .fad 206 3 4⟩,
           ⟨none, .load 207 206 1 false⟩,
           ⟨none, .call (some 208) 391 [(.t 203), (.t 205), (.t 207)] false⟩,
           ⟨none, .mov 201 (.t 208)⟩,
           ⟨none, .ext 209 (.t 201) 0⟩,
           ⟨none, .ext 210 (.t 201) 1⟩,
           ⟨none, .fad 211 9 4⟩,
           ⟨none, .store 211 1 (.t 209)⟩,
           ⟨none, .mov 11 (.t 210)⟩])
          (.seq (.reg [⟨none, .fad 102 9 4⟩,
            ⟨none, .load 103 102 1 true⟩,
            ⟨none, .fad 104 3 2⟩,
            ⟨none, .load 105 104 1 false⟩,
            ⟨none, .call (some 106) 328 [(.t 103), (.t 105)] false⟩,
            ⟨none, .bin 107 .lss (.t 106) (.k (.int .i64 0))⟩])
           (.cond (.t 107)
           (.reg [⟨none, .mov 11 (.k (.int .i64 2))⟩])
           (.skip)))))))))))))))))))))
 (.seq (.seq (.reg [⟨none, .fad 212 3 1⟩,
   ⟨none, .load 213 212 1 false⟩,
   ⟨none, .call (some 214) 5 [(.t 213), (.k (.int .i64 6)), (.k (.int .i64 7))] false⟩])
  (.cond (.t 214)
  (.reg [⟨none, .fad 215 9 5⟩,
   ⟨none, .load 216 215 1 false⟩,
   ⟨none, .load 217 10 2 true⟩,
   ⟨none, .call (some 218) 374 [(.t 216), (.t 217)] false⟩,
   ⟨none, .fad 219 9 5⟩,
   ⟨none, .store 219 1 (.t 218)⟩])
  (.skip)))
 (.seq (.reg [⟨none, .fad 220 7 2⟩,
  ⟨none, .load 221 220 1 false⟩,
  ⟨none, .mov 222 (.t 8)⟩,
  ⟨none, .load 223 9 6 true⟩,
  ⟨none, .idx 224 16 (.t 221) (.t 222)⟩,
  ⟨none, .store 224 6 (.t 223)⟩])
 (.seq (.reg [⟨none, .mov 12 (.k (.int .u64 0))⟩])
 (.seq (.reg [⟨none, .fad 225 9 4⟩,
  ⟨none, .load 226 225 1 true⟩,
  ⟨none, .fad 227 3 2⟩,
  ⟨none, .load 228 227 1 false⟩,
  ⟨none, .call (some 229) 328 [(.t 226), (.t 228)] false⟩,
  ⟨none, .mov 13 (.t 229)⟩])
 (.seq (.seq (.reg [⟨none, .mov 230 (.t 11)⟩,
   ⟨none, .bin 231 .eql (.t 230) (.k (.int .i64 0))⟩,
   ⟨none, .mov 232 (.t 231)⟩,
   ⟨some (232, true), .mov 233 (.t 13)⟩,
   ⟨some (232, true), .bin 234 .geq (.t 233) (.k (.int .i64 0))⟩,
   ⟨none, .pick 235 (.t 232) (.t 234) (.k (.bool false))⟩])
  (.cond (.t 235)
  (.reg [⟨none, .fad 236 9 4⟩,
   ⟨none, .fad 237 236 0⟩,
   ⟨none, .load 238 237 1 false⟩,
   ⟨none, .mov 239 (.t 13)⟩,
   ⟨none, .idx 240 11 (.t 238) (.t 239)⟩,
   ⟨none, .fad 241 240 1⟩,
   ⟨none, .load 242 241 1 false⟩,
   ⟨none, .mov 12 (.t 242)⟩])
  (.skip)))
 (.seq (.reg [⟨none, .load 243 7 3 true⟩,
  ⟨none, .mov 244 (.t 11)⟩,
  ⟨none, .mov 245 (.t 12)⟩,
  ⟨none, .store 4 3 (.t 243)⟩,
  ⟨none, .mov 5 (.t 244)⟩,
  ⟨none, .mov 6 (.t 245)⟩])
 (.ret))))))))))))))))⟩
def tS13 : List (Nat × RF) := [(156, r156), (204, r204), (211, r211), (228, r228), (242, r242), (243, r243), (317, r317), (374, r374), (381, r381)]
end Go.Proofs.YtahkgghifaodoaaGreat.A
namespace Go.Proofs.YtahkgghifaodoaaGreat.A
open Go
def r380 : RF :=
 ⟨2, [.tmp 4],
 .seq (.reg [⟨none, .locb 2 (.t 0)⟩,
  ⟨none, .locb 3 (.t 1)⟩,
  ⟨none, .mov 4 (.k (.bool false))⟩])
 (.seq (.reg [⟨none, .mov 5 (.k (.int .i64 1048576))⟩])
 (.seq (.reg [⟨none, .load 19 2 3 true⟩,
  ⟨none, .mov 20 (.t 5)⟩,
  ⟨none, .call (some 21) 154 [(.t 19), (.t 20)] false⟩,
  ⟨none, .mov 5 (.t 21)⟩])
 (.seq (.seq (.reg [⟨none, .mov 22 (.t 5)⟩,
   ⟨none, .bin 23 .lss (.t 22) (.k (.int .i64 0))⟩])
  (.cond (.t 23)
  (.seq (.reg [⟨none, .mov 4 (.k (.bool true))⟩])
   (.ret))
  (.skip)))
 (.seq (.reg [⟨none, .chk [6]⟩,
  ⟨none, .loc 6 [.int .i64 0, .int .i64 0, .nil]⟩,
  ⟨none, .load 25 2 3 true⟩,
  ⟨none, .load 27 3 5 true⟩,
  ⟨none, .call (some 26) 155 [(.t 25)] true⟩,
  ⟨none, .call (some 28) 109 [(.t 27)] true⟩,
  ⟨none, .call (some 29) 381 [(.t 26), (.t 28)] true⟩,
  ⟨none, .mov 24 (.t 29)⟩,
  ⟨none, .ext 30 (.t 24) 0⟩,
  ⟨none, .ext 31 (.t 24) 1⟩,
  ⟨none, .ext 32 (.t 24) 2⟩,
  ⟨none, .store 6 3 (.t 30)⟩,
  ⟨none, .mov 7 (.t 31)⟩,
  ⟨none, .mov 8 (.t 32)⟩])
 (.seq (.reg [⟨none, .load 33 2 3 true⟩,
  ⟨none, .call (some 34) 155 [(.t 33)] false⟩,
  ⟨none, .loc 9 [.int .i64 0, .int .i64 0, .nil]⟩,
  ⟨none, .store 9 3 (.t 34)⟩])
 (.seq (.reg [⟨none, .chk [10]⟩,
  ⟨none, .loc 10 [.int .i64 0, .int .i64 0, .nil]⟩,
  ⟨none, .load 36 9 3 true⟩,
  ⟨none, .load 37 3 5 true⟩,
  ⟨none, .call (some 38) 109 [(.t 37)] true⟩,
  ⟨none, .call (some 39) 382 [(.t 36), (.t 38)] true⟩,
  ⟨none, .mov 35 (.t 39)⟩,
  ⟨none, .ext 40 (.t 35) 0⟩,
  ⟨none, .ext 41 (.t 35) 1⟩,
  ⟨none, .ext 42 (.t 35) 2⟩,
  ⟨none, .store 10 3 (.t 40)⟩,
  ⟨none, .mov 11 (.t 41)⟩,
  ⟨none, .mov 12 (.t 42)⟩])
 (.seq (.seq (.reg [⟨none, .load 43 10 3 true⟩,
   ⟨none, .load 44 6 3 true⟩,
   ⟨none, .call (some 45) 158 [(.t 43), (.t 44)] false⟩,
   ⟨none, .not 46 (.t 45)⟩,
   ⟨none, .mov 47 (.t 46)⟩,
   ⟨some (47, false), .mov 48 (.t 11)⟩,
   ⟨some (47, false), .mov 49 (.t 7)⟩,
   ⟨some (47, false), .bin 50 .neq (.t 48) (.t 49)⟩,
   ⟨none, .pick 51 (.t 47) (.k (.bool true)) (.t 50)⟩,
   ⟨none, .mov 52 (.t 51)⟩,
   ⟨some (52, false), .mov 53 (.t 12)⟩,
   ⟨some (52, false), .mov 54 (.t 8)⟩,
   ⟨some (52, false), .bin 55 .neq (.t 53) (.t 54)⟩,
   ⟨none, .pick 56 (.t 52) (.k (.bool true)) (.t 55)⟩])
  (.cond (.t 56)
  (.seq (.reg [⟨none, .mov 4 (.k (.bool false))⟩])
   (.ret))
  (.skip)))
 (.seq (.seq (.reg [⟨none, .chk []⟩,
   ⟨none, .load 57 9 3 true⟩,
   ⟨none, .load 58 2 3 true⟩,
   ⟨none, .call (some 59) 155 [(.t 58)] true⟩,
   ⟨none, .call (some 60) 158 [(.t 57), (.t 59)] true⟩,
   ⟨none, .not 61 (.t 60)⟩])
  (.cond (.t 61)
  (.seq (.reg [⟨none, .mov 4 (.k (.bool false))⟩])
   (.ret))
  (.skip)))
 (.seq (.reg [⟨none, .mov 13 (.k (.int .i64 1))⟩])
 (.seq (.reg [⟨none, .load 62 9 3 true⟩,
  ⟨none, .mov 63 (.t 13)⟩,
  ⟨none, .call (some 64) 191 [(.t 62), (.t 63)] false⟩,
  ⟨none, .mov 13 (.t 64)⟩])
 (.seq (.seq (.reg [⟨none, .mov 65 (.t 13)⟩,
   ⟨none, .bin 66 .lss (.t 65) (.k (.int .i64 0))⟩,
   ⟨none, .mov 67 (.t 66)⟩,
   ⟨some (67, false), .load 68 10 3 true⟩,
   ⟨some (67, false), .load 69 6 3 true⟩,
   ⟨some (67, false), .call (some 70) 158 [(.t 68), (.t 69)] false⟩,
   ⟨some (67, false), .not 71 (.t 70)⟩,
   ⟨none, .pick 72 (.t 67) (.k (.bool true)) (.t 71)⟩,
   ⟨none, .mov 73 (.t 72)⟩,
   ⟨some (73, false), .mov 74 (.t 11)⟩,
   ⟨some (73, false), .mov 75 (.t 7)⟩,
   ⟨some (73, false), .bin 76 .neq (.t 74) (.t 75)⟩,
   ⟨none, .pick 77 (.t 73) (.k (.bool true)) (.t 76)⟩,
   ⟨none, .mov 78 (.t 77)⟩,
   ⟨some (78, false), .mov 79 (.t 12)⟩,
   ⟨some (78, false), .mov 80 (.t 8)⟩,
   ⟨some (78, false), .bin 81 .neq (.t 79) (.t 80)⟩,
   ⟨none, .pick 82 (.t 78) (.k (.bool true)) (.t 81)⟩])
  (.cond (.t 82)
  (.seq (.reg [⟨none, .mov 4 (.k (.bool false))⟩])
   (.ret))
  (.skip)))
 (.seq (.reg [⟨none, .mov 14 (.k (.int .i64 1))⟩])
 (.seq (.reg [⟨none, .load 83 10 3 true⟩,
  ⟨none, .mov 84 (.t 14)⟩,
  ⟨none, .call (some 85) 191 [(.t 83), (.t 84)] false⟩,
  ⟨none, .mov 14 (.t 85)⟩])
 (.seq (.reg [⟨none, .mov 15 (.k (.int .i64 1))⟩])
 (.seq (.reg [⟨none, .load 86 10 3 true⟩,
  ⟨none, .mov 87 (.t 15)⟩,
  ⟨none, .call (some 88) 292 [(.t 86), (.t 87)] false⟩,
  ⟨none, .mov 15 (.t 88)⟩])
 (.seq (.seq (.reg [⟨none, .mov 89 (.t 15)⟩,
   ⟨none, .bin 90 .lss (.t 89) (.k (.int .i64 0))⟩])
  (.cond (.t 90)
  (.seq (.reg [⟨none, .mov 4 (.k (.bool false))⟩])
   (.ret))
  (.skip)))
 (.seq (.seq (.reg [⟨none, .mov 91 (.t 15)⟩,
   ⟨none, .mov 92 (.t 14)⟩,
   ⟨none, .bin 93 .neq (.t 91) (.t 92)⟩])
  (.cond (.t 93)
  (.seq (.reg [⟨none, .mov 4 (.k (.bool false))⟩])
   (.ret))
  (.skip)))
 (.seq (.reg [⟨none, .chk [16]⟩,
  ⟨none, .loc 16 [.int .i64 0, .int .i64 0, .nil]⟩,
  ⟨none, .load 95 2 3 true⟩,
  ⟨none, .load 97 3 5 true⟩,
  ⟨none, .call (some 96) 155 [(.t 95)] true⟩,
  ⟨none, .call (some 98) 109 [(.t 97)] true⟩,
  ⟨none, .call (some 99) 382 [(.t 96), (.t 98)] true⟩,
  ⟨none, .mov 94 (.t 99)⟩,
  ⟨none, .ext 100 (.t 94) 0⟩,
  ⟨none, .ext 101 (.t 94) 1⟩,
  ⟨none, .ext 102 (.t 94) 2⟩,
  ⟨none, .store 16 3 (.t 100)⟩,
  ⟨none, .mov 17 (.t 101)⟩,
  ⟨none, .mov 18 (.t 102)⟩])
 (.seq (.seq (.reg [⟨none, .load 103 16 3 true⟩,
   ⟨none, .load 104 6 3 true⟩,
   ⟨none, .call (some 105) 158 [(.t 103), (.t 104)] false⟩,
   ⟨none, .not 106 (.t 105)⟩,
   ⟨none, .mov 107 (.t 106)⟩,
   ⟨some (107, false), .mov 108 (.t 17)⟩,
   ⟨some (107, false), .mov 109 (.t 7)⟩,
   ⟨some (107, false), .bin 110 .neq (.t 108) (.t 109)⟩,
   ⟨none, .pick 111 (.t 107) (.k (.bool true)) (.t 110)⟩,
   ⟨none, .mov 112 (.t 111)⟩,
   ⟨some (112, false), .mov 113 (.t 18)⟩,
   ⟨some (112, false), .mov 114 (.t 8)⟩,
   ⟨some (112, false), .bin 115 .neq (.t 113) (.t 114)⟩,
   ⟨none, .pick 116 (.t 112) (.k (.bool true)) (.t 115)⟩])
  (.cond (.t 116)
  (.seq (.reg [⟨none, .mov 4 (.k (.bool false))⟩])
   (.ret))
  (.skip)))
 (.seq (.reg [⟨none, .mov 15 (.k (.int .i64 1))⟩])
 (.seq (.reg [⟨none, .load 117 10 3 true⟩,
  ⟨none, .mov 118 (.t 15)⟩,
  ⟨none, .call (some 119) 292 [(.t 117), (.t 118)] false⟩,
  ⟨none, .mov 15 (.t 119)⟩])
 (.seq (.seq (.reg [⟨none, .mov 120 (.t 15)⟩,
   ⟨none, .bin 121 .lss (.t 120) (.k (.int .i64 0))⟩])
  (.cond (.t 121)
  (.seq (.reg [⟨none, .mov 4 (.k (.bool false))⟩])
   (.ret))
  (.skip)))
 (.seq (.seq (.reg [⟨none, .mov 122 (.t 15)⟩,
   ⟨none, .mov 123 (.t 14)⟩,
   ⟨none, .bin 124 .neq (.t 122) (.t 123)⟩])
  (.cond (.t 124)
  (.seq (.reg [⟨none, .mov 4 (.k (.bool false))⟩])
   (.ret))
  (.skip)))
 (.seq (.reg [⟨none, .mov 4 (.k (.bool true))⟩])
 (.ret)))))))))))))))))))))))))⟩
def tWDoStore : List (Nat × RF) := [(380, r380)]
end Go.Proofs.YtahkgghifaodoaaGreat.A
namespace Go.Proofs.YtahkgghifaodoaaGreat.A
open Go
set_option linter.unusedSimpArgs false
set_option linter.unusedVariables false
section
variable {α : Type} {R : Rel α} {tag : Nat} {h : Heap} {x : Cell} {xs : List α} {fp : List Nat}
theorem SlR.one (w : SlR tag R h x xs fp) {i : Nat} (hi : i < xs.length) : ∃ r f, (∀ j n, loadP h x.sid i j n = cut? r j n) ∧ R h r xs[i] f ∧ ∀ id, id ∈ f → id ∈ fp := by
  obtain ⟨r, f, h1, h2, h3⟩ := w.row hi
  exact ⟨r, f, fun j n => by simp [loadP, h1], h2, h3⟩
structure Filled (R : Rel α) (h0 g : Heap) (o : Nat) (z : List Cell) (xs : List α) (i : Nat) (rows : List (List Cell)) (fps : List (List Nat)) : Prop where
  on : On h0 g
  ge : h0.next ≤ o
  lt : o < g.next
  get : g.get o = some rows
  len : rows.length = xs.length
  rel : AllR R g (rows.take i) (xs.take i) fps
  rest : ∀ j, i ≤ j → j < xs.length → rows[j]? = some z
  nd : fps.flatten.Nodup
  out : ∀ id, id ∈ fps.flatten → o < id
theorem AllR.snoc {h : Heap} : ∀ {rows : List (List Cell)} {xs : List α} {fps : List (List Nat)}, AllR R h rows xs fps → ∀ {r a f}, R h r a f → AllR R h (rows ++ [r]) (xs ++ [a]) (fps ++ [f])
  | [], [], [], _ => fun w => ⟨w, trivial⟩
  | _ :: _, _ :: _, _ :: _, ⟨w1, w⟩ => fun w2 => ⟨w1, w.snoc w2⟩
  | [], [], _ :: _, w => w.elim
  | [], _ :: _, _, w => w.elim
  | _ :: _, [], _, w => w.elim
  | _ :: _, _ :: _, [], w => w.elim
theorem Filled.start (h : Heap) (z : List Cell) (xs : List α) : Filled R h (h.push (List.replicate xs.length z)) h.next z xs 0 (List.replicate xs.length z) [] where
  on := On.push _ _
  ge := Nat.le_refl _
  lt := by rw [push_next]; omega
  get := push_get _ _
  len := by simp
  rel := trivial
  rest := fun j _ hj => by rw [List.getElem?_replicate, if_pos hj]
  nd := List.nodup_nil
  out := fun id hid => by simp at hid
theorem Filled.step (ok : RelOk R) {h0 g g' : Heap} {o : Nat} {z : List Cell} {i : Nat} {rows : List (List Cell)} {fps : List (List Nat)} (w : Filled R h0 g o z xs i rows fps) (hf : h0.floor ≤ h0.next) (hi : i < xs.length)
    {cs : List Cell} {fq : List Nat} (hz : cs.length = z.length) (o' : On g g') (v : R g' cs xs[i] fq) (f : Fre g fq) :
    storeP g' o i 0 cs = some (g'.put o (rows.set i cs)) ∧ Filled R h0 (g'.put o (rows.set i cs)) o z xs (i + 1) (rows.set i cs) (fps ++ [fq]) := by
  have hget : g'.get o = some rows := by rw [o'.ext.2 o w.lt]; exact w.get
  have hri : rows[i]? = some z := w.rest i (Nat.le_refl _) hi
  have hfl : g'.floor ≤ o := by rw [o'.fl, w.on.fl]; exact Nat.le_trans hf w.ge
  have hlen : i < rows.length := by rw [w.len]; exact hi
  have hput : ∀ id, id ≠ o → (g'.put o (rows.set i cs)).get id = g'.get id := fun id hid => by simp only [Heap.put]; rw [if_neg hid]
  have hin : ∀ id, id ∈ fps.flatten → id < g.next := by
    intro id hid
    exact w.rel.lt ok id hid
  refine ⟨?_, ?_⟩
  · refine storeP_at hfl hget hri ?_
    rw [splice?, if_pos (by omega)]
    simp [← hz]
  · refine ⟨⟨⟨Nat.le_trans w.on.ext.1 o'.ext.1, fun id hid => ?_⟩, o'.fl.trans w.on.fl⟩, w.ge, Nat.lt_of_lt_of_le w.lt o'.ext.1, by simp [Heap.put], by simp [w.len], ?_, fun j h1 h2 => ?_, ?_, fun id hid => ?_⟩
    · have := w.ge
      rw [hput id (by omega), o'.ext.2 id (Nat.lt_of_lt_of_le hid w.on.ext.1)]
      exact w.on.ext.2 id hid
    · have e1 : (rows.set i cs).take (i + 1) = rows.take i ++ [cs] := by
        rw [List.take_add_one, List.getElem?_set_self hlen]
        rw [List.take_set, List.set_eq_of_length_le (by simp; omega)]
        rfl
      have e2 : xs.take (i + 1) = xs.take i ++ [xs[i]] := by rw [List.take_add_one, List.getElem?_eq_getElem hi]; rfl
      rw [e1, e2]
      have v' : R (g'.put o (rows.set i cs)) cs xs[i] fq := ok.mv v (Nat.le_refl _) fun id hid => hput id (by have := f.lo id hid; have := w.lt; omega)
      refine AllR.snoc (w.rel.mv (h' := g'.put o (rows.set i cs)) ok o'.ext.1 fun id hid => ?_) v'
      rw [hput id (by have := w.out id hid; omega)]
      exact o'.ext.2 id (hin id hid)
    · rw [List.getElem?_set_ne (by omega)]
      exact w.rest j (by omega) h2
    · rw [List.flatten_append]
      simp only [List.flatten_cons, List.flatten_nil, List.append_nil]
      exact List.nodup_append.2 ⟨w.nd, f.nd, fun a ha b hb => by have := hin a ha; have := f.lo b hb; omega⟩
    · rw [List.flatten_append] at hid
      simp only [List.flatten_cons, List.flatten_nil, List.append_nil] at hid
      rcases List.mem_append.1 hid with hid | hid
      · exact w.out id hid
      · have := f.lo id hid
        have := w.lt
        omega
theorem Filled.all {h0 g : Heap} {o : Nat} {z : List Cell} {rows : List (List Cell)} {fps : List (List Nat)} (w : Filled R h0 g o z xs xs.length rows fps) (hl : xs.length ≤ 1048576) (tag : Nat) :
    On h0 g ∧ SlR tag R g (.sl tag o 0 xs.length) xs (o :: fps.flatten) ∧ Fre h0 (o :: fps.flatten) := by
  have hr := w.rel
  rw [List.take_length, ← w.len, List.take_length] at hr
  refine ⟨w.on, ⟨by unfold maxLen; omega, .inr ⟨o, rows, fps, rfl, w.get, w.lt, rfl, hr⟩⟩, ⟨fun id hid => ?_, ?_⟩⟩
  · have := w.ge
    rcases List.mem_cons.1 hid with rfl | hid
    · omega
    · have := w.out id hid; omega
  · exact List.nodup_cons.2 ⟨fun hc => by have := w.out o hc; omega, w.nd⟩
end
end Go.Proofs.YtahkgghifaodoaaGreat.A
namespace Go.Proofs.YtahkgghifaodoaaGreat.A
open Go
set_option linter.unusedSimpArgs false
set_option linter.unusedVariables false
def TurnO (r : Option (Ex × St)) (next : Heap → Option (Ex × St)) (g : Heap) (p : Bool) (Q : St → Prop) : Prop :=
  (p = true ∧ ∃ g', On g g' ∧ r = next g') ∨ (p = false ∧ ∃ s', r = some (.ret, s') ∧ On g s'.hp ∧ Q s')
section
variable {F : Nat → Option RF} {Z : CallF} {live : List Nat} {b : RC}
theorem loop_on (n : Nat) (st : Nat → Heap → St) (h : Heap) (P : Nat → Bool) (Q : St → Prop)
    (hs : ∀ i g, i < n → On h g → TurnO (loop F Z live b (st i g)) (fun g' => loop F Z live b (st (i + 1) g')) g (P i) Q) :
    TurnO (loop F Z live b (st 0 h)) (fun g' => loop F Z live b (st n g')) h ((List.range n).all P) Q := by
  induction n with
  | zero => exact .inl ⟨rfl, h, On.refl h, rfl⟩
  | succ n ih =>
    have hl : (List.range (n + 1)).all P = ((List.range n).all P && P n) := by rw [List.range_succ, List.all_append]; simp
    rcases ih fun i g hi => hs i g (by omega) with ⟨h1, g1, o1, e1⟩ | ⟨h1, s', e1, o1, q1⟩
    · rcases hs n g1 (by omega) o1 with ⟨h3, g2, o2, e2⟩ | ⟨h3, s', e2, o2, q2⟩
      · exact .inl ⟨by rw [hl, h1, h3]; rfl, g2, o1.trans o2, e1.trans e2⟩
      · exact .inr ⟨by rw [hl, h1, h3]; rfl, s', e1.trans e2, o1.trans o2, q2⟩
    · exact .inr ⟨by rw [hl, h1]; rfl, s', e1, o1, q1⟩
end
end Go.Proofs.YtahkgghifaodoaaGreat.A
namespace Go.Proofs.YtahkgghifaodoaaGreat.A
open Go
set_option linter.unusedSimpArgs false
set_option linter.unusedVariables false
theorem push_ne {h : Heap} (r : List (List Cell)) {id : Nat} (hid : id ≠ h.next) : (h.push r).get id = h.get id := by simp only [Heap.push]; rw [if_neg hid]
theorem kill_ne {h : Heap} {k id : Nat} (hid : id ≠ k) : (h.kill k).get id = h.get id := by simp only [Heap.kill]; rw [if_neg hid]
theorem put_ne {h : Heap} {k id : Nat} (r : List (List Cell)) (hid : id ≠ k) : (h.put k r).get id = h.get id := by simp only [Heap.put]; rw [if_neg hid]
theorem kill_next (h : Heap) (k : Nat) : (h.kill k).next = h.next := rfl
structure AccM {α : Type} (R : Rel α) (tag : Nat) (h0 h : Heap) (x : Cell) (xs : List α) (fp : List Nat) : Prop where
  on : On h0 h
  sh : SlR tag R h x xs fp
  fr : Fre h0 fp
section
variable {α : Type} {R : Rel α} {tag : Nat} {h0 h g : Heap} {x : Cell} {xs : List α} {fp fq : List Nat}
theorem AccM.nil (R : Rel α) (tag : Nat) (h : Heap) : AccM R tag h h .nil [] [] := ⟨On.refl h, SlR.nil _ _ _, Fre.nil h⟩
theorem AccM.none (R : Rel α) (tag : Nat) (o : On h0 h) : AccM R tag h0 h .nil [] [] := ⟨o, SlR.nil _ _ _, Fre.nil h0⟩
theorem AccM.lit0 (R : Rel α) (tag : Nat) (o : On h0 h) : AccM R tag h0 (h.push []) (.sl tag h.next 0 0) [] [h.next] :=
  ⟨o.trans (On.push h []), ⟨by simp, .inr ⟨h.next, [], [], rfl, push_get _ _, by rw [push_next]; omega, rfl, trivial⟩⟩, Fre.at o.ext.1⟩
theorem Fre.gt (f : Fre h0 fp) : ∀ id, id < h0.next → id ∉ fp := fun id h1 h2 => by have := f.lo id h2; omega
theorem flat_snoc {fps : List (List Nat)} {fq : List Nat} : (fps ++ [fq]).flatten = fps.flatten ++ fq := by simp
theorem AccM.one (ok : RelOk R) (a : AccM R tag h0 h x xs fp) (hf : h0.floor ≤ h0.next) {bytes : Nat} (hb : (xs.length + 1) * bytes ≤ 140737488355328) (hl : xs.length + 1 ≤ 140737488355328)
    (o : On h g) {cs : List Cell} {t : α} (v : R g cs t fq) (f : Fre h0 fq) (d : ∀ id, id ∈ fq → id ∉ fp) :
    ∃ y' g' fp', appF (g.push [cs]) tag bytes x (.sl tag g.next 0 1) = some (y', g') ∧ AccM R tag h0 g' y' (xs ++ [t]) fp' ∧ h.next ≤ g'.next ∧ (∀ id, id ∈ fp' → id ∈ fp ∨ id ∈ fq ∨ g.next ≤ id) ∧ (∀ id, id < g.next → id ∉ fp → g'.get id = g.get id) := by
  have on' := a.on.trans o
  have hlt : ∀ id, id ∈ fq → id < g.next := ok.lt v
  have hp1 : ∀ id, id < g.next → (g.push [cs]).get id = g.get id := fun id hid => by simp only [Heap.push]; rw [if_neg (by omega)]
  have hn := o.ext.1
  rcases a.sh with ⟨_, ⟨rfl, rfl, rfl⟩ | ⟨id, rows, fps, rfl, q1, q2, rfl, q3⟩⟩
  · refine ⟨.sl tag (g.next + 1) 0 1, (g.push [cs]).push [cs], (g.next + 1) :: ([fq] : List (List Nat)).flatten, ?_, ⟨on'.trans ((On.push _ _).trans (On.push _ _)), ⟨by simp [maxLen], .inr ⟨g.next + 1, [cs], [fq], rfl, ?_, ?_, rfl, ?_⟩⟩, ⟨?_, ?_⟩⟩, ?_, ?_, ?_⟩
    · simp only [List.length_nil, Nat.zero_add] at hb
      simp only [appF, isTag, beq_self_eq_true, ↓reduceIte, rowsOf, push_get, Option.bind_some, List.length_singleton, Nat.zero_add, Nat.le_refl, List.drop_zero, List.take_one, List.head?_cons, Option.toList_some]
      rw [if_neg (by omega), if_pos (by omega)]; rfl
    · exact push_get _ _
    · simp only [push_next]; omega
    · refine ⟨ok.mv v (by simp only [push_next]; omega) fun id hid => ?_, trivial⟩
      have := hlt id hid
      rw [push_ne _ (by rw [push_next]; omega), push_ne _ (by omega)]
    · intro id hid
      simp only [List.flatten_cons, List.flatten_nil, List.append_nil, List.mem_cons] at hid
      rcases hid with rfl | hid
      · have := on'.ext.1; omega
      · exact f.lo id hid
    · simp only [List.flatten_cons, List.flatten_nil, List.append_nil, List.nodup_cons]
      exact ⟨fun hc => by have := hlt _ hc; omega, f.nd⟩
    · simp only [push_next]; omega
    · intro id hid
      simp only [List.flatten_cons, List.flatten_nil, List.append_nil, List.mem_cons] at hid
      rcases hid with rfl | hid
      · exact .inr (.inr (by omega))
      · exact .inr (.inl hid)
    · intro id h1 _
      rw [push_ne _ (by rw [push_next]; omega), push_ne _ (by omega)]
  · have hlo : h0.next ≤ id := a.fr.lo id (by simp)
    have hnd := List.nodup_cons.1 a.fr.nd
    have hrl := q3.len
    have hg : (g.push [cs]).get id = some rows := by rw [hp1 id (by omega), o.ext.2 id q2, q1]
    have hfl : g.floor ≤ id := by rw [on'.fl]; omega
    have hin : ∀ j, j ∈ fps.flatten → j < h.next := q3.lt ok
    have hgt : ∀ j, j < g.next → j ≠ id → (((g.push [cs]).kill id).push (rows ++ [cs])).get j = g.get j := fun j h1 h2 => by
      rw [push_ne _ (by rw [kill_next, push_next]; omega), kill_ne h2, push_ne _ (by omega)]
    refine ⟨.sl tag (g.next + 1) 0 (xs.length + 1), ((g.push [cs]).kill id).push (rows ++ [cs]), (g.next + 1) :: (fps ++ [fq]).flatten, ?_, ⟨⟨⟨?_, ?_⟩, ?_⟩, ⟨by simp [maxLen]; omega, .inr ⟨g.next + 1, rows ++ [cs], fps ++ [fq], by simp, ?_, ?_, rfl, ?_⟩⟩, ⟨?_, ?_⟩⟩, ?_, ?_, ?_⟩
    · simp only [appF, isTag, beq_self_eq_true, ↓reduceIte, rowsOf, push_get, Option.bind_some, List.length_singleton, Nat.zero_add, Nat.le_refl, List.drop_zero, List.take_one, List.head?_cons, Option.toList_some, hg]
      simp only [hrl, push_floor, hfl, hb, and_self, ↓reduceIte]; rfl
    · have := on'.ext.1
      simp only [Heap.push, Heap.kill]; omega
    · intro j hj
      have := on'.ext.1
      rw [hgt j (by omega) (by omega)]
      exact on'.ext.2 j hj
    · exact on'.fl
    · simp [Heap.push, Heap.kill]
    · simp only [Heap.push, Heap.kill]; omega
    · refine AllR.snoc (q3.mv (h' := ((g.push [cs]).kill id).push (rows ++ [cs])) ok (by simp only [Heap.push, Heap.kill]; omega) fun j hj => ?_) (ok.mv v (by simp only [Heap.push, Heap.kill]; omega) fun j hj => ?_)
      · have h1 := hin j hj
        rw [hgt j (by omega) (fun e => hnd.1 (e ▸ hj))]
        exact o.ext.2 j h1
      · exact hgt j (hlt j hj) fun e => d j hj (by rw [e]; simp)
    · intro j hj
      rw [flat_snoc] at hj
      rcases List.mem_cons.1 hj with rfl | hj
      · have := on'.ext.1; omega
      · rcases List.mem_append.1 hj with hj | hj
        · exact a.fr.lo j (by simp [hj])
        · exact f.lo j hj
    · rw [flat_snoc, List.nodup_cons]
      refine ⟨fun hc => ?_, List.nodup_append.2 ⟨hnd.2, f.nd, fun p hp q hq e => d q hq (by rw [← e]; simp [hp])⟩⟩
      rcases List.mem_append.1 hc with hc | hc
      · have := hin _ hc; omega
      · have := hlt _ hc; omega
    · simp only [Heap.push, Heap.kill]; omega
    · intro j hj
      rw [flat_snoc] at hj
      rcases List.mem_cons.1 hj with rfl | hj
      · exact .inr (.inr (by omega))
      · rcases List.mem_append.1 hj with hj | hj
        · exact .inl (by simp [hj])
        · exact .inr (.inl hj)
    · intro j h1 h2
      exact hgt j h1 fun e => h2 (by rw [e]; simp)
end
end Go.Proofs.YtahkgghifaodoaaGreat.A
namespace Go.Proofs.YtahkgghifaodoaaGreat.A
open Go
set_option linter.unusedSimpArgs false
set_option linter.unusedVariables false
theorem flat_set_mem {fq : List Nat} {id : Nat} : ∀ (fps : List (List Nat)) (i : Nat), id ∈ (fps.set i fq).flatten → id ∈ fps.flatten ∨ id ∈ fq
  | [], i, h => by simp at h
  | f :: r, 0, h => by
    simp only [List.set_cons_zero, List.flatten_cons, List.mem_append] at h ⊢
    rcases h with h | h
    · exact .inr h
    · exact .inl (.inr h)
  | f :: r, i + 1, h => by
    simp only [List.set_cons_succ, List.flatten_cons, List.mem_append] at h ⊢
    rcases h with h | h
    · exact .inl (.inl h)
    · rcases flat_set_mem r i h with h | h
      · exact .inl (.inr h)
      · exact .inr h
theorem flat_set_nodup {fq : List Nat} (nq : fq.Nodup) : ∀ (fps : List (List Nat)) (i : Nat) (f : List Nat), fps[i]? = some f → fps.flatten.Nodup → (∀ id, id ∈ fq → id ∈ f ∨ id ∉ fps.flatten) → (fps.set i fq).flatten.Nodup
  | [], i, f, h, _, _ => by simp at h
  | g :: r, 0, f, h, nd, hd => by
    simp only [List.getElem?_cons_zero, Option.some.injEq] at h
    subst h
    simp only [List.set_cons_zero, List.flatten_cons] at nd ⊢
    obtain ⟨n1, n2, n3⟩ := List.nodup_append.1 nd
    refine List.nodup_append.2 ⟨nq, n2, fun a ha b hb e => ?_⟩
    subst e
    rcases hd a ha with h | h
    · exact n3 a h a hb rfl
    · exact h (by rw [List.flatten_cons, List.mem_append]; exact .inr hb)
  | g :: r, i + 1, f, h, nd, hd => by
    simp only [List.getElem?_cons_succ] at h
    simp only [List.set_cons_succ, List.flatten_cons] at nd ⊢
    obtain ⟨n1, n2, n3⟩ := List.nodup_append.1 nd
    refine List.nodup_append.2 ⟨n1, flat_set_nodup nq r i f h n2 fun id hid => ?_, fun a ha b hb e => ?_⟩
    · rcases hd id hid with h | h
      · exact .inl h
      · exact .inr fun hc => h (by rw [List.flatten_cons, List.mem_append]; exact .inr hc)
    · subst e
      rcases flat_set_mem r i hb with hb | hb
      · exact n3 a ha a hb rfl
      · rcases hd a hb with h' | h'
        · exact n3 a ha a (List.mem_flatten.2 ⟨f, List.mem_of_getElem? h, h'⟩) rfl
        · exact h' (by rw [List.flatten_cons, List.mem_append]; exact .inl ha)
section
variable {α : Type} {R : Rel α} {tag : Nat} {h0 h g : Heap} {x : Cell} {xs : List α} {fp fq : List Nat}
theorem AllR.set {r : List Cell} {t : α} (w1 : R h r t fq) : ∀ {rows : List (List Cell)} {xs : List α} {fps : List (List Nat)}, AllR R h rows xs fps → ∀ (i : Nat), AllR R h (rows.set i r) (xs.set i t) (fps.set i fq)
  | [], [], [], _, _ => trivial
  | _ :: _, _ :: _, _ :: _, ⟨_, w⟩, 0 => ⟨w1, w⟩
  | _ :: _, _ :: _, _ :: _, ⟨w0, w⟩, i + 1 => ⟨w0, AllR.set w1 w i⟩
  | [], [], _ :: _, w, _ => w.elim
  | [], _ :: _, _, w, _ => w.elim
  | _ :: _, [], _, w, _ => w.elim
  | _ :: _, _ :: _, [], w, _ => w.elim
theorem AllR.turn (ok : RelOk R) {h' : Heap} (hn : h.next ≤ h'.next) {r' : List Cell} {t' : α} : ∀ {rows : List (List Cell)} {xs : List α} {fps : List (List Nat)}, AllR R h rows xs fps → ∀ (i : Nat) (f : List Nat), fps[i]? = some f → fps.flatten.Nodup →
    (∀ id, id ∈ fps.flatten → id ∉ f → h'.get id = h.get id) → R h' r' t' f → AllR R h' (rows.set i r') (xs.set i t') fps
  | [], [], [], _, i, f, e, _, _, _ => by simp at e
  | r :: rs, a :: bs, g :: gs, ⟨w0, w⟩, 0, f, e, nd, hg, v => by
    simp only [List.getElem?_cons_zero, Option.some.injEq] at e
    subst e
    rw [List.flatten_cons] at nd
    obtain ⟨n1, n2, n3⟩ := List.nodup_append.1 nd
    exact ⟨v, w.mv ok hn fun id hid => hg id (by rw [List.flatten_cons, List.mem_append]; exact .inr hid) fun hf => n3 id hf id hid rfl⟩
  | r :: rs, a :: bs, g :: gs, ⟨w0, w⟩, i + 1, f, e, nd, hg, v => by
    simp only [List.getElem?_cons_succ] at e
    rw [List.flatten_cons] at nd
    obtain ⟨n1, n2, n3⟩ := List.nodup_append.1 nd
    exact ⟨ok.mv w0 hn fun id hid => hg id (by rw [List.flatten_cons, List.mem_append]; exact .inl hid) fun hf => n3 id hid id (List.mem_flatten.2 ⟨f, List.mem_of_getElem? e, hf⟩) rfl,
      AllR.turn ok hn w i f e n2 (fun id hid hf => hg id (by rw [List.flatten_cons, List.mem_append]; exact .inr hid) hf) v⟩
  | [], [], _ :: _, w, _, _, _, _, _, _ => w.elim
  | [], _ :: _, _, w, _, _, _, _, _, _ => w.elim
  | _ :: _, [], _, w, _, _, _, _, _, _ => w.elim
  | _ :: _, _ :: _, [], w, _, _, _, _, _, _ => w.elim
theorem flat_at_nodup {f : List Nat} : ∀ (fps : List (List Nat)) (i : Nat), fps[i]? = some f → fps.flatten.Nodup → f.Nodup
  | [], i, h, _ => by simp at h
  | g :: r, i, h, nd => by
    rw [List.flatten_cons] at nd
    obtain ⟨n1, n2, _⟩ := List.nodup_append.1 nd
    cases i with
    | zero => simp only [List.getElem?_cons_zero, Option.some.injEq] at h; exact h ▸ n1
    | succ i => exact flat_at_nodup r i (by simpa using h) n2
theorem SlR.turn (ok : RelOk R) (w : SlR tag R h x xs fp) (nd : fp.Nodup) {i : Nat} (hi : i < xs.length) :
    ∃ r f, ∃ rows : List (List Cell), R h r xs[i] f ∧ (∀ id, id ∈ f → id ∈ fp) ∧ f.Nodup ∧ x.sid ∈ fp ∧ x.sid ∉ f ∧ x.sid < h.next ∧ h.get x.sid = some rows ∧ rows[i]? = some r ∧ i < rows.length ∧
      ∀ h' r' t', h.next ≤ h'.next → (∀ id, id ∈ fp → id ≠ x.sid → id ∉ f → h'.get id = h.get id) → h'.get x.sid = some (rows.set i r') → R h' r' t' f → SlR tag R h' x (xs.set i t') fp := by
  rcases w with ⟨hl, ⟨rfl, rfl, rfl⟩ | ⟨id, rows, fps, rfl, q1, q2, rfl, q3⟩⟩
  · exact absurd hi (Nat.not_lt_zero _)
  obtain ⟨r, f, e1, e2, v⟩ := q3.at i hi
  have hn := List.nodup_cons.1 nd
  have hin : ∀ j, j ∈ f → j ∈ fps.flatten := fun j hj => List.mem_flatten.2 ⟨f, List.mem_of_getElem? e2, hj⟩
  refine ⟨r, f, rows, v, fun j hj => List.mem_cons_of_mem _ (hin j hj), flat_at_nodup fps i e2 hn.2, by simp [Cell.sid], fun hc => hn.1 (hin _ hc), q2, q1, e1, by rw [q3.len]; exact hi, fun h' r' t' hn' hg hg' v' => ?_⟩
  refine ⟨by simpa using hl, .inr ⟨id, rows.set i r', fps, by simp, hg', Nat.lt_of_lt_of_le q2 hn', rfl, ?_⟩⟩
  exact q3.turn ok hn' i f e2 hn.2 (fun j hj hf => hg j (List.mem_cons_of_mem _ hj) (fun e => hn.1 (by simp only [Cell.sid] at e; exact e ▸ hj)) hf) v'
theorem loadP_row {h : Heap} {id i : Nat} {rows : List (List Cell)} {r : List Cell} (hg : h.get id = some rows) (hi : rows[i]? = some r) (j n : Nat) : loadP h id i j n = cut? r j n := by simp [loadP, rowOf, hg, hi]
theorem loadP_put {h : Heap} {id i : Nat} {rows : List (List Cell)} (hi : i < rows.length) (r : List Cell) (j n : Nat) : loadP (h.put id (rows.set i r)) id i j n = cut? r j n := loadP_row (rows := rows.set i r) (by simp [Heap.put]) (List.getElem?_set_self hi) j n
theorem put_row {h : Heap} {id i : Nat} {rows : List (List Cell)} {r : List Cell} (hg : h.get id = some rows) (hi : rows[i]? = some r) : h.put id (rows.set i r) = h := by
  have : rows.set i r = rows := by
    apply List.ext_getElem?
    intro j
    by_cases e : i = j
    · subst e
      have hlt : i < rows.length := by
        rcases Nat.lt_or_ge i rows.length with hlt | hge
        · exact hlt
        · rw [List.getElem?_eq_none hge] at hi; cases hi
      rw [List.getElem?_set_self hlt, hi]
    · rw [List.getElem?_set_ne e]
  rw [this]; exact put_same hg
end
end Go.Proofs.YtahkgghifaodoaaGreat.A
namespace Go.Proofs.YtahkgghifaodoaaGreat.A
open Go
set_option linter.unusedSimpArgs false
set_option linter.unusedVariables false
section
variable {F : Nat → Option RF} {Z : CallF} {live : List Nat} {b : RC}
end
section
variable {α : Type} {R : Rel α} {tag : Nat} {h0 h g : Heap} {x : Cell} {xs ys : List α} {fp fq : List Nat}
theorem AllR.app : ∀ {r1 r2 : List (List Cell)} {xs ys : List α} {f1 f2 : List (List Nat)}, AllR R h r1 xs f1 → AllR R h r2 ys f2 → AllR R h (r1 ++ r2) (xs ++ ys) (f1 ++ f2)
  | [], _, [], _, [], _, _, w => w
  | _ :: _, _, _ :: _, _, _ :: _, _, ⟨w1, w⟩, u => ⟨w1, AllR.app w u⟩
  | [], _, [], _, _ :: _, _, w, _ => w.elim
  | [], _, _ :: _, _, _, _, w, _ => w.elim
  | _ :: _, _, [], _, _, _, w, _ => w.elim
  | _ :: _, _, _ :: _, _, [], _, w, _ => w.elim
end
end Go.Proofs.YtahkgghifaodoaaGreat.A
namespace Go.Proofs.YtahkgghifaodoaaGreat.A
open Go
set_option linter.unusedSimpArgs false
set_option linter.unusedVariables false
section
variable {α : Type} {R : Rel α} {tag : Nat} {h0 h g : Heap} {x : Cell} {xs : List α} {fp fq : List Nat}
theorem On.turned (o : On h0 h) (m : Mk h g fp) (f : Fre h0 fp) : On h0 g :=
  ⟨⟨by rw [m.next]; exact o.ext.1, fun id hid => by rw [m.get id (f.gt id hid)]; exact o.ext.2 id hid⟩, m.fl.trans o.fl⟩
theorem Fre.own (f : Fre h0 fp) (o : On h0 h) (hf : h0.floor ≤ h0.next) : ∀ id, id ∈ fp → h.floor ≤ id := fun id hid => by
  rw [o.fl]; exact Nat.le_trans hf (f.lo id hid)
theorem Mk.then {a b c : Heap} (m : Mk a b fp) (n : Mk b c fp) : Mk a c fp := ⟨n.next.trans m.next, n.fl.trans m.fl, fun id hid => (n.get id hid).trans (m.get id hid)⟩
theorem SlR.putRow (ok : RelOk R) (w : SlR tag R h x xs fp) (nd : fp.Nodup) (hfl : ∀ id, id ∈ fp → h.floor ≤ id) {i : Nat} (hi : i < xs.length) :
    ∃ r f, ∃ rows : List (List Cell), R h r xs[i] f ∧ x.sid ∈ fp ∧ (∀ j n, loadP h x.sid i j n = cut? r j n) ∧ h.put x.sid (rows.set i r) = h ∧
      (∀ r1 j new, storeP (h.put x.sid (rows.set i r1)) x.sid i j new = putM h x.sid rows i (splice? r1 j new)) ∧ (∀ r1 j n, loadP (h.put x.sid (rows.set i r1)) x.sid i j n = cut? r1 j n) ∧
      ∀ r' t', R h r' t' f → SlR tag R (h.put x.sid (rows.set i r')) x (xs.set i t') fp ∧ Mk h (h.put x.sid (rows.set i r')) fp := by
  obtain ⟨r, f, rows, hR, hin, nf, hs, hns, hsl, hg, hr, hir, fin⟩ := w.turn ok nd hi
  refine ⟨r, f, rows, hR, hs, loadP_row hg hr, put_row hg hr, fun r1 j new => storeP_put (hfl _ hs) hir r1 new j, fun r1 j n => loadP_put hir r1 j n, fun r' t' v => ⟨?_, rfl, rfl, fun id hid => put_ne _ fun e => hid (e ▸ hs)⟩⟩
  exact fin _ r' t' (Nat.le_refl _) (fun id _ h2 _ => put_ne _ h2) (by simp [Heap.put]) (ok.mv v (Nat.le_refl _) fun id hid => put_ne _ fun e => hns (e ▸ hid))
end
end Go.Proofs.YtahkgghifaodoaaGreat.A
namespace Go.Proofs.YtahkgghifaodoaaGreat.A
open Go
set_option linter.unusedSimpArgs false
set_option linter.unusedVariables false
theorem findI_lt {α : Type} {p : α → Bool} {xs : List α} : -1 ≤ findI p xs ∧ findI p xs < xs.length := by
  unfold findI
  split
  · rename_i i hi
    rw [List.findIdx?_eq_some_iff_getElem] at hi
    obtain ⟨h, _⟩ := hi
    omega
  · omega
theorem findI_at {α : Type} {p : α → Bool} {xs : List α} (h : 0 ≤ findI p xs) : ∃ i : Nat, findI p xs = (i : Int) ∧ ∃ hi : i < xs.length, p xs[i] = true := by
  unfold findI at h ⊢
  split at h
  · rename_i i hi
    rw [List.findIdx?_eq_some_iff_getElem] at hi
    obtain ⟨h1, h2, _⟩ := hi
    exact ⟨i, rfl, h1, h2⟩
  · omega
theorem findI_no {α : Type} {p : α → Bool} {xs : List α} (h : findI p xs < 0) : findI p xs = -1 := by
  unfold findI at h ⊢
  split at h
  · omega
  · rfl
theorem mix_set {α : Type} (f : α → α) (xs : List α) {i : Nat} (hi : i < xs.length) : ((xs.take i).map f ++ xs.drop i).set i (f xs[i]) = (xs.take (i + 1)).map f ++ xs.drop (i + 1) := by
  rw [List.set_append_right _ _ (by simp; omega), show i - ((xs.take i).map f).length = 0 from by simp; omega, List.drop_eq_getElem_cons hi, List.set_cons_zero,
    show xs.take (i + 1) = xs.take i ++ [xs[i]] from by rw [List.take_add_one, List.getElem?_eq_getElem hi]; rfl, List.map_append, List.append_assoc]
  rfl
theorem mix_at {α : Type} (f : α → α) (xs : List α) {i : Nat} (hi : i < xs.length) (h : i < ((xs.take i).map f ++ xs.drop i).length) : ((xs.take i).map f ++ xs.drop i)[i] = xs[i] := by
  rw [List.getElem_append_right (by simp; omega)]
  simp
  congr 1
  omega
theorem set_same {α : Type} (xs : List α) {i : Nat} (hi : i < xs.length) : xs.set i xs[i] = xs := by
  apply List.ext_getElem?
  intro j
  by_cases e : i = j
  · subst e; rw [List.getElem?_set_self hi, List.getElem?_eq_getElem hi]
  · rw [List.getElem?_set_ne e]
theorem filter_next {α : Type} (p : α → Bool) {xs : List α} {i : Nat} (hi : i < xs.length) : (xs.take (i + 1)).filter p = (xs.take i).filter p ++ if p xs[i] then [xs[i]] else [] := by
  rw [List.take_add_one, List.getElem?_eq_getElem hi, List.filter_append]
  cases h : p xs[i] <;> simp [h]
theorem filter_len {α : Type} (p : α → Bool) (xs : List α) (i : Nat) : ((xs.take i).filter p).length ≤ xs.length := Nat.le_trans (List.length_filter_le _ _) (by rw [List.length_take]; omega)
section
variable {α : Type} {R : Rel α} {tag : Nat} {h0 h g : Heap} {x y : Cell} {xs ys : List α} {fp fq : List Nat}
theorem SlR.lit1 (ok : RelOk R) {cs : List Cell} {t : α} (v : R h cs t fp) (nd : fp.Nodup) : SlR tag R (h.push [cs]) (.sl tag h.next 0 1) [t] (h.next :: fp) ∧ (h.next :: fp).Nodup :=
  ⟨⟨by simp [maxLen], .inr ⟨h.next, [cs], [fp], rfl, by simp [Heap.push], by simp [Heap.push], by simp, ⟨ok.mv v (by simp [Heap.push]) fun id hid => push_ne _ (by have := ok.lt v id hid; omega), trivial⟩⟩⟩, List.nodup_cons.2 ⟨fun hc => by have := ok.lt v _ hc; omega, nd⟩⟩
end
end Go.Proofs.YtahkgghifaodoaaGreat.A
namespace Go.Proofs.YtahkgghifaodoaaGreat.A
open Go
set_option linter.unusedSimpArgs false
set_option linter.unusedVariables false
theorem flatMap_one {α β : Type} (g : α → β) (xs : List α) : xs.flatMap (fun r => [g r]) = xs.map g := by
  induction xs with
  | nil => rfl
  | cons a r ih => rw [List.flatMap_cons, ih]; rfl
section
variable {F : Nat → Option RF} {Z : CallF} {h : Heap} {x : Cell} {xs : List Account} {fp fq : List Nat}
theorem copyBook_c (hI10 : Has F tI10) (hf : h.floor ≤ h.next) (w : SlR 11 (Fl Account.enc) h x xs fp) (sm : xs.length ≤ 1048576) : ∃ y h' fq, call F Z 260 [.agg [x]] h = some (.agg [y], h') ∧ On h h' ∧ SlR 11 (Fl Account.enc) h' y xs fq ∧ Fre h fq := by
  have a0 := Acc.lit0 (tag := 11) (On.refl h)
  have w' := w.on (Fl.ok _) (On.push h [])
  have ce := a0.cat_eq (bytes := 40) (y := x) (new := xs.map Account.enc) hf w'.isTag w'.rows (by simp; omega)
  have ac := a0.cat (new := xs.map Account.enc) hf (by simp; omega)
  simp only [List.nil_append] at ac
  obtain ⟨o, fq, u, f⟩ := ac.flat
  rw [call_run F Z (hI10.lk (g := 260) rfl) _ _ rfl]
  simp only [rn, RO.dst, lk, drop, Nat.reduceBEq, Nat.reduceAdd, Nat.reduceLeDiff, ↓reduceIte, reduceCtorEq, List.replicate_zero, fills, ce]
  exact ⟨_, _, _, rfl, o, u, f⟩
theorem l10Copy_c (hS10 : Has F tS10) (hf : h.floor ≤ h.next) (w : SlR 11 (Fl Account.enc) h x xs fp) (sm : xs.length ≤ 1048576) : ∃ y h' fq, call F Z 259 [.agg [x]] h = some (.agg [y], h') ∧ On h h' ∧ SlR 11 (Fl Account.enc) h' y xs fq ∧ Fre h fq := by
  rw [call_run F Z (hS10.lk (g := 259) rfl) _ _ rfl]
  simp only [rn, RO.dst, lk, drop, Nat.reduceBEq, Nat.reduceAdd, Nat.reduceLeDiff, ↓reduceIte, reduceCtorEq]
  obtain ⟨y1, h1, a1, l1⟩ := loop_acc (F := F) (Z := Z) (live := [1, 2, 3, 4]) (b := r259L0) xs (fun r => [r.enc]) 11 h (fun i y g => ⟨[(4, .c (.int .i64 (i : Nat)))], [(1, 1, 0), (2, 2, 0), (3, 3, 0)], [(1, [x]), (2, [.nil]), (3, [y])], g⟩) (fun r => by simp) (fun i hi y g rows a hr => by
    have e1 := a.one_eq hf (bytes := 40) (by omega)
    have a1 := a.one hf (by omega)
    have hlt : (i : Int) < xs.length := by omega
    have wg := w.on (Fl.ok _) a.on
    rw [loop_run]
    conv in (codeF _ _ r259L0 _) => unfold r259L0
    simp only [rn, RO.dst, lk, drop, Nat.reduceBEq, Nat.reduceAdd, Nat.reduceLeDiff, ↓reduceIte, reduceCtorEq, w.len, hlt, w.idx hi, wg.load hi, Account.len, Account.tak, wrapS i (by omega), List.replicate_succ, List.replicate_zero, fills, and_self, Nat.zero_lt_one, List.set_cons_zero, e1]
    exact ⟨_, _, a1 _, rfl⟩) (Acc.nil 11 h)
  simp only [show ((0 : Nat) : Int) = 0 from rfl] at l1
  have hlt : ¬ (xs.length : Int) < xs.length := by omega
  rw [l1, loop_run]
  conv in (codeF _ _ r259L0 _) => unfold r259L0
  simp only [rn, RO.dst, lk, drop, Nat.reduceBEq, Nat.reduceAdd, Nat.reduceLeDiff, ↓reduceIte, reduceCtorEq, w.len, hlt]
  rw [flatMap_one] at a1
  obtain ⟨o, fq, u, f⟩ := a1.flat
  exact ⟨_, _, _, rfl, o, u, f⟩
end
end Go.Proofs.YtahkgghifaodoaaGreat.A
namespace Go.Proofs.YtahkgghifaodoaaGreat.A
open Go
set_option linter.unusedSimpArgs false
set_option linter.unusedVariables false
def Account.less (id : Int) (b : Account) : Bool := decide (b.id < id)
def accAt (xs : List Account) (id : Int) : Int := findI (fun b => b.id == id) xs
def accGo (xs : List Account) (id : Int) : Nat := (xs.takeWhile (Account.less id)).length
def accIs (xs : List Account) (id : Int) : Bool := decide (accGo xs id < xs.length) && ((Account.at_ xs (accGo xs id)).id == id)
theorem Account.at_get {xs : List Account} {i : Nat} (hi : i < xs.length) : Account.at_ xs i = xs[i] := by simp [Account.at_, List.getElem?_eq_getElem hi]
theorem accGo_le (xs : List Account) (id : Int) : accGo xs id ≤ xs.length := (List.takeWhile_sublist _).length_le
theorem accGo_lt (id : Int) : ∀ (xs : List Account) (i : Nat) (hi : i < accGo xs id) (h : i < xs.length), xs[i].id < id
  | [], i, hi, h => by simp at h
  | a :: r, i, hi, h => by
    simp only [accGo, List.takeWhile_cons] at hi
    cases ha : Account.less id a with
    | false => rw [ha] at hi; simp at hi
    | true =>
      rw [ha] at hi
      simp only [↓reduceIte, List.length_cons] at hi
      cases i with
      | zero => simpa [Account.less] using ha
      | succ i => exact accGo_lt id r i (by simp only [accGo]; omega) (by simpa using h)
theorem accGo_end (id : Int) : ∀ (xs : List Account) (h : accGo xs id < xs.length), ¬ (xs[accGo xs id]).id < id
  | [], h => by simp at h
  | a :: r, h => by
    cases ha : Account.less id a with
    | false =>
      have e : accGo (a :: r) id = 0 := by simp [accGo, List.takeWhile_cons, ha]
      simp only [e, List.getElem_cons_zero]
      simpa [Account.less] using ha
    | true =>
      have e : accGo (a :: r) id = accGo r id + 1 := by simp [accGo, List.takeWhile_cons, ha]
      simp only [e, List.getElem_cons_succ]
      exact accGo_end id r (by rw [e] at h; simpa using h)
theorem book_fit {xs : List Account} (g : bookOk xs = true) {j : Nat} (hj : j < xs.length) : Account.fits xs j = true := by
  simp only [bookOk, Bool.and_eq_true, List.all_eq_true, List.mem_range] at g
  exact g.1 j hj
theorem book_len {xs : List Account} (g : bookOk xs = true) : xs.length ≤ 40 := by
  simp only [bookOk, Bool.and_eq_true, decide_eq_true_eq] at g
  omega
theorem book_fine {xs : List Account} (g : bookOk xs = true) {j : Nat} (hj : j < xs.length) : (Account.at_ xs j).fine = true := by
  have := book_fit g hj
  simp only [Account.fits, Bool.and_eq_true] at this
  exact this.1
theorem book_gap {xs : List Account} (g : bookOk xs = true) {j : Nat} (hj : j + 1 < xs.length) : xs[j].id < xs[j + 1].id := by
  have := book_fit g hj
  simp only [Account.fits, Bool.and_eq_true, Bool.or_eq_true, decide_eq_true_eq, beq_iff_eq] at this
  rcases this.2 with h | h
  · omega
  · simp only [Nat.add_sub_cancel] at h
    rw [Account.at_get hj, Account.at_get (by omega)] at h
    exact h
theorem book_sorted {xs : List Account} (g : bookOk xs = true) (i : Nat) : ∀ (d : Nat) (hj : i + d + 1 < xs.length), xs[i].id < xs[i + d + 1].id
  | 0, hj => book_gap g hj
  | d + 1, hj => by
    have h1 := book_sorted g i d (by omega)
    have h2 := book_gap g (j := i + d + 1) hj
    have e : i + (d + 1) + 1 = i + d + 1 + 1 := by omega
    simp only [e]
    omega
theorem book_lt {xs : List Account} (g : bookOk xs = true) {i j : Nat} (hj : j < xs.length) (hij : i < j) : xs[i].id < xs[j].id := by
  obtain ⟨d, rfl⟩ : ∃ d, j = i + d + 1 := ⟨j - i - 1, by omega⟩
  exact book_sorted g i d hj
theorem book_inj {xs : List Account} (g : bookOk xs = true) {i j : Nat} (hi : i < xs.length) (hj : j < xs.length) (e : xs[i].id = xs[j].id) : i = j := by
  rcases Nat.lt_trichotomy i j with h | h | h
  · have := book_lt g hj h; omega
  · exact h
  · have := book_lt g hi h; omega
def Srt (xs : List Account) : Prop := xs.Pairwise (fun a b => a.id < b.id)
theorem srt_lt {xs : List Account} (g : Srt xs) {i j : Nat} (hj : j < xs.length) (hij : i < j) : xs[i].id < xs[j].id := List.pairwise_iff_getElem.1 g i j (by omega) hj hij
theorem srt_inj {xs : List Account} (g : Srt xs) {i j : Nat} (hi : i < xs.length) (hj : j < xs.length) (e : xs[i].id = xs[j].id) : i = j := by
  rcases Nat.lt_trichotomy i j with h | h | h
  · have := srt_lt g hj h; omega
  · exact h
  · have := srt_lt g hi h; omega
theorem book_srt {xs : List Account} (g : bookOk xs = true) : Srt xs := List.pairwise_iff_getElem.2 fun i j _ hj hij => book_lt g hj hij
theorem acc_foundS {xs : List Account} (g : Srt xs) (id : Int) : (accAt xs id = -1 ∧ accIs xs id = false) ∨ ∃ i : Nat, accAt xs id = (i : Int) ∧ accIs xs id = true ∧ accGo xs id = i ∧ i < xs.length ∧ (Account.at_ xs i).id = id := by
  cases hi : accIs xs id with
  | true =>
    right
    simp only [accIs, Bool.and_eq_true, decide_eq_true_eq, beq_iff_eq] at hi
    refine ⟨accGo xs id, ?_, rfl, rfl, hi.1, hi.2⟩
    rw [Account.at_get hi.1] at hi
    have hn : accAt xs id ≠ -1 := fun hc => by
      simp only [accAt, findI] at hc
      split at hc
      · omega
      · rename_i hf
        rw [List.findIdx?_eq_none_iff] at hf
        have := hf _ (List.getElem_mem hi.1)
        simp [hi.2] at this
    have h0 : 0 ≤ accAt xs id := by
      have := (findI_lt (p := fun b : Account => b.id == id) (xs := xs)).1
      unfold accAt at hn ⊢
      omega
    obtain ⟨i, e, hil, hp⟩ := findI_at (p := fun b : Account => b.id == id) (xs := xs) h0
    have hp' : xs[i].id = id := by simpa using hp
    rw [show accAt xs id = (i : Int) from e, srt_inj g hil hi.1 (hp'.trans hi.2.symm)]
  | false =>
    left
    refine ⟨?_, rfl⟩
    apply findI_no
    by_cases h0 : 0 ≤ findI (fun b : Account => b.id == id) xs
    · obtain ⟨i, e, hil, hp⟩ := findI_at h0
      have hp' : xs[i].id = id := by simpa using hp
      exfalso
      have hle := accGo_le xs id
      have h1 : ¬ i < accGo xs id := fun hc => by have := accGo_lt id xs i hc hil; omega
      have h2 : accGo xs id < xs.length := by omega
      have h3 := accGo_end id xs h2
      simp only [accIs, h2, decide_true, Bool.true_and, Account.at_get h2, beq_eq_false_iff_ne, ne_eq] at hi
      rcases Nat.lt_or_ge (accGo xs id) i with h4 | h4
      · have := srt_lt g hil h4; omega
      · have : i = accGo xs id := by omega
        subst this
        exact hi hp'
    · omega
theorem acc_found {xs : List Account} (g : bookOk xs = true) (id : Int) : (accAt xs id = -1 ∧ accIs xs id = false) ∨ ∃ i : Nat, accAt xs id = (i : Int) ∧ accIs xs id = true ∧ accGo xs id = i ∧ i < xs.length ∧ (Account.at_ xs i).id = id := acc_foundS (book_srt g) id
section
variable {F : Nat → Option RF} {Z : CallF} {h : Heap} {x : Cell} {xs : List Account} {fp : List Nat}
set_option maxHeartbeats 1000000 in
theorem accountOf_run (hI10 : Has F tI10) (w : SlR 11 (Fl Account.enc) h x xs fp) (id : Int) : call F Z 342 [.agg [x], .c (.int .u64 id)] h = some (.tup [.c (.int .i64 (accGo xs id : Nat)), .c (.bool (accIs xs id))], h) := by
  have hle := w.le2
  have hwl := w.len
  have hgl := accGo_le xs id
  rw [call_run F Z (hI10.lk (g := 342) rfl) _ _ rfl]
  simp only [rn, RO.dst, lk, drop, Nat.reduceBEq, Nat.reduceAdd, Nat.reduceLeDiff, ↓reduceIte, reduceCtorEq]
  obtain ⟨s', hs, lp⟩ := loop_goes (F := F) (Z := Z) (live := [1, 2, 6]) (b := r342L0) (accGo xs id) (fun i st => st = ⟨[(1, .c (.int .u64 id)), (6, .c (.int .i64 (i : Nat)))], [(2, 2, 0)], [(2, [x])], h⟩) (fun i st hi hs => by
    subst hs
    have hi' : i < xs.length := by omega
    have hlt : (i : Int) < xs.length := by omega
    have hws := wrapS i (by omega)
    have hxi := w.idx hi'
    have hld := w.load hi'
    have hid := accGo_lt id xs i hi hi'
    refine ⟨_, rfl, ?_⟩
    rw [loop_run]
    conv in (codeF _ _ r342L0 _) => unfold r342L0
    simp only [Account.enc] at hld
    simp only [rn, RO.dst, lk, drop, Nat.reduceBEq, Nat.reduceAdd, Nat.reduceLeDiff, ↓reduceIte, reduceCtorEq, hwl, hlt, hxi, hld, hid, hws]) (s := ⟨[(1, .c (.int .u64 id)), (6, .c (.int .i64 (0 : Nat)))], [(2, 2, 0)], [(2, [x])], h⟩) rfl
  subst hs
  simp only [show ((0 : Nat) : Int) = 0 from rfl] at lp
  rw [lp, loop_run]
  conv in (codeF _ _ r342L0 _) => unfold r342L0
  by_cases hl : accGo xs id < xs.length
  · have hlt : ((accGo xs id : Nat) : Int) < xs.length := by omega
    have hxi := w.idx hl
    have hld := w.load hl
    have hid := accGo_end id xs hl
    have hd : accIs xs id = (xs[accGo xs id].id == id) := by simp only [accIs, hl, decide_true, Bool.true_and, Account.at_get hl]
    rw [hd]
    simp only [Account.enc] at hld
    simp only [rn, RO.dst, lk, drop, Nat.reduceBEq, Nat.reduceAdd, Nat.reduceLeDiff, ↓reduceIte, reduceCtorEq, hwl, hlt, hxi, hld, hid]
  · have hlt : ¬ ((accGo xs id : Nat) : Int) < xs.length := by omega
    have hd : accIs xs id = false := by simp only [accIs, hl, decide_false, Bool.false_and]
    rw [hd]
    simp only [rn, RO.dst, lk, drop, Nat.reduceBEq, Nat.reduceAdd, Nat.reduceLeDiff, ↓reduceIte, reduceCtorEq, hwl, hlt]
theorem l10Find_run (hS10 : Has F tS10) (w : SlR 11 (Fl Account.enc) h x xs fp) (id : Int) : call F Z 328 [.agg [x], .c (.int .u64 id)] h = some (.c (.int .i64 (accAt xs id)), h) := by
  have hle := w.le2
  have hwl := w.len
  rw [call_run F Z (hS10.lk (g := 328) rfl) _ _ rfl]
  simp only [rn, RO.dst, lk, drop, Nat.reduceBEq, Nat.reduceAdd, Nat.reduceLeDiff, ↓reduceIte, reduceCtorEq]
  have key := loop_find (F := F) (Z := Z) (live := [1, 2, 5]) (b := r328L0) xs (fun b => b.id == id) (fun i => ⟨[(1, .c (.int .u64 id)), (5, .c (.int .i64 (i : Nat)))], [(2, 2, 0)], [(2, [x])], h⟩) (fun i s => lk s.env 4 = some (.c (.int .i64 (i : Nat))) ∧ s.hp = h) fun i hi => by
    have hlt : (i : Int) < xs.length := by omega
    have hws := wrapS i (by omega)
    have hld := w.load hi
    have hxi := w.idx hi
    clear w
    rw [loop_run]
    conv in (codeF _ _ r328L0 _) => unfold r328L0
    simp only [Account.enc] at hld
    simp only [rn, RO.dst, lk, drop, Nat.reduceBEq, Nat.reduceAdd, Nat.reduceLeDiff, ↓reduceIte, reduceCtorEq, hwl, hlt, hxi, hld]
    (repeat' ((first | (rw [gF_if]; split) | (rw [condC_if]; split) | (rw [pickR_if]; split)) <;> (rename_i hh; (try simp only [Bool.not_eq_true, decide_eq_true_eq] at hh); simp only [hh, rn, RO.dst, lk, drop, Nat.reduceBEq, Nat.reduceAdd, Nat.reduceLeDiff, ↓reduceIte, reduceCtorEq, hws, hxi, hld]))) <;> first
      | exact .inl ⟨by simp_all, rfl⟩
      | exact .inr ⟨by simp_all, _, rfl, rfl, rfl⟩
  have hlt : ¬ (xs.length : Int) < xs.length := by omega
  simp only [show ((0 : Nat) : Int) = 0 from rfl] at key
  rcases key with ⟨k1, k2⟩ | ⟨i, k1, hi, s, k2, k3, k4⟩
  · rw [k2, loop_run]
    conv in (codeF _ _ r328L0 _) => unfold r328L0
    simp only [rn, RO.dst, lk, drop, Nat.reduceBEq, Nat.reduceAdd, Nat.reduceLeDiff, ↓reduceIte, reduceCtorEq, hwl, hlt, accAt, findI, k1]
  · rw [k2]
    simp only [rn, RO.dst, lk, drop, Nat.reduceBEq, Nat.reduceAdd, Nat.reduceLeDiff, ↓reduceIte, reduceCtorEq, k3, k4, accAt, findI, k1]
end
end Go.Proofs.YtahkgghifaodoaaGreat.A
namespace Go.Proofs.YtahkgghifaodoaaGreat.A
open Go
set_option linter.unusedSimpArgs false
set_option linter.unusedVariables false
section
variable {α : Type} {R : Rel α} {tag : Nat} {h0 h g : Heap} {x y : Cell} {xs ys : List α} {fp fq : List Nat}
theorem AllR.take : ∀ {rows : List (List Cell)} {xs : List α} {fps : List (List Nat)}, AllR R h rows xs fps → ∀ (i : Nat), AllR R h (rows.take i) (xs.take i) (fps.take i)
  | [], [], [], _, i => by simp only [List.take_nil]; trivial
  | _ :: _, _ :: _, _ :: _, _, 0 => trivial
  | _ :: _, _ :: _, _ :: _, ⟨w0, w⟩, i + 1 => ⟨w0, AllR.take w i⟩
  | [], [], _ :: _, w, _ => w.elim
  | [], _ :: _, _, w, _ => w.elim
  | _ :: _, [], _, w, _ => w.elim
  | _ :: _, _ :: _, [], w, _ => w.elim
theorem AllR.drop : ∀ {rows : List (List Cell)} {xs : List α} {fps : List (List Nat)}, AllR R h rows xs fps → ∀ (i : Nat), AllR R h (rows.drop i) (xs.drop i) (fps.drop i)
  | [], [], [], _, i => by simp only [List.drop_nil]; trivial
  | _ :: _, _ :: _, _ :: _, w, 0 => w
  | _ :: _, _ :: _, _ :: _, ⟨w0, w⟩, i + 1 => AllR.drop w i
  | [], [], _ :: _, w, _ => w.elim
  | [], _ :: _, _, w, _ => w.elim
  | _ :: _, [], _, w, _ => w.elim
  | _ :: _, _ :: _, [], w, _ => w.elim
theorem flat_parts {fps : List (List Nat)} (i : Nat) : (fps.take i).flatten ++ (fps.drop i).flatten = fps.flatten := by rw [← List.flatten_append, List.take_append_drop]
structure Re (h g : Heap) (fp fq : List Nat) : Prop where
  le : h.next ≤ g.next
  fl : g.floor = h.floor
  get : ∀ id, id < h.next → id ∉ fp → g.get id = h.get id
  nd : fq.Nodup
  of : ∀ id, id ∈ fq → id ∈ fp ∨ h.next ≤ id
theorem Re.on (r : Re h g fp fq) (o : On h0 h) (f : Fre h0 fp) : On h0 g :=
  ⟨⟨Nat.le_trans o.ext.1 r.le, fun id hid => by rw [r.get id (Nat.lt_of_lt_of_le hid o.ext.1) (f.gt id hid)]; exact o.ext.2 id hid⟩, r.fl.trans o.fl⟩
theorem Re.fre (r : Re h g fp fq) (o : On h0 h) (f : Fre h0 fp) : Fre h0 fq :=
  ⟨fun id hid => by rcases r.of id hid with h1 | h1; exact f.lo id h1; exact Nat.le_trans o.ext.1 h1, r.nd⟩
theorem SlR.del (ok : RelOk R) (w : SlR tag R h x xs fp) (nd : fp.Nodup) (hfl : ∀ id, id ∈ fp → h.floor ≤ id) {i : Nat} (hi : i < xs.length) :
    ∃ y g fq, delF tag [.c x, .c (.int .i64 (i : Nat)), .c (.int .i64 ((i + 1 : Nat) : Int))] h = some (.c y, g) ∧ SlR tag R g y (xs.eraseIdx i) fq ∧ Re h g fp fq := by
  rcases w with ⟨hl, ⟨rfl, rfl, rfl⟩ | ⟨id, rows, fps, rfl, q1, q2, rfl, q3⟩⟩
  · exact absurd hi (Nat.not_lt_zero _)
  have hn := List.nodup_cons.1 nd
  have hrl := q3.len
  have hfid := hfl id (by simp)
  have hlen : (rows.take i ++ rows.drop (i + 1)).length = i + (xs.length - (i + 1)) := by simp only [List.length_append, List.length_take, List.length_drop, hrl]; omega
  have he : xs.eraseIdx i = xs.take i ++ xs.drop (i + 1) := List.eraseIdx_eq_take_drop_succ ..
  have hel : (xs.eraseIdx i).length = i + (xs.length - (i + 1)) := by rw [List.length_eraseIdx_of_lt hi]; omega
  have hflt := q3.lt ok
  have hsub : ∀ j, j ∈ (fps.take i ++ fps.drop (i + 1)).flatten → j ∈ fps.flatten := fun j hj => by
    rw [List.flatten_append, List.mem_append] at hj
    rw [← flat_parts (fps := fps) i, List.mem_append]
    rcases hj with hj | hj
    · exact .inl hj
    · right
      rw [List.mem_flatten] at hj ⊢
      obtain ⟨l, hl1, hl2⟩ := hj
      exact ⟨l, List.mem_of_mem_drop (i := 1) (by rw [List.drop_drop]; exact hl1), hl2⟩
  refine ⟨.sl tag h.next 0 (i + (xs.length - (i + 1))), (h.kill id).push (rows.take i ++ rows.drop (i + 1)), h.next :: (fps.take i ++ fps.drop (i + 1)).flatten, ?_, ?_, ?_⟩
  · simp only [delF, q1, Option.bind_some, Int.toNat_natCast]
    rw [if_pos ⟨trivial, trivial, hfid, by omega, by omega, by omega, hrl⟩]
  · refine ⟨by rw [hel]; omega, .inr ⟨h.next, rows.take i ++ rows.drop (i + 1), fps.take i ++ fps.drop (i + 1), by rw [hel], by simp [Heap.push, Heap.kill], by simp [Heap.push, Heap.kill], rfl, ?_⟩⟩
    rw [he]
    refine ((q3.take i).app (q3.drop (i + 1))).mv ok (by simp [Heap.push, Heap.kill]) fun j hj => ?_
    have hj' := hsub j hj
    have h1 := hflt j hj'
    rw [push_ne _ (by rw [kill_next]; omega), kill_ne (h := h) (k := id) (id := j) fun e => hn.1 (e ▸ hj')]
  · refine ⟨by simp [Heap.push, Heap.kill], rfl, fun j hj hjn => ?_, ?_, ?_⟩
    · rw [push_ne _ (by rw [kill_next]; omega), kill_ne (h := h) (k := id) (id := j) fun e => hjn (by rw [e]; exact List.mem_cons_self)]
    · rw [List.nodup_cons]
      refine ⟨fun hc => ?_, ?_⟩
      · have := hflt _ (hsub _ hc); omega
      · rw [List.flatten_append]
        have := hn.2
        rw [← flat_parts (fps := fps) i] at this
        obtain ⟨n1, n2, n3⟩ := List.nodup_append.1 this
        have hs2 : (fps.drop (i + 1)).flatten.Sublist (fps.drop i).flatten := by
          obtain ⟨_, f, _, e2, _⟩ := q3.at i hi
          rw [List.drop_eq_getElem_cons (List.getElem?_eq_some_iff.1 e2).1, List.flatten_cons]
          exact List.sublist_append_right _ _
        exact List.nodup_append.2 ⟨n1, n2.sublist hs2, fun a ha b hb => n3 a ha b (hs2.subset hb)⟩
    · intro j hj
      rcases List.mem_cons.1 hj with rfl | hj
      · exact .inr (Nat.le_refl _)
      · exact .inl (List.mem_cons_of_mem _ (hsub j hj))
theorem SlR.ins (ok : RelOk R) (w : SlR tag R h x xs fp) (nd : fp.Nodup) (hfl : ∀ id, id ∈ fp → h.floor ≤ id) (v : SlR tag R h y ys fq) (nq : fq.Nodup) (hfq : ∀ id, id ∈ fq → h.floor ≤ id) (hd : ∀ id, id ∈ fq → id ∉ fp) (hy : 0 < ys.length)
    {bytes : Nat} (hb : (xs.length + ys.length) * bytes ≤ 140737488355328) (hm : xs.length + ys.length ≤ maxLen) {i : Nat} (hi : i ≤ xs.length) :
    ∃ z g fr, insF tag bytes [.c x, .c (.int .i64 (i : Nat)), .c y] h = some (.c z, g) ∧ SlR tag R g z (xs.take i ++ ys ++ xs.drop i) fr ∧ Re h g (fp ++ fq) fr := by
  rcases v with ⟨hvl, ⟨rfl, rfl, rfl⟩ | ⟨idv, new, fps2, rfl, v1, v2, rfl, v3⟩⟩
  · exact absurd hy (Nat.not_lt_zero _)
  have hnv := List.nodup_cons.1 nq
  have hvrl := v3.len
  have hvlt := v3.lt ok
  have hfv := hfq idv (by simp)
  rcases w with ⟨hl, ⟨rfl, rfl, rfl⟩ | ⟨id, rows, fps, rfl, q1, q2, rfl, q3⟩⟩
  · have hi0 : i = 0 := by simpa using hi
    subst hi0
    simp only [List.length_nil, Nat.zero_add] at hb hm
    refine ⟨.sl tag h.next 0 ys.length, h.push new, h.next :: fps2.flatten, ?_, ?_, ?_⟩
    · simp only [insF]
      rw [if_pos ⟨trivial, trivial, hfv, hy⟩]
      simp only [v1, Option.bind_some]
      rw [if_pos hvrl, if_pos ⟨rfl, hb, hm⟩]
    · refine ⟨by simpa using hm, .inr ⟨h.next, new, fps2, by simp, by simp [Heap.push], by simp [Heap.push], rfl, ?_⟩⟩
      simp only [List.take_nil, List.drop_nil, List.nil_append, List.append_nil]
      exact v3.mv ok (by simp [Heap.push]) fun j hj => push_ne _ (by have := hvlt j hj; omega)
    · refine ⟨by simp [Heap.push], rfl, fun j hj _ => push_ne _ (by omega), List.nodup_cons.2 ⟨fun hc => by have := hvlt _ hc; omega, hnv.2⟩, fun j hj => ?_⟩
      rcases List.mem_cons.1 hj with rfl | hj
      · exact .inr (Nat.le_refl _)
      · exact .inl (by simp [hj])
  · have hn := List.nodup_cons.1 nd
    have hrl := q3.len
    have hflt := q3.lt ok
    have hfid := hfl id (by simp)
    have hne : id ≠ idv := fun e => hd idv (by simp) (by simp [e])
    refine ⟨.sl tag h.next 0 (xs.length + ys.length), (h.kill id).push (rows.take i ++ new ++ rows.drop i), h.next :: (fps.take i ++ fps2 ++ fps.drop i).flatten, ?_, ?_, ?_⟩
    · simp only [insF]
      rw [if_pos ⟨trivial, trivial, hfv, hy⟩]
      simp only [v1, Option.bind_some]
      rw [if_pos hvrl]
      simp only [q1, Option.bind_some, Int.toNat_natCast]
      rw [if_pos ⟨trivial, trivial, hfid, hne, by omega, by omega, hb, hm, hrl⟩]
    · have hlen : (xs.take i ++ ys ++ xs.drop i).length = xs.length + ys.length := by simp only [List.length_append, List.length_take, List.length_drop]; omega
      refine ⟨by rw [hlen]; exact hm, .inr ⟨h.next, rows.take i ++ new ++ rows.drop i, fps.take i ++ fps2 ++ fps.drop i, by rw [hlen], by simp [Heap.push, Heap.kill], by simp [Heap.push, Heap.kill], rfl, ?_⟩⟩
      refine (((q3.take i).app v3).app (q3.drop i)).mv ok (by simp [Heap.push, Heap.kill]) fun j hj => ?_
      have : j ∈ fps.flatten ∨ j ∈ fps2.flatten := by
        rw [List.flatten_append, List.flatten_append, List.mem_append, List.mem_append] at hj
        rw [← flat_parts (fps := fps) i, List.mem_append]
        rcases hj with (hj | hj) | hj
        · exact .inl (.inl hj)
        · exact .inr hj
        · exact .inl (.inr hj)
      rcases this with hj' | hj'
      · have h1 := hflt j hj'
        rw [push_ne _ (by rw [kill_next]; omega), kill_ne (h := h) (k := id) (id := j) fun e => hn.1 (e ▸ hj')]
      · have h1 := hvlt j hj'
        rw [push_ne _ (by rw [kill_next]; omega), kill_ne (h := h) (k := id) (id := j) fun e => hd j (by simp [hj']) (by rw [e]; simp)]
    · refine ⟨by simp [Heap.push, Heap.kill], rfl, fun j hj hjn => ?_, ?_, ?_⟩
      · rw [push_ne _ (by rw [kill_next]; omega), kill_ne (h := h) (k := id) (id := j) fun e => hjn (by rw [e]; simp)]
      · rw [List.nodup_cons]
        have hn2 := hn.2
        rw [← flat_parts (fps := fps) i] at hn2
        obtain ⟨n1, n2, n3⟩ := List.nodup_append.1 hn2
        have hd1 : ∀ a, a ∈ fps2.flatten → a ∉ fps.flatten := fun a ha hb => hd a (by simp [ha]) (by simp [hb])
        have hin1 : ∀ a, a ∈ (fps.take i).flatten → a ∈ fps.flatten := fun a ha => by rw [← flat_parts (fps := fps) i, List.mem_append]; exact .inl ha
        have hin2 : ∀ a, a ∈ (fps.drop i).flatten → a ∈ fps.flatten := fun a ha => by rw [← flat_parts (fps := fps) i, List.mem_append]; exact .inr ha
        rw [List.flatten_append, List.flatten_append]
        refine ⟨fun hc => ?_, ?_⟩
        · rw [List.mem_append, List.mem_append] at hc
          rcases hc with (hc | hc) | hc
          · have := hflt _ (hin1 _ hc); omega
          · have := hvlt _ hc; omega
          · have := hflt _ (hin2 _ hc); omega
        · refine List.nodup_append.2 ⟨List.nodup_append.2 ⟨n1, hnv.2, fun a ha b hb e => hd1 b hb (e ▸ hin1 a ha)⟩, n2, fun a ha b hb e => ?_⟩
          rcases List.mem_append.1 ha with ha | ha
          · exact n3 a ha b hb e
          · exact hd1 a ha (e ▸ hin2 b hb)
      · intro j hj
        rcases List.mem_cons.1 hj with rfl | hj
        · exact .inr (Nat.le_refl _)
        · left
          rw [List.flatten_append, List.flatten_append, List.mem_append, List.mem_append] at hj
          rw [List.mem_append]
          rcases hj with (hj | hj) | hj
          · exact .inl (List.mem_cons_of_mem _ (by rw [← flat_parts (fps := fps) i, List.mem_append]; exact .inl hj))
          · exact .inr (by simp [hj])
          · exact .inl (List.mem_cons_of_mem _ (by rw [← flat_parts (fps := fps) i, List.mem_append]; exact .inr hj))
end
end Go.Proofs.YtahkgghifaodoaaGreat.A
namespace Go.Proofs.YtahkgghifaodoaaGreat.A
open Go
set_option linter.unusedSimpArgs false
set_option linter.unusedVariables false
abbrev Act := Account → Int × Account
def bookDo (xs : List Account) (id : Int) (f : Act) : List Account × Int :=
  bif bookOk xs then (bif decide (0 ≤ accAt xs id) then (bif (f (Account.at_ xs (accAt xs id).toNat)).1 == 0 then (bif (f (Account.at_ xs (accAt xs id).toNat)).2.tx == -1 then (xs.eraseIdx (accAt xs id).toNat, 0) else (xs.set (accAt xs id).toNat (f (Account.at_ xs (accAt xs id).toNat)).2, 0)) else (xs, (f (Account.at_ xs (accAt xs id).toNat)).1)) else (xs, 2)) else (xs, 1)
section
variable {xs : List Account} {id : Int} {f : Act}
theorem do_bad (h : bookOk xs = false) : bookDo xs id f = (xs, 1) := by simp [bookDo, h]
theorem do_none (h : bookOk xs = true) (h2 : accAt xs id = -1) : bookDo xs id f = (xs, 2) := by simp [bookDo, h, h2]
theorem do_at (h : bookOk xs = true) {i : Nat} (h2 : accAt xs id = (i : Int)) : bookDo xs id f = bif (f (Account.at_ xs i)).1 == 0 then (bif (f (Account.at_ xs i)).2.tx == -1 then (xs.eraseIdx i, 0) else (xs.set i (f (Account.at_ xs i)).2, 0)) else (xs, (f (Account.at_ xs i)).1) := by simp [bookDo, h, h2]
theorem do_len : (bookDo xs id f).1.length ≤ xs.length := by
  unfold bookDo
  cases bookOk xs <;> simp only [cond_true, cond_false, Nat.le_refl]
  cases decide (0 ≤ accAt xs id) <;> simp only [cond_true, cond_false, Nat.le_refl]
  cases ((f (Account.at_ xs (accAt xs id).toNat)).1 == 0) <;> simp only [cond_true, cond_false, Nat.le_refl]
  cases ((f (Account.at_ xs (accAt xs id).toNat)).2.tx == -1) <;> simp only [cond_true, cond_false]
  · simp
  · exact List.length_eraseIdx_le _ _
end
def Does (F : Nat → Option RF) (Z : CallF) (n : Nat) (ps : List (Nat × Nat × Nat)) (f : Act) (h : Heap) : Prop :=
  ∀ g, On h g → ∀ y (xs : List Account) fp, SlR 11 (Fl Account.enc) g y xs fp → fp.Nodup → (∀ id, id ∈ fp → g.floor ≤ id ∧ h.next ≤ id) → ∀ i (hi : i < xs.length), xs[i].Ok → xs[i].fine = true →
    ∃ g', call F Z n (.c (.ptr y.sid i 0) :: capV ps) g = some (.c (.int .i64 (f xs[i]).1), g') ∧ Mk g g' fp ∧ ((f xs[i]).1 = 0 → SlR 11 (Fl Account.enc) g' y (xs.set i (f xs[i]).2) fp)
section
variable {F : Nat → Option RF} {Z : CallF} {h : Heap} {x : Cell} {xs : List Account} {fp : List Nat}
set_option maxHeartbeats 2000000 in
theorem change_c (hI10 : Has F tI10) (pr : PrimAt F Z 348 (delF 11)) (hf : h.floor ≤ h.next) (w : SlR 11 (Fl Account.enc) h x xs fp) (id : Int) (hok : ∀ t, t ∈ xs → t.Ok) (sm : xs.length ≤ 1048576) {n : Nat} {ps : List (Nat × Nat × Nat)} {f : Act} (hd : Does F Z n ps f h) :
    ∃ y h' fq, call F Z 345 [.agg [x], .c (.int .u64 id), .c (.fn n ps)] h = some (.tup [.agg [y], .c (.int .i64 (bookDo xs id f).2)], h') ∧ On h h' ∧ SlR 11 (Fl Account.enc) h' y (bookDo xs id f).1 fq ∧ Fre h fq := by
  obtain ⟨y, h1, fq, e1, o1, w1, f1⟩ := copyBook_c (Z := Z) hI10 hf w sm
  have wx := w.on (Fl.ok _) o1
  have e2 := isBook_run (Z := Z) hI10 wx hok
  have e3 := accountOf_run (Z := Z) hI10 wx id
  rw [call_run F Z (hI10.lk (g := 345) rfl) _ _ rfl]
  cases hb : bookOk xs with
  | false =>
    rw [hb] at e2
    rw [do_bad hb]
    simp only [rn, RO.dst, lk, drop, Nat.reduceBEq, Nat.reduceAdd, Nat.reduceLeDiff, ↓reduceIte, reduceCtorEq, e1, e2]
    exact ⟨_, _, _, rfl, o1, w1, f1⟩
  | true =>
    rw [hb] at e2
    rcases acc_found hb id with ⟨q1, q2⟩ | ⟨i, q1, q2, q3, hi, q5⟩
    · rw [q2] at e3
      rw [do_none hb q1]
      simp only [rn, RO.dst, lk, drop, Nat.reduceBEq, Nat.reduceAdd, Nat.reduceLeDiff, ↓reduceIte, reduceCtorEq, e1, e2, e3]
      exact ⟨_, _, _, rfl, o1, w1, f1⟩
    · rw [q2, q3] at e3
      rw [do_at hb q1]
      have hyi := w1.idx hi
      have hok' := hok _ (List.getElem_mem hi)
      have hfine := book_fine hb hi
      rw [Account.at_get hi] at hfine ⊢
      obtain ⟨g, e4, mk, hset⟩ := hd h1 o1 y xs fq w1 f1.nd (fun id hid => ⟨f1.own o1 hf id hid, f1.lo id hid⟩) i hi hok' hfine
      have o2 := o1.turned mk f1
      have wx2 := w.on (Fl.ok _) o2
      by_cases hc : (f xs[i]).1 = 0
      · have hc' : ((f xs[i]).1 == 0) = true := by simpa using hc
        have hcn : ((f xs[i]).1 != 0) = false := by simpa using hc
        have wz := hset hc
        have hi' : i < (xs.set i (f xs[i]).2).length := by rw [List.length_set]; exact hi
        have hld := wz.load hi'
        rw [List.getElem_set_self] at hld
        simp only [Account.enc] at hld
        rw [hc']
        by_cases ht : (f xs[i]).2.tx = -1
        · have ht' : ((f xs[i]).2.tx == -1) = true := by simpa using ht
          rw [ht']
          have hle := w.le2
          obtain ⟨z, g2, fr, e5, wz2, re⟩ := wz.del (Fl.ok _) f1.nd (fun id hid => by rw [mk.fl]; exact f1.own o1 hf id hid) hi'
          have hwj := wrapS i (by omega)
          have her : (xs.set i (f xs[i]).2).eraseIdx i = xs.eraseIdx i := by
            rw [List.eraseIdx_eq_take_drop_succ, List.eraseIdx_eq_take_drop_succ, List.take_set_of_le (Nat.le_refl _), List.drop_set_of_lt (by omega)]
          rw [her] at wz2
          simp only [rn, RO.dst, lk, drop, Nat.reduceBEq, Nat.reduceAdd, Nat.reduceLeDiff, ↓reduceIte, reduceCtorEq, e1, e2, e3, hyi, e4, hcn, hld, ht', hwj, pr _ _, e5]
          exact ⟨_, _, _, rfl, re.on o2 f1, wz2, re.fre o2 f1⟩
        · have ht' : ((f xs[i]).2.tx == -1) = false := by simpa using ht
          rw [ht']
          simp only [rn, RO.dst, lk, drop, Nat.reduceBEq, Nat.reduceAdd, Nat.reduceLeDiff, ↓reduceIte, reduceCtorEq, e1, e2, e3, hyi, e4, hcn, hld, ht']
          exact ⟨_, _, _, rfl, o2, wz, f1⟩
      · have hc' : ((f xs[i]).1 == 0) = false := by simpa using hc
        have hcn : ((f xs[i]).1 != 0) = true := by simpa using hc
        obtain ⟨z, h5, fr, e5, o5, w5, f5⟩ := copyBook_c (Z := Z) hI10 (o2.le hf) wx2 sm
        rw [hc']
        simp only [rn, RO.dst, lk, drop, Nat.reduceBEq, Nat.reduceAdd, Nat.reduceLeDiff, ↓reduceIte, reduceCtorEq, e1, e2, e3, hyi, e4, hcn, e5]
        exact ⟨_, _, _, rfl, o2.trans o5, w5, ⟨fun id hid => Nat.le_trans o2.ext.1 (f5.lo id hid), f5.nd⟩⟩
def accOf (xs : List Account) (id tx : Int) : Account × Int := bif bookOk xs && !decide (tx < 1) then (bif decide (accAt xs id < 0) then (Account.none_, 2) else (Account.at_ xs (accAt xs id).toNat, 0)) else (Account.none_, 1)
theorem l10Of_run (hS10 : Has F tS10) (w : SlR 11 (Fl Account.enc) h x xs fp) (id tx : Int) (hok : ∀ t, t ∈ xs → t.Ok) :
    call F Z 335 [.agg [x], .c (.int .u64 id), .c (.int .i64 tx)] h = some (.tup [.agg (accOf xs id tx).1.enc, .c (.int .i64 (accOf xs id tx).2)], h) := by
  have e1 := sBookOk_run (Z := Z) hS10 w hok
  have e2 := l10Find_run (Z := Z) hS10 w id
  rw [call_run F Z (hS10.lk (g := 335) rfl) _ _ rfl]
  cases hb : bookOk xs with
  | false =>
    rw [hb] at e1
    have hd : accOf xs id tx = (Account.none_, 1) := by simp [accOf, hb]
    rw [hd]
    simp only [rn, RO.dst, lk, drop, Nat.reduceBEq, Nat.reduceAdd, Nat.reduceLeDiff, ↓reduceIte, reduceCtorEq, e1, Account.enc, Account.none_]
  | true =>
    rw [hb] at e1
    by_cases ht : tx < 1
    · have hd : accOf xs id tx = (Account.none_, 1) := by simp [accOf, ht]
      rw [hd]
      simp only [rn, RO.dst, lk, drop, Nat.reduceBEq, Nat.reduceAdd, Nat.reduceLeDiff, ↓reduceIte, reduceCtorEq, e1, ht, Account.enc, Account.none_]
    · rcases acc_found hb id with ⟨q1, _⟩ | ⟨i, q1, _, _, hi, _⟩
      · have hd : accOf xs id tx = (Account.none_, 2) := by simp [accOf, hb, ht, q1]
        rw [hd]
        rw [q1] at e2
        simp only [rn, RO.dst, lk, drop, Nat.reduceBEq, Nat.reduceAdd, Nat.reduceLeDiff, ↓reduceIte, reduceCtorEq, e1, e2, ht, Int.reduceLT, Int.reduceNeg, Account.enc, Account.none_]
      · have hd : accOf xs id tx = (Account.at_ xs i, 0) := by
          have g0 : ¬ (i : Int) < 0 := by omega
          simp [accOf, hb, ht, q1, g0]
        rw [hd]
        rw [q1] at e2
        have g0 : ¬ (i : Int) < 0 := by omega
        have hxi := w.idx hi
        have hld := w.load hi
        rw [← Account.at_get hi] at hld
        simp only [Account.enc] at hld
        simp only [rn, RO.dst, lk, drop, Nat.reduceBEq, Nat.reduceAdd, Nat.reduceLeDiff, ↓reduceIte, reduceCtorEq, e1, e2, ht, g0, hxi, hld, Account.enc]
theorem of_bad {id tx : Int} (h : bookOk xs = false) : accOf xs id tx = (Account.none_, 1) := by simp [accOf, h]
theorem of_tx {id tx : Int} (h : tx < 1) : accOf xs id tx = (Account.none_, 1) := by simp [accOf, h]
theorem of_none {id tx : Int} (h : bookOk xs = true) (ht : ¬ tx < 1) (h2 : accAt xs id = -1) : accOf xs id tx = (Account.none_, 2) := by simp [accOf, h, ht, h2]
theorem of_at {id tx : Int} (h : bookOk xs = true) (ht : ¬ tx < 1) {i : Nat} (h2 : accAt xs id = (i : Int)) : accOf xs id tx = (Account.at_ xs i, 0) := by
  have g0 : ¬ (i : Int) < 0 := by omega
  simp [accOf, h, ht, h2, g0]
def Account.put (a b : Account) : Account := if b.id = a.id then a else b
set_option maxHeartbeats 1000000 in
theorem l10With_c (hS10 : Has F tS10) (hf : h.floor ≤ h.next) (w : SlR 11 (Fl Account.enc) h x xs fp) (sm : xs.length ≤ 1048576) (a : Account) :
    ∃ y h' fq, call F Z 336 [.agg [x], .agg a.enc] h = some (.agg [y], h') ∧ On h h' ∧ SlR 11 (Fl Account.enc) h' y (xs.map a.put) fq ∧ Fre h fq := by
  obtain ⟨y, h1, fq, e1, o1, w1, f1⟩ := l10Copy_c (Z := Z) hS10 hf w sm
  have hle := w.le2
  rw [call_run F Z (hS10.lk (g := 336) rfl) _ _ rfl]
  simp only [rn, RO.dst, lk, drop, Nat.reduceBEq, Nat.reduceAdd, Nat.reduceLeDiff, ↓reduceIte, reduceCtorEq, Account.len, Account.tak, e1]
  obtain ⟨s', ⟨g, hs, m, u⟩, lp⟩ := loop_goes (F := F) (Z := Z) (live := [3, 4, 5, 6]) (b := r336L0) xs.length (fun i st => ∃ g, st = ⟨[(6, .c (.int .i64 (i : Nat)))], [(3, 3, 0), (4, 4, 0), (5, 5, 0)], [(3, a.enc), (4, [.nil]), (5, [y])], g⟩ ∧ Mk h1 g fq ∧ SlR 11 (Fl Account.enc) g y ((xs.take i).map a.put ++ xs.drop i) fq) (fun i st hi ⟨g, hs, m, u⟩ => by
    subst hs
    have hll : ((xs.take i).map a.put ++ xs.drop i).length = xs.length := by simp; omega
    have hi' : i < ((xs.take i).map a.put ++ xs.drop i).length := by omega
    have hlt : (i : Int) < xs.length := by omega
    have hws := wrapS i (by omega)
    have hul := u.len
    rw [hll] at hul
    have hxi := u.idx hi'
    have hmx := mix_set a.put xs hi
    have hat := mix_at a.put xs hi hi'
    obtain ⟨r, f, rows, hR, hs, hld, hself, hst, hl2, fin⟩ := u.putRow (Fl.ok _) f1.nd (fun id hid => by rw [m.fl]; exact f1.own o1 hf id hid) hi'
    obtain ⟨rfl, rfl⟩ := hR
    rw [hat] at hld hself
    rw [loop_run]
    conv in (codeF _ _ r336L0 _) => unfold r336L0
    simp only [Account.enc] at hld hself ⊢
    by_cases c : xs[i].id = a.id
    · have c' : (xs[i].id == a.id) = true := by simpa using c
      have hp : a.put xs[i] = a := by simp [Account.put, c]
      rw [hp] at hmx
      obtain ⟨u2, m2⟩ := fin a.enc a ⟨rfl, rfl⟩
      rw [hmx] at u2
      have hst' := hst [.int .u64 xs[i].id, .int .u64 xs[i].bal, .int .u64 xs[i].hold, .int .u64 xs[i].due, .int .i64 xs[i].tx]
      rw [hself] at hst'
      simp only [rn, RO.dst, lk, drop, Nat.reduceBEq, Nat.reduceAdd, Nat.reduceLeDiff, ↓reduceIte, reduceCtorEq, hul, hlt, hxi, hld, c', hst', putM_s, hws]
      exact ⟨_, ⟨_, rfl, m.then m2, u2⟩, rfl⟩
    · have c' : (xs[i].id == a.id) = false := by simpa using c
      have hp : a.put xs[i] = xs[i] := by simp [Account.put, c]
      rw [hp] at hmx
      have hsm := set_same _ hi'
      rw [hat, hmx] at hsm
      rw [← hsm] at u
      simp only [rn, RO.dst, lk, drop, Nat.reduceBEq, Nat.reduceAdd, Nat.reduceLeDiff, ↓reduceIte, reduceCtorEq, hul, hlt, hxi, hld, c', hws]
      exact ⟨_, ⟨_, rfl, m, u⟩, rfl⟩) (s := ⟨[(6, .c (.int .i64 (0 : Nat)))], [(3, 3, 0), (4, 4, 0), (5, 5, 0)], [(3, a.enc), (4, [.nil]), (5, [y])], h1⟩) ⟨h1, rfl, Mk.refl _ _, by simpa using w1⟩
  subst hs
  simp only [show ((0 : Nat) : Int) = 0 from rfl] at lp
  rw [List.take_length, List.drop_length, List.append_nil] at u
  have hul := u.len
  rw [List.length_map] at hul
  have hlt : ¬ (xs.length : Int) < xs.length := by omega
  rw [lp, loop_run]
  conv in (codeF _ _ r336L0 _) => unfold r336L0
  simp only [rn, RO.dst, lk, drop, Nat.reduceBEq, Nat.reduceAdd, Nat.reduceLeDiff, ↓reduceIte, reduceCtorEq, hul, hlt]
  exact ⟨_, _, _, rfl, o1.turned m f1, u, f1⟩
theorem with_set (g : bookOk xs = true) {i : Nat} (hi : i < xs.length) {a : Account} (ha : a.id = xs[i].id) : xs.map a.put = xs.set i a := by
  apply List.ext_getElem
  · simp
  · intro j h1 h2
    rw [List.getElem_map, List.getElem_set]
    rw [List.length_map] at h1
    by_cases e : i = j
    · subst e; simp [Account.put, ha]
    · rw [if_neg e]
      have : ¬ xs[j].id = a.id := fun hc => e (book_inj g hi h1 (by rw [← ha]; exact hc.symm))
      simp [Account.put, this]
end
end Go.Proofs.YtahkgghifaodoaaGreat.A
namespace Go.Proofs.YtahkgghifaodoaaGreat.A
open Go
set_option linter.unusedSimpArgs false
set_option linter.unusedVariables false
def closeF : Act := fun a => if a.tx = 0 then (if a.bal = 0 then (0, { a with tx := -1 }) else (4, a)) else (6, a)
def depF (m : Int) : Act := fun a => if a.tx = 0 then (if a.bal + m ≤ 18446744073709551615 then (0, { a with bal := a.bal + m }) else (5, a)) else (6, a)
def witF (m : Int) : Act := fun a => if a.tx = 0 then (if m ≤ a.bal then (0, { a with bal := a.bal - m }) else (4, a)) else (6, a)
theorem wrapOver (a m : Int) (h0 : 0 ≤ a ∧ a ≤ 18446744073709551615) (h1 : 0 ≤ m ∧ m ≤ 18446744073709551615) (h2 : ¬ a + m ≤ 18446744073709551615) : IntKind.u64.wrap (a + m) = a + m - 18446744073709551616 := by
  show (if (false && decide ((a + m) % 18446744073709551616 ≥ 9223372036854775808)) = true then (a + m) % 18446744073709551616 - 18446744073709551616 else (a + m) % 18446744073709551616) = _
  rw [if_neg (by simp)]
  omega
section
variable {F : Nat → Option RF} {Z : CallF} {h : Heap} {x : Cell} {xs : List Account} {fp : List Nat}
theorem cap_load {g : Heap} {r : List Cell} (o : On (h.push [r]) g) (j n : Nat) : loadP g h.next 0 j n = cut? r j n :=
  loadP_row (rows := [r]) (by rw [o.ext.2 h.next (by rw [push_next]; omega)]; exact push_get _ _) rfl j n
theorem close_does (hI10 : Has F tI10) : Does F Z 344 [] closeF h := by
  intro g o y xs fp w nd own i hi ok fine
  obtain ⟨r, f, rows, hR, hs, hld, hself, hst, hl2, fin⟩ := w.putRow (Fl.ok _) nd (fun id hid => (own id hid).1) hi
  obtain ⟨rfl, rfl⟩ := hR
  have hst' := hst xs[i].enc
  rw [hself] at hst'
  have hq := fin { xs[i] with tx := -1 }.enc { xs[i] with tx := -1 } ⟨rfl, rfl⟩
  clear hst hl2 hself
  generalize xs[i] = a at *
  simp only [capV_nil]
  rw [call_run F Z (hI10.lk (g := 344) rfl) _ _ rfl]
  simp only [Account.enc] at hld hst' hq
  by_cases c1 : a.tx = 0
  · have c1' : (a.tx != 0) = false := by simpa using c1
    by_cases c2 : a.bal = 0
    · have c2' : (a.bal != 0) = false := by simpa using c2
      have hd : closeF a = (0, { a with tx := -1 }) := by simp [closeF, c1, c2]
      rw [hd]
      simp only [rn, RO.dst, lk, drop, Nat.reduceBEq, Nat.reduceAdd, Nat.reduceLeDiff, ↓reduceIte, reduceCtorEq, hld, c1', c2', hst', putM_s]
      exact ⟨_, rfl, hq.2, fun _ => hq.1⟩
    · have c2' : (a.bal != 0) = true := by simpa using c2
      have hd : closeF a = (4, a) := by simp [closeF, c1, c2]
      rw [hd]
      simp only [rn, RO.dst, lk, drop, Nat.reduceBEq, Nat.reduceAdd, Nat.reduceLeDiff, ↓reduceIte, reduceCtorEq, hld, c1', c2']
      exact ⟨_, rfl, Mk.refl _ _, fun hc => by simp at hc⟩
  · have c1' : (a.tx != 0) = true := by simpa using c1
    have hd : closeF a = (6, a) := by simp [closeF, c1]
    rw [hd]
    simp only [rn, RO.dst, lk, drop, Nat.reduceBEq, Nat.reduceAdd, Nat.reduceLeDiff, ↓reduceIte, reduceCtorEq, hld, c1']
    exact ⟨_, rfl, Mk.refl _ _, fun hc => by simp at hc⟩
theorem dep_does (hI10 : Has F tI10) {m : Int} (hm : 0 ≤ m ∧ m ≤ 18446744073709551615) : Does F Z 346 [(h.next, 0, 0)] (depF m) (h.push [[.int .u64 m]]) := by
  intro g o y xs fp w nd own i hi ok fine
  have hcl := cap_load o
  obtain ⟨r, f, rows, hR, hs, hld, hself, hst, hl2, fin⟩ := w.putRow (Fl.ok _) nd (fun id hid => (own id hid).1) hi
  obtain ⟨rfl, rfl⟩ := hR
  have hst' := hst xs[i].enc
  rw [hself] at hst'
  have hq := fin { xs[i] with bal := xs[i].bal + m }.enc { xs[i] with bal := xs[i].bal + m } ⟨rfl, rfl⟩
  clear hst hl2 hself
  have hbal := ok.bal
  generalize xs[i] = a at *
  simp only [capV_cons, capV_nil]
  rw [call_run F Z (hI10.lk (g := 346) rfl) _ _ rfl]
  simp only [Account.enc] at hld hst' hq
  by_cases c1 : a.tx = 0
  · have c1' : (a.tx != 0) = false := by simpa using c1
    by_cases c2 : a.bal + m ≤ 18446744073709551615
    · have hd : depF m a = (0, { a with bal := a.bal + m }) := by simp [depF, c1, c2]
      have hw : IntKind.u64.wrap (a.bal + m) = a.bal + m := wrapU _ (by omega) (by omega)
      have c3 : ¬ a.bal + m < a.bal := by omega
      rw [hd]
      simp only [rn, RO.dst, lk, drop, Nat.reduceBEq, Nat.reduceAdd, Nat.reduceLeDiff, ↓reduceIte, reduceCtorEq, hld, hcl, c1', hw, c3, hst', putM_s]
      exact ⟨_, rfl, hq.2, fun _ => hq.1⟩
    · have hd : depF m a = (5, a) := by simp [depF, c1, c2]
      have hw := wrapOver a.bal m hbal hm c2
      have c3 : a.bal + m - 18446744073709551616 < a.bal := by omega
      rw [hd]
      simp only [rn, RO.dst, lk, drop, Nat.reduceBEq, Nat.reduceAdd, Nat.reduceLeDiff, ↓reduceIte, reduceCtorEq, hld, hcl, c1', hw, c3]
      exact ⟨_, rfl, Mk.refl _ _, fun hc => by simp at hc⟩
  · have c1' : (a.tx != 0) = true := by simpa using c1
    have hd : depF m a = (6, a) := by simp [depF, c1]
    rw [hd]
    simp only [rn, RO.dst, lk, drop, Nat.reduceBEq, Nat.reduceAdd, Nat.reduceLeDiff, ↓reduceIte, reduceCtorEq, hld, hcl, c1']
    exact ⟨_, rfl, Mk.refl _ _, fun hc => by simp at hc⟩
theorem wit_does (hI10 : Has F tI10) {m : Int} (hm : 0 ≤ m ∧ m ≤ 18446744073709551615) : Does F Z 347 [(h.next, 0, 0)] (witF m) (h.push [[.int .u64 m]]) := by
  intro g o y xs fp w nd own i hi ok fine
  have hcl := cap_load o
  obtain ⟨r, f, rows, hR, hs, hld, hself, hst, hl2, fin⟩ := w.putRow (Fl.ok _) nd (fun id hid => (own id hid).1) hi
  obtain ⟨rfl, rfl⟩ := hR
  have hst' := hst xs[i].enc
  rw [hself] at hst'
  have hq := fin { xs[i] with bal := xs[i].bal - m }.enc { xs[i] with bal := xs[i].bal - m } ⟨rfl, rfl⟩
  clear hst hl2 hself
  have hbal := ok.bal
  generalize xs[i] = a at *
  simp only [capV_cons, capV_nil]
  rw [call_run F Z (hI10.lk (g := 347) rfl) _ _ rfl]
  simp only [Account.enc] at hld hst' hq
  by_cases c1 : a.tx = 0
  · have c1' : (a.tx != 0) = false := by simpa using c1
    by_cases c2 : m ≤ a.bal
    · have hd : witF m a = (0, { a with bal := a.bal - m }) := by simp [witF, c1, c2]
      have hw : IntKind.u64.wrap (a.bal - m) = a.bal - m := wrapU _ (by omega) (by omega)
      have c3 : ¬ a.bal < m := by omega
      rw [hd]
      simp only [rn, RO.dst, lk, drop, Nat.reduceBEq, Nat.reduceAdd, Nat.reduceLeDiff, ↓reduceIte, reduceCtorEq, hld, hcl, c1', hw, c3, hst', putM_s]
      exact ⟨_, rfl, hq.2, fun _ => hq.1⟩
    · have hd : witF m a = (4, a) := by simp [witF, c1, c2]
      have hw : True := trivial
      have c3 : a.bal < m := by omega
      rw [hd]
      simp only [rn, RO.dst, lk, drop, Nat.reduceBEq, Nat.reduceAdd, Nat.reduceLeDiff, ↓reduceIte, reduceCtorEq, hld, hcl, c1', hw, c3]
      exact ⟨_, rfl, Mk.refl _ _, fun hc => by simp at hc⟩
  · have c1' : (a.tx != 0) = true := by simpa using c1
    have hd : witF m a = (6, a) := by simp [witF, c1]
    rw [hd]
    simp only [rn, RO.dst, lk, drop, Nat.reduceBEq, Nat.reduceAdd, Nat.reduceLeDiff, ↓reduceIte, reduceCtorEq, hld, hcl, c1']
    exact ⟨_, rfl, Mk.refl _ _, fun hc => by simp at hc⟩
theorem CloseAccount_c (hI10 : Has F tI10) (pr : PrimAt F Z 348 (delF 11)) (hf : h.floor ≤ h.next) (w : SlR 11 (Fl Account.enc) h x xs fp) (id : Int) (hok : ∀ t, t ∈ xs → t.Ok) (sm : xs.length ≤ 1048576) :
    ∃ y h' fq, call F Z 338 [.agg [x], .c (.int .u64 id)] h = some (.tup [.agg [y], .c (.int .i64 (bookDo xs id closeF).2)], h') ∧ On h h' ∧ SlR 11 (Fl Account.enc) h' y (bookDo xs id closeF).1 fq ∧ Fre h fq := by
  obtain ⟨y, h', fq, e, o, u, f⟩ := change_c (Z := Z) hI10 pr hf w id hok sm (close_does (h := h) hI10)
  rw [call_run F Z (hI10.lk (g := 338) rfl) _ _ rfl]
  simp only [rn, RO.dst, lk, drop, Nat.reduceBEq, Nat.reduceAdd, Nat.reduceLeDiff, ↓reduceIte, reduceCtorEq, e]
  exact ⟨_, _, _, rfl, o, u, f⟩
theorem Deposit_c (hI10 : Has F tI10) (pr : PrimAt F Z 348 (delF 11)) (hf : h.floor ≤ h.next) (w : SlR 11 (Fl Account.enc) h x xs fp) (id m : Int) (hm : 0 ≤ m ∧ m ≤ 18446744073709551615) (hok : ∀ t, t ∈ xs → t.Ok) (sm : xs.length ≤ 1048576) :
    ∃ y h' fq, call F Z 339 [.agg [x], .c (.int .u64 id), .c (.int .u64 m)] h = some (.tup [.agg [y], .c (.int .i64 (bookDo xs id (depF m)).2)], h') ∧ On h h' ∧ SlR 11 (Fl Account.enc) h' y (bookDo xs id (depF m)).1 fq ∧ Fre h fq := by
  have o0 := On.push h [[.int .u64 m]]
  obtain ⟨y, h', fq, e, o, u, f⟩ := change_c (Z := Z) hI10 pr (o0.le hf) (w.on (Fl.ok _) o0) id hok sm (dep_does (h := h) hI10 hm)
  rw [call_run F Z (hI10.lk (g := 339) rfl) _ _ rfl]
  simp only [rn, RO.dst, lk, drop, Nat.reduceBEq, Nat.reduceAdd, Nat.reduceLeDiff, ↓reduceIte, reduceCtorEq, evPtrs, e]
  exact ⟨_, _, _, rfl, o0.trans o, u, ⟨fun id hid => Nat.le_trans o0.ext.1 (f.lo id hid), f.nd⟩⟩
theorem Withdraw_c (hI10 : Has F tI10) (pr : PrimAt F Z 348 (delF 11)) (hf : h.floor ≤ h.next) (w : SlR 11 (Fl Account.enc) h x xs fp) (id m : Int) (hm : 0 ≤ m ∧ m ≤ 18446744073709551615) (hok : ∀ t, t ∈ xs → t.Ok) (sm : xs.length ≤ 1048576) :
    ∃ y h' fq, call F Z 340 [.agg [x], .c (.int .u64 id), .c (.int .u64 m)] h = some (.tup [.agg [y], .c (.int .i64 (bookDo xs id (witF m)).2)], h') ∧ On h h' ∧ SlR 11 (Fl Account.enc) h' y (bookDo xs id (witF m)).1 fq ∧ Fre h fq := by
  have o0 := On.push h [[.int .u64 m]]
  obtain ⟨y, h', fq, e, o, u, f⟩ := change_c (Z := Z) hI10 pr (o0.le hf) (w.on (Fl.ok _) o0) id hok sm (wit_does (h := h) hI10 hm)
  rw [call_run F Z (hI10.lk (g := 340) rfl) _ _ rfl]
  simp only [rn, RO.dst, lk, drop, Nat.reduceBEq, Nat.reduceAdd, Nat.reduceLeDiff, ↓reduceIte, reduceCtorEq, evPtrs, e]
  exact ⟨_, _, _, rfl, o0.trans o, u, ⟨fun id hid => Nat.le_trans o0.ext.1 (f.lo id hid), f.nd⟩⟩
set_option maxHeartbeats 1000000 in
theorem sDeposit_c (hS10 : Has F tS10) (hf : h.floor ≤ h.next) (w : SlR 11 (Fl Account.enc) h x xs fp) (id m : Int) (hm : 0 ≤ m ∧ m ≤ 18446744073709551615) (hok : ∀ t, t ∈ xs → t.Ok) (sm : xs.length ≤ 1048576) :
    ∃ y h' fq, call F Z 325 [.agg [x], .c (.int .u64 id), .c (.int .u64 m)] h = some (.tup [.agg [y], .c (.int .i64 (bookDo xs id (depF m)).2)], h') ∧ On h h' ∧ SlR 11 (Fl Account.enc) h' y (bookDo xs id (depF m)).1 fq ∧ Fre h fq := by
  have e1 := l10Of_run (Z := Z) hS10 w id 1 hok
  obtain ⟨y, h2, fq, e2, o2, w2, f2⟩ := l10Copy_c (Z := Z) hS10 hf w sm
  have z0 : ((0 : Int) != 0) = false := rfl
  have z1 : ((1 : Int) != 0) = true := rfl
  have z2 : ((2 : Int) != 0) = true := rfl
  rw [call_run F Z (hS10.lk (g := 325) rfl) _ _ rfl]
  cases hb : bookOk xs with
  | false =>
    rw [of_bad hb] at e1
    rw [do_bad hb]
    simp only [Account.enc, Account.none_] at e1
    simp only [rn, RO.dst, lk, drop, Nat.reduceBEq, Nat.reduceAdd, Nat.reduceLeDiff, ↓reduceIte, reduceCtorEq, z0, z1, z2, e1, e2]
    exact ⟨_, _, _, rfl, o2, w2, f2⟩
  | true =>
    have ht : ¬ (1 : Int) < 1 := by omega
    rcases acc_found hb id with ⟨q1, _⟩ | ⟨i, q1, _, _, hi, q5⟩
    · rw [of_none hb ht q1] at e1
      rw [do_none hb q1]
      simp only [Account.enc, Account.none_] at e1
      simp only [rn, RO.dst, lk, drop, Nat.reduceBEq, Nat.reduceAdd, Nat.reduceLeDiff, ↓reduceIte, reduceCtorEq, z0, z1, z2, e1, e2]
      exact ⟨_, _, _, rfl, o2, w2, f2⟩
    · rw [of_at hb ht q1] at e1
      rw [do_at hb q1]
      have hbal := (hok _ (List.getElem_mem hi)).bal
      rw [Account.at_get hi] at e1 ⊢
      obtain ⟨z, h3, fr, e3, o3, w3, f3⟩ := l10With_c (Z := Z) hS10 hf w sm ⟨xs[i].id, xs[i].bal + m, xs[i].hold, xs[i].due, xs[i].tx⟩
      rw [with_set hb hi (a := ⟨xs[i].id, xs[i].bal + m, xs[i].hold, xs[i].due, xs[i].tx⟩) rfl] at w3
      have hws : IntKind.u64.wrap (18446744073709551615 - xs[i].bal) = 18446744073709551615 - xs[i].bal := wrapU _ (by omega) (by omega)
      simp only [Account.enc] at e1 e3
      generalize xs[i] = a at *
      by_cases c1 : a.tx = 0
      · have c1' : (a.tx != 0) = false := by simpa using c1
        by_cases c2 : a.bal + m ≤ 18446744073709551615
        · have hd : depF m a = (0, { a with bal := a.bal + m }) := by simp [depF, c1, c2]
          have htx : (a.tx == -1) = false := by simp [c1]
          have hw : IntKind.u64.wrap (a.bal + m) = a.bal + m := wrapU _ (by omega) (by omega)
          have c3 : ¬ m > 18446744073709551615 - a.bal := by omega
          rw [hd]
          simp only [beq_self_eq_true, cond_true, htx, cond_false]
          simp only [rn, RO.dst, lk, drop, Nat.reduceBEq, Nat.reduceAdd, Nat.reduceLeDiff, ↓reduceIte, reduceCtorEq, z0, z1, z2, e1, hws, hw, c1', c3, e3]
          exact ⟨_, _, _, rfl, o3, w3, f3⟩
        · have hd : depF m a = (5, a) := by simp [depF, c1, c2]
          have c3 : m > 18446744073709551615 - a.bal := by omega
          rw [hd]
          have h0 : ((5 : Int) == 0) = false := rfl
          simp only [h0, cond_false]
          simp only [rn, RO.dst, lk, drop, Nat.reduceBEq, Nat.reduceAdd, Nat.reduceLeDiff, ↓reduceIte, reduceCtorEq, z0, z1, z2, e1, hws, c1', c3, e2]
          exact ⟨_, _, _, rfl, o2, w2, f2⟩
      · have c1' : (a.tx != 0) = true := by simpa using c1
        have hd : depF m a = (6, a) := by simp [depF, c1]
        rw [hd]
        have h0 : ((6 : Int) == 0) = false := rfl
        simp only [h0, cond_false]
        simp only [rn, RO.dst, lk, drop, Nat.reduceBEq, Nat.reduceAdd, Nat.reduceLeDiff, ↓reduceIte, reduceCtorEq, z0, z1, z2, e1, c1', e2]
        exact ⟨_, _, _, rfl, o2, w2, f2⟩
set_option maxHeartbeats 1000000 in
theorem sWithdraw_c (hS10 : Has F tS10) (hf : h.floor ≤ h.next) (w : SlR 11 (Fl Account.enc) h x xs fp) (id m : Int) (hm : 0 ≤ m ∧ m ≤ 18446744073709551615) (hok : ∀ t, t ∈ xs → t.Ok) (sm : xs.length ≤ 1048576) :
    ∃ y h' fq, call F Z 326 [.agg [x], .c (.int .u64 id), .c (.int .u64 m)] h = some (.tup [.agg [y], .c (.int .i64 (bookDo xs id (witF m)).2)], h') ∧ On h h' ∧ SlR 11 (Fl Account.enc) h' y (bookDo xs id (witF m)).1 fq ∧ Fre h fq := by
  have e1 := l10Of_run (Z := Z) hS10 w id 1 hok
  obtain ⟨y, h2, fq, e2, o2, w2, f2⟩ := l10Copy_c (Z := Z) hS10 hf w sm
  have z0 : ((0 : Int) != 0) = false := rfl
  have z1 : ((1 : Int) != 0) = true := rfl
  have z2 : ((2 : Int) != 0) = true := rfl
  rw [call_run F Z (hS10.lk (g := 326) rfl) _ _ rfl]
  cases hb : bookOk xs with
  | false =>
    rw [of_bad hb] at e1
    rw [do_bad hb]
    simp only [Account.enc, Account.none_] at e1
    simp only [rn, RO.dst, lk, drop, Nat.reduceBEq, Nat.reduceAdd, Nat.reduceLeDiff, ↓reduceIte, reduceCtorEq, z0, z1, z2, e1, e2]
    exact ⟨_, _, _, rfl, o2, w2, f2⟩
  | true =>
    have ht : ¬ (1 : Int) < 1 := by omega
    rcases acc_found hb id with ⟨q1, _⟩ | ⟨i, q1, _, _, hi, q5⟩
    · rw [of_none hb ht q1] at e1
      rw [do_none hb q1]
      simp only [Account.enc, Account.none_] at e1
      simp only [rn, RO.dst, lk, drop, Nat.reduceBEq, Nat.reduceAdd, Nat.reduceLeDiff, ↓reduceIte, reduceCtorEq, z0, z1, z2, e1, e2]
      exact ⟨_, _, _, rfl, o2, w2, f2⟩
    · rw [of_at hb ht q1] at e1
      rw [do_at hb q1]
      have hbal := (hok _ (List.getElem_mem hi)).bal
      rw [Account.at_get hi] at e1 ⊢
      obtain ⟨z, h3, fr, e3, o3, w3, f3⟩ := l10With_c (Z := Z) hS10 hf w sm ⟨xs[i].id, xs[i].bal - m, xs[i].hold, xs[i].due, xs[i].tx⟩
      rw [with_set hb hi (a := ⟨xs[i].id, xs[i].bal - m, xs[i].hold, xs[i].due, xs[i].tx⟩) rfl] at w3
      have hws : IntKind.u64.wrap (18446744073709551615 - xs[i].bal) = 18446744073709551615 - xs[i].bal := wrapU _ (by omega) (by omega)
      simp only [Account.enc] at e1 e3
      generalize xs[i] = a at *
      by_cases c1 : a.tx = 0
      · have c1' : (a.tx != 0) = false := by simpa using c1
        by_cases c2 : m ≤ a.bal
        · have hd : witF m a = (0, { a with bal := a.bal - m }) := by simp [witF, c1, c2]
          have htx : (a.tx == -1) = false := by simp [c1]
          have hw : IntKind.u64.wrap (a.bal - m) = a.bal - m := wrapU _ (by omega) (by omega)
          have c3 : ¬ m > a.bal := by omega
          rw [hd]
          simp only [beq_self_eq_true, cond_true, htx, cond_false]
          simp only [rn, RO.dst, lk, drop, Nat.reduceBEq, Nat.reduceAdd, Nat.reduceLeDiff, ↓reduceIte, reduceCtorEq, z0, z1, z2, e1, hws, hw, c1', c3, e3]
          exact ⟨_, _, _, rfl, o3, w3, f3⟩
        · have hd : witF m a = (4, a) := by simp [witF, c1, c2]
          have c3 : m > a.bal := by omega
          rw [hd]
          have h0 : ((4 : Int) == 0) = false := rfl
          simp only [h0, cond_false]
          simp only [rn, RO.dst, lk, drop, Nat.reduceBEq, Nat.reduceAdd, Nat.reduceLeDiff, ↓reduceIte, reduceCtorEq, z0, z1, z2, e1, hws, c1', c3, e2]
          exact ⟨_, _, _, rfl, o2, w2, f2⟩
      · have c1' : (a.tx != 0) = true := by simpa using c1
        have hd : witF m a = (6, a) := by simp [witF, c1]
        rw [hd]
        have h0 : ((6 : Int) == 0) = false := rfl
        simp only [h0, cond_false]
        simp only [rn, RO.dst, lk, drop, Nat.reduceBEq, Nat.reduceAdd, Nat.reduceLeDiff, ↓reduceIte, reduceCtorEq, z0, z1, z2, e1, c1', e2]
        exact ⟨_, _, _, rfl, o2, w2, f2⟩
theorem filter_erase (g : bookOk xs = true) {i : Nat} (hi : i < xs.length) : xs.filter (fun b => b.id != xs[i].id) = xs.eraseIdx i := by
  have e : xs = xs.take i ++ xs[i] :: xs.drop (i + 1) := by rw [← List.drop_eq_getElem_cons hi, List.take_append_drop]
  rw [List.eraseIdx_eq_take_drop_succ]
  generalize hk : xs[i].id = k
  conv => lhs; rw [e]
  rw [List.filter_append, List.filter_cons_of_neg (by simp [hk])]
  congr 1
  · rw [List.filter_eq_self]
    intro b hb
    obtain ⟨j, hj, rfl⟩ := List.mem_iff_getElem.1 hb
    rw [List.length_take] at hj
    rw [List.getElem_take]
    have := book_lt g hi (i := j) (by omega)
    simp; omega
  · rw [List.filter_eq_self]
    intro b hb
    obtain ⟨j, hj, rfl⟩ := List.mem_iff_getElem.1 hb
    rw [List.length_drop] at hj
    rw [List.getElem_drop]
    have := book_lt g (i := i) (j := i + 1 + j) (by omega) (by omega)
    simp; omega
set_option maxHeartbeats 2000000 in
theorem sCloseAccount_c (hS10 : Has F tS10) (hf : h.floor ≤ h.next) (w : SlR 11 (Fl Account.enc) h x xs fp) (id : Int) (hok : ∀ t, t ∈ xs → t.Ok) (sm : xs.length ≤ 1048576) :
    ∃ y h' fq, call F Z 324 [.agg [x], .c (.int .u64 id)] h = some (.tup [.agg [y], .c (.int .i64 (bookDo xs id closeF).2)], h') ∧ On h h' ∧ SlR 11 (Fl Account.enc) h' y (bookDo xs id closeF).1 fq ∧ Fre h fq := by
  have e1 := l10Of_run (Z := Z) hS10 w id 1 hok
  obtain ⟨y, h2, fq, e2, o2, w2, f2⟩ := l10Copy_c (Z := Z) hS10 hf w sm
  have z0 : ((0 : Int) != 0) = false := rfl
  have z1 : ((1 : Int) != 0) = true := rfl
  have z2 : ((2 : Int) != 0) = true := rfl
  have hle := w.le2
  have hwl := w.len
  rw [call_run F Z (hS10.lk (g := 324) rfl) _ _ rfl]
  cases hb : bookOk xs with
  | false =>
    rw [of_bad hb] at e1
    rw [do_bad hb]
    simp only [Account.enc, Account.none_] at e1
    simp only [rn, RO.dst, lk, drop, Nat.reduceBEq, Nat.reduceAdd, Nat.reduceLeDiff, ↓reduceIte, reduceCtorEq, z0, z1, z2, e1, e2]
    exact ⟨_, _, _, rfl, o2, w2, f2⟩
  | true =>
    have ht : ¬ (1 : Int) < 1 := by omega
    rcases acc_found hb id with ⟨q1, _⟩ | ⟨i, q1, _, _, hi, q5⟩
    · rw [of_none hb ht q1] at e1
      rw [do_none hb q1]
      simp only [Account.enc, Account.none_] at e1
      simp only [rn, RO.dst, lk, drop, Nat.reduceBEq, Nat.reduceAdd, Nat.reduceLeDiff, ↓reduceIte, reduceCtorEq, z0, z1, z2, e1, e2]
      exact ⟨_, _, _, rfl, o2, w2, f2⟩
    · rw [of_at hb ht q1] at e1
      rw [do_at hb q1]
      have hfe := filter_erase hb hi
      rw [Account.at_get hi] at e1 q5 ⊢
      rw [q5] at hfe
      simp only [Account.enc] at e1
      generalize xs[i] = a at *
      by_cases c1 : a.tx = 0
      · have c1' : (a.tx != 0) = false := by simpa using c1
        by_cases c2 : a.bal = 0
        · have c2' : (a.bal != 0) = false := by simpa using c2
          have hd : closeF a = (0, { a with tx := -1 }) := by simp [closeF, c1, c2]
          rw [hd]
          simp only [beq_self_eq_true, cond_true]
          simp only [rn, RO.dst, lk, drop, Nat.reduceBEq, Nat.reduceAdd, Nat.reduceLeDiff, ↓reduceIte, reduceCtorEq, z0, z1, z2, e1, c1', c2']
          obtain ⟨s', ⟨y, g, hs, ac⟩, lp⟩ := loop_goes (F := F) (Z := Z) (live := [1, 2, 4, 8, 9]) (b := r324L0) xs.length (fun i st => ∃ y g, st = ⟨[(1, .c (.int .u64 id)), (9, .c (.int .i64 (i : Nat)))], [(2, 2, 0), (4, 4, 0), (8, 8, 0)], [(2, [x]), (4, [.nil]), (8, [y])], g⟩ ∧ Acc 11 h g y (((xs.take i).filter (fun b => b.id != id)).map Account.enc)) (fun i st hi' ⟨y, g, hs, ac⟩ => by
            subst hs
            have hlt : (i : Int) < xs.length := by omega
            have hws := wrapS i (by omega)
            have hxi := w.idx hi'
            have hld := (w.on (Fl.ok _) ac.on).load hi'
            have hfn := filter_next (fun b : Account => b.id != id) hi'
            have hfl := filter_len (fun b : Account => b.id != id) xs i
            rw [loop_run]
            conv in (codeF _ _ r324L0 _) => unfold r324L0
            generalize xs[i] = b at *
            simp only [Account.enc] at hld
            cases c : (b.id != id) with
            | true =>
              rw [c] at hfn
              have e3 := ac.one_eq hf (bytes := 40) (by rw [List.length_map]; omega) b.enc
              have a2 := ac.one hf (by rw [List.length_map]; omega) b.enc
              rw [show ((xs.take i).filter (fun b => b.id != id)).map Account.enc ++ [b.enc] = ((xs.take (i + 1)).filter (fun b => b.id != id)).map Account.enc from by rw [hfn]; simp] at a2
              simp only [Account.enc] at e3 a2
              simp only [rn, RO.dst, lk, drop, Nat.reduceBEq, Nat.reduceAdd, Nat.reduceLeDiff, ↓reduceIte, reduceCtorEq, hwl, hlt, hxi, hld, c, List.replicate_succ, List.replicate_zero, fills, and_self, Nat.zero_lt_one, List.set_cons_zero, e3, hws, Account.enc]
              exact ⟨_, ⟨_, _, rfl, a2⟩, rfl⟩
            | false =>
              rw [c] at hfn
              rw [show (xs.take i).filter (fun b => b.id != id) = (xs.take (i + 1)).filter (fun b => b.id != id) from by rw [hfn]; simp] at ac
              simp only [rn, RO.dst, lk, drop, Nat.reduceBEq, Nat.reduceAdd, Nat.reduceLeDiff, ↓reduceIte, reduceCtorEq, hwl, hlt, hxi, hld, c, hws]
              exact ⟨_, ⟨_, _, rfl, ac⟩, rfl⟩) (s := ⟨[(1, .c (.int .u64 id)), (9, .c (.int .i64 (0 : Nat)))], [(2, 2, 0), (4, 4, 0), (8, 8, 0)], [(2, [x]), (4, [.nil]), (8, [.nil])], h⟩) ⟨_, _, rfl, by simpa using Acc.nil 11 h⟩
          subst hs
          rw [List.take_length, hfe] at ac
          obtain ⟨o3, fr, w3, f3⟩ := ac.flat (enc := Account.enc)
          simp only [show ((0 : Nat) : Int) = 0 from rfl] at lp
          have hlt : ¬ (xs.length : Int) < xs.length := by omega
          rw [lp, loop_run]
          conv in (codeF _ _ r324L0 _) => unfold r324L0
          simp only [rn, RO.dst, lk, drop, Nat.reduceBEq, Nat.reduceAdd, Nat.reduceLeDiff, ↓reduceIte, reduceCtorEq, hwl, hlt]
          exact ⟨_, _, _, rfl, o3, w3, f3⟩
        · have c2' : (a.bal != 0) = true := by simpa using c2
          have hd : closeF a = (4, a) := by simp [closeF, c1, c2]
          rw [hd]
          have h0 : ((4 : Int) == 0) = false := rfl
          simp only [h0, cond_false]
          simp only [rn, RO.dst, lk, drop, Nat.reduceBEq, Nat.reduceAdd, Nat.reduceLeDiff, ↓reduceIte, reduceCtorEq, z0, z1, z2, e1, c1', c2', e2]
          exact ⟨_, _, _, rfl, o2, w2, f2⟩
      · have c1' : (a.tx != 0) = true := by simpa using c1
        have hd : closeF a = (6, a) := by simp [closeF, c1]
        rw [hd]
        have h0 : ((6 : Int) == 0) = false := rfl
        simp only [h0, cond_false]
        simp only [rn, RO.dst, lk, drop, Nat.reduceBEq, Nat.reduceAdd, Nat.reduceLeDiff, ↓reduceIte, reduceCtorEq, z0, z1, z2, e1, c1', e2]
        exact ⟨_, _, _, rfl, o2, w2, f2⟩
end
end Go.Proofs.YtahkgghifaodoaaGreat.A
namespace Go.Proofs.YtahkgghifaodoaaGreat.A
open Go
set_option linter.unusedSimpArgs false
set_option linter.unusedVariables false
def Account.new (id : Int) : Account := ⟨id, 0, 0, 0, 0⟩
def plusAcc (xs : List Account) (id : Int) : List Account := xs.take (accGo xs id) ++ [Account.new id] ++ xs.drop (accGo xs id)
def openBook (xs : List Account) (id : Int) : List Account × Int := bif bookOk xs then (bif decide (0 ≤ accAt xs id) then (xs, 3) else (bif (xs.length : Int) == 40 then (xs, 1) else (plusAcc xs id, 0))) else (xs, 1)
section
variable {xs : List Account} {id : Int}
theorem open_bad (h : bookOk xs = false) : openBook xs id = (xs, 1) := by simp [openBook, h]
theorem open_there (h : bookOk xs = true) {i : Nat} (h2 : accAt xs id = (i : Int)) : openBook xs id = (xs, 3) := by simp [openBook, h, h2]
theorem open_full (h : bookOk xs = true) (h2 : accAt xs id = -1) (h3 : ((xs.length : Int) == 40) = true) : openBook xs id = (xs, 1) := by simp [openBook, h, h2, h3]
theorem open_new (h : bookOk xs = true) (h2 : accAt xs id = -1) (h3 : ((xs.length : Int) == 40) = false) : openBook xs id = (plusAcc xs id, 0) := by simp [openBook, h, h2, h3]
theorem plusAcc_len (xs : List Account) (id : Int) : (plusAcc xs id).length = xs.length + 1 := by
  have := accGo_le xs id
  simp only [plusAcc, List.length_append, List.length_take, List.length_drop, List.length_cons, List.length_nil]; omega
theorem openBook_len : (openBook xs id).1.length ≤ xs.length + 1 := by
  unfold openBook
  cases bookOk xs <;> simp only [cond_true, cond_false]
  · omega
  cases decide (0 ≤ accAt xs id) <;> simp only [cond_true, cond_false]
  · cases ((xs.length : Int) == 40) <;> simp only [cond_true, cond_false]
    · rw [plusAcc_len]; exact Nat.le_refl _
    · omega
  · omega
theorem acc_gt (g : bookOk xs = true) (hn : accAt xs id = -1) {i : Nat} (hi : i < xs.length) : xs[i].id > id ↔ accGo xs id ≤ i := by
  have hne : xs[i].id ≠ id := fun hc => by
    rcases acc_found g id with ⟨_, h2⟩ | ⟨j, h1, _⟩
    · unfold accAt findI at hn
      split at hn
      · omega
      · rename_i hf
        rw [List.findIdx?_eq_none_iff] at hf
        have := hf _ (List.getElem_mem hi)
        simp [hc] at this
    · omega
  constructor
  · intro h
    rcases Nat.lt_or_ge i (accGo xs id) with h1 | h1
    · have := accGo_lt id xs i h1 hi; omega
    · exact h1
  · intro h
    have hk : accGo xs id < xs.length := by omega
    have h1 := accGo_end id xs hk
    rcases Nat.eq_or_lt_of_le h with h2 | h2
    · subst h2; omega
    · have := book_lt g hi h2; omega
theorem plusAcc_srt (g : bookOk xs = true) (hn : accAt xs id = -1) : Srt (plusAcc xs id) := by
  have hs := book_srt g
  have e : xs = xs.take (accGo xs id) ++ xs.drop (accGo xs id) := (List.take_append_drop _ _).symm
  have hs' := hs
  unfold Srt at hs' ⊢
  rw [e, List.pairwise_append] at hs'
  obtain ⟨h1, h2, h3⟩ := hs'
  unfold plusAcc
  rw [List.append_assoc, List.pairwise_append]
  refine ⟨h1, ?_, fun a ha b hb => ?_⟩
  · rw [List.singleton_append, List.pairwise_cons]
    refine ⟨fun b hb => ?_, h2⟩
    obtain ⟨j, hj, rfl⟩ := List.mem_iff_getElem.1 hb
    rw [List.length_drop] at hj
    rw [List.getElem_drop]
    have := (acc_gt g hn (i := accGo xs id + j) (by omega)).2 (by omega)
    simpa [Account.new] using this
  · rcases List.mem_append.1 hb with hb | hb
    · simp only [List.mem_singleton] at hb
      subst hb
      obtain ⟨j, hj, rfl⟩ := List.mem_iff_getElem.1 ha
      rw [List.length_take] at hj
      rw [List.getElem_take]
      exact accGo_lt id xs j (by omega) (by omega)
    · exact h3 a ha b hb
def lpart {α : Type} (xs : List α) (y : α) (k i : Nat) : List α := if k < i then xs.take k ++ [y] ++ (xs.take i).drop k else xs.take i
section
variable {α : Type} {zs : List α} {y : α}
theorem lpart_no {k i : Nat} (hi : i < zs.length) (h : ¬ k ≤ i) : lpart zs y k (i + 1) = lpart zs y k i ++ [zs[i]] := by
  simp only [lpart]
  rw [if_neg (by omega), if_neg (by omega), List.take_add_one, List.getElem?_eq_getElem hi]; rfl
theorem lpart_at {i : Nat} (hi : i < zs.length) : lpart zs y i (i + 1) = lpart zs y i i ++ [y] ++ [zs[i]] := by
  simp only [lpart]
  rw [if_pos (by omega), if_neg (by omega), List.take_add_one, List.getElem?_eq_getElem hi, List.drop_append_of_le_length (by rw [List.length_take]; omega), List.drop_eq_nil_of_le (by rw [List.length_take]; omega)]; rfl
theorem lpart_yes {k i : Nat} (hi : i < zs.length) (h : k < i) : lpart zs y k (i + 1) = lpart zs y k i ++ [zs[i]] := by
  simp only [lpart]
  rw [if_pos (by omega), if_pos h, List.take_add_one, List.getElem?_eq_getElem hi, List.drop_append_of_le_length (by rw [List.length_take]; omega), ← List.append_assoc]; rfl
theorem lpart_end {k : Nat} (h : k < zs.length) : lpart zs y k zs.length = zs.take k ++ [y] ++ zs.drop k := by
  simp only [lpart]; rw [if_pos h, List.take_length]
theorem lpart_last {k : Nat} (h : k = zs.length) : lpart zs y k zs.length ++ [y] = zs.take k ++ [y] ++ zs.drop k := by
  simp only [lpart]; subst h; rw [if_neg (by omega), List.take_length, List.drop_length, List.append_nil]
theorem lpart_len (zs : List α) (y : α) (k i : Nat) : (lpart zs y k i).length ≤ zs.length + 1 := by
  simp only [lpart]
  split <;> simp only [List.length_append, List.length_take, List.length_drop, List.length_cons, List.length_nil] <;> omega
end
end
section
variable {F : Nat → Option RF} {Z : CallF} {h : Heap} {x : Cell} {xs : List Account} {fp : List Nat}
set_option maxHeartbeats 1000000 in
theorem OpenAccount_c (hI10 : Has F tI10) (pr : PrimAt F Z 343 (insF 11 40)) (hf : h.floor ≤ h.next) (w : SlR 11 (Fl Account.enc) h x xs fp) (id : Int) (hok : ∀ t, t ∈ xs → t.Ok) (sm : xs.length ≤ 1048576) :
    ∃ y h' fq, call F Z 337 [.agg [x], .c (.int .u64 id)] h = some (.tup [.agg [y], .c (.int .i64 (openBook xs id).2)], h') ∧ On h h' ∧ SlR 11 (Fl Account.enc) h' y (openBook xs id).1 fq ∧ Fre h fq := by
  obtain ⟨y, h1, fq, e1, o1, w1, f1⟩ := copyBook_c (Z := Z) hI10 hf w sm
  have wx := w.on (Fl.ok _) o1
  have e2 := isBook_run (Z := Z) hI10 wx hok
  have e3 := accountOf_run (Z := Z) hI10 wx id
  have hwl := w.len
  rw [call_run F Z (hI10.lk (g := 337) rfl) _ _ rfl]
  cases hb : bookOk xs with
  | false =>
    rw [hb] at e2
    rw [open_bad hb]
    simp only [rn, RO.dst, lk, drop, Nat.reduceBEq, Nat.reduceAdd, Nat.reduceLeDiff, ↓reduceIte, reduceCtorEq, e1, e2, e3]
    exact ⟨_, _, _, rfl, o1, w1, f1⟩
  | true =>
    rw [hb] at e2
    rcases acc_found hb id with ⟨q1, q2⟩ | ⟨i, q1, q2, q3, hi, q5⟩
    · rw [q2] at e3
      cases c3 : ((xs.length : Int) == 40) with
      | true =>
        rw [open_full hb q1 c3]
        simp only [rn, RO.dst, lk, drop, Nat.reduceBEq, Nat.reduceAdd, Nat.reduceLeDiff, ↓reduceIte, reduceCtorEq, e1, e2, e3, hwl, c3]
        exact ⟨_, _, _, rfl, o1, w1, f1⟩
      | false =>
        rw [open_new hb q1 c3]
        obtain ⟨L, ndL⟩ := SlR.lit1 (tag := 11) (Fl.ok Account.enc) (h := h1) (cs := (Account.new id).enc) (t := Account.new id) (fp := []) ⟨rfl, rfl⟩ List.nodup_nil
        have o2 := On.push h1 [(Account.new id).enc]
        have w2 := w1.on (Fl.ok _) o2
        have hlt : ∀ j, j ∈ fq → j < h1.next := w1.lt (Fl.ok _)
        have hle := book_len hb
        obtain ⟨z, g, fr, e4, w4, re⟩ := w2.ins (Fl.ok _) f1.nd (f1.own (o1.trans o2) hf) L ndL (fun j hj => by simp only [List.mem_singleton] at hj; subst hj; rw [o2.fl]; exact o1.le hf) (fun j h2 h3 => by simp only [List.mem_singleton] at h2; have := hlt j h3; omega) (by simp) (bytes := 40) (by simp; omega) (by simp [maxLen]; omega) (accGo_le xs id)
        have fA : Fre h (fq ++ [h1.next]) := ⟨fun j hj => by
          rcases List.mem_append.1 hj with h2 | h2
          · exact f1.lo j h2
          · simp only [List.mem_singleton] at h2; subst h2; exact o1.ext.1, List.nodup_append.2 ⟨f1.nd, by simp, fun a ha b hb e => by simp only [List.mem_singleton] at hb; have := hlt a ha; omega⟩⟩
        simp only [Account.enc, Account.new] at e4
        simp only [rn, RO.dst, lk, drop, Nat.reduceBEq, Nat.reduceAdd, Nat.reduceLeDiff, ↓reduceIte, reduceCtorEq, e1, e2, e3, hwl, c3, List.replicate_succ, List.replicate_zero, fills, and_self, Nat.zero_lt_one, List.set_cons_zero, pr _ _, e4]
        exact ⟨_, _, _, rfl, re.on (o1.trans o2) fA, w4, re.fre (o1.trans o2) fA⟩
    · rw [q2] at e3
      rw [open_there hb q1]
      simp only [rn, RO.dst, lk, drop, Nat.reduceBEq, Nat.reduceAdd, Nat.reduceLeDiff, ↓reduceIte, reduceCtorEq, e1, e2, e3]
      exact ⟨_, _, _, rfl, o1, w1, f1⟩
set_option maxHeartbeats 2000000 in
theorem sOpenAccount_c (hS10 : Has F tS10) (hf : h.floor ≤ h.next) (w : SlR 11 (Fl Account.enc) h x xs fp) (id : Int) (hok : ∀ t, t ∈ xs → t.Ok) (sm : xs.length ≤ 1048576) :
    ∃ y h' fq, call F Z 323 [.agg [x], .c (.int .u64 id)] h = some (.tup [.agg [y], .c (.int .i64 (openBook xs id).2)], h') ∧ On h h' ∧ SlR 11 (Fl Account.enc) h' y (openBook xs id).1 fq ∧ Fre h fq := by
  obtain ⟨y, h1, fq, e1, o1, w1, f1⟩ := l10Copy_c (Z := Z) hS10 hf w sm
  have e2 := sBookOk_run (Z := Z) hS10 w hok
  have e3 := l10Find_run (Z := Z) hS10 w id
  have hwl := w.len
  have hle := w.le2
  rw [call_run F Z (hS10.lk (g := 323) rfl) _ _ rfl]
  cases hb : bookOk xs with
  | false =>
    rw [hb] at e2
    rw [open_bad hb]
    simp only [rn, RO.dst, lk, drop, Nat.reduceBEq, Nat.reduceAdd, Nat.reduceLeDiff, ↓reduceIte, reduceCtorEq, e1, e2, e3]
    exact ⟨_, _, _, rfl, o1, w1, f1⟩
  | true =>
    rw [hb] at e2
    rcases acc_found hb id with ⟨q1, q2⟩ | ⟨i, q1, q2, q3, hi, q5⟩
    · rw [q1] at e3
      cases c3 : ((xs.length : Int) == 40) with
      | true =>
        rw [open_full hb q1 c3]
        simp only [rn, RO.dst, lk, drop, Nat.reduceBEq, Nat.reduceAdd, Nat.reduceLeDiff, ↓reduceIte, reduceCtorEq, e1, e2, e3, hwl, c3, ge_iff_le, Int.reduceLE, Int.reduceNeg]
        exact ⟨_, _, _, rfl, o1, w1, f1⟩
      | false =>
        rw [open_new hb q1 c3]
        clear e1 o1 w1 f1
        simp only [rn, RO.dst, lk, drop, Nat.reduceBEq, Nat.reduceAdd, Nat.reduceLeDiff, ↓reduceIte, reduceCtorEq, e2, e3, hwl, c3, ge_iff_le, Int.reduceLE, Int.reduceNeg]
        obtain ⟨s', ⟨y, g, hs, a⟩, lp⟩ := loop_goes (F := F) (Z := Z) (live := [1, 2, 4, 6, 7, 8]) (b := r323L0) xs.length (fun i st => ∃ y g, st = ⟨[(1, .c (.int .u64 id)), (7, .c (.bool (decide (accGo xs id < i)))), (8, .c (.int .i64 (i : Nat)))], [(2, 2, 0), (4, 4, 0), (6, 6, 0)], [(2, [x]), (4, [.nil]), (6, [y])], g⟩ ∧ Acc 11 h g y ((lpart xs (Account.new id) (accGo xs id) i).map Account.enc)) (fun i st hi ⟨y, g, hs, a⟩ => by
          subst hs
          have hlt : (i : Int) < xs.length := by omega
          have hws := wrapS i (by omega)
          have hxi := w.idx hi
          have hgt := acc_gt hb q1 hi
          have hpl := lpart_len xs (Account.new id) (accGo xs id) i
          have hld := (w.on (Fl.ok _) a.on).load hi
          rw [loop_run]
          conv in (codeF _ _ r323L0 _) => unfold r323L0
          by_cases hp : accGo xs id < i
          · have e3 := a.one_eq hf (bytes := 40) (by rw [List.length_map]; omega) xs[i].enc
            have a2 := a.one hf (by rw [List.length_map]; omega) xs[i].enc
            rw [show (lpart xs (Account.new id) (accGo xs id) i).map Account.enc ++ [xs[i].enc] = (lpart xs (Account.new id) (accGo xs id) (i + 1)).map Account.enc from by rw [lpart_yes hi hp]; simp] at a2
            have hd1 : decide (accGo xs id < i) = true := by simpa using hp
            have hd2 : decide (accGo xs id < i + 1) = true := by simp; omega
            simp only [Account.enc] at hld e3 a2
            simp only [rn, RO.dst, lk, drop, Nat.reduceBEq, Nat.reduceAdd, Nat.reduceLeDiff, ↓reduceIte, reduceCtorEq, hwl, hlt, hxi, hd1, hd2, hld, List.replicate_succ, List.replicate_zero, fills, and_self, Nat.zero_lt_one, List.set_cons_zero, e3, hws, Account.enc]
            exact ⟨_, ⟨_, _, rfl, a2⟩, rfl⟩
          · have hd1 : decide (accGo xs id < i) = false := by simpa using hp
            by_cases hq : accGo xs id = i
            · have hgt' : xs[i].id > id := hgt.2 (by omega)
              have e3 := a.one_eq hf (bytes := 40) (by rw [List.length_map]; omega) (Account.new id).enc
              have a2 := a.one hf (by rw [List.length_map]; omega) (Account.new id).enc
              have hld2 := (w.on (Fl.ok _) a2.on).load hi
              have e4 := a2.one_eq hf (bytes := 40) (by simp; omega) xs[i].enc
              have a3 := a2.one hf (by simp; omega) xs[i].enc
              rw [show (lpart xs (Account.new id) (accGo xs id) i).map Account.enc ++ [(Account.new id).enc] ++ [xs[i].enc] = (lpart xs (Account.new id) (accGo xs id) (i + 1)).map Account.enc from by rw [hq, lpart_at hi]; simp] at a3
              have hd2 : decide (accGo xs id < i + 1) = true := by simp; omega
              simp only [Account.enc, Account.new] at hld hld2 e3 e4 a3
              simp only [rn, RO.dst, lk, drop, Nat.reduceBEq, Nat.reduceAdd, Nat.reduceLeDiff, ↓reduceIte, reduceCtorEq, hwl, hlt, hxi, hd1, hd2, hld, hgt', List.replicate_succ, List.replicate_zero, fills, and_self, Nat.zero_lt_one, List.set_cons_zero, e3, hld2, e4, hws, Account.enc, Account.new]
              exact ⟨_, ⟨_, _, rfl, a3⟩, rfl⟩
            · have hgt' : ¬ xs[i].id > id := fun hc => by have := hgt.1 hc; omega
              have e3 := a.one_eq hf (bytes := 40) (by rw [List.length_map]; omega) xs[i].enc
              have a2 := a.one hf (by rw [List.length_map]; omega) xs[i].enc
              rw [show (lpart xs (Account.new id) (accGo xs id) i).map Account.enc ++ [xs[i].enc] = (lpart xs (Account.new id) (accGo xs id) (i + 1)).map Account.enc from by rw [lpart_no hi (by omega)]; simp] at a2
              have hd2 : decide (accGo xs id < i + 1) = false := by simp; omega
              simp only [Account.enc] at hld e3 a2
              simp only [rn, RO.dst, lk, drop, Nat.reduceBEq, Nat.reduceAdd, Nat.reduceLeDiff, ↓reduceIte, reduceCtorEq, hwl, hlt, hxi, hd1, hd2, hld, hgt', List.replicate_succ, List.replicate_zero, fills, and_self, Nat.zero_lt_one, List.set_cons_zero, e3, hws, Account.enc]
              exact ⟨_, ⟨_, _, rfl, a2⟩, rfl⟩) (s := ⟨[(1, .c (.int .u64 id)), (7, .c (.bool false)), (8, .c (.int .i64 (0 : Nat)))], [(2, 2, 0), (4, 4, 0), (6, 6, 0)], [(2, [x]), (4, [.nil]), (6, [.nil])], h⟩) ⟨.nil, h, by simp, by simpa [lpart] using Acc.nil 11 h⟩
        subst hs
        simp only [show ((0 : Nat) : Int) = 0 from rfl] at lp
        have hlt : ¬ (xs.length : Int) < xs.length := by omega
        rw [lp, loop_run]
        conv in (codeF _ _ r323L0 _) => unfold r323L0
        by_cases hp : accGo xs id < xs.length
        · rw [lpart_end hp] at a
          obtain ⟨o3, fr, w3, f3⟩ := a.flat (enc := Account.enc)
          have hd1 : decide (accGo xs id < xs.length) = true := by simpa using hp
          simp only [rn, RO.dst, lk, drop, Nat.reduceBEq, Nat.reduceAdd, Nat.reduceLeDiff, ↓reduceIte, reduceCtorEq, hwl, hlt, hd1]
          exact ⟨_, _, _, rfl, o3, w3, f3⟩
        · have hp' : accGo xs id = xs.length := by have := accGo_le xs id; omega
          have hpl := lpart_len xs (Account.new id) (accGo xs id) xs.length
          have hl40 := book_len hb
          have e3 := a.one_eq hf (bytes := 40) (by rw [List.length_map]; omega) (Account.new id).enc
          have a2 := a.one hf (by rw [List.length_map]; omega) (Account.new id).enc
          rw [show (lpart xs (Account.new id) (accGo xs id) xs.length).map Account.enc ++ [(Account.new id).enc] = (plusAcc xs id).map Account.enc from by rw [plusAcc, ← lpart_last hp']; simp] at a2
          obtain ⟨o3, fr, w3, f3⟩ := a2.flat (enc := Account.enc)
          have hd1 : decide (accGo xs id < xs.length) = false := by simpa using hp
          simp only [Account.enc, Account.new] at e3 o3 w3
          simp only [rn, RO.dst, lk, drop, Nat.reduceBEq, Nat.reduceAdd, Nat.reduceLeDiff, ↓reduceIte, reduceCtorEq, hwl, hlt, hd1, List.replicate_succ, List.replicate_zero, fills, and_self, Nat.zero_lt_one, List.set_cons_zero, e3]
          exact ⟨_, _, _, rfl, o3, w3, f3⟩
    · rw [q1] at e3
      rw [open_there hb q1]
      have g0 : (i : Int) ≥ 0 := by omega
      simp only [rn, RO.dst, lk, drop, Nat.reduceBEq, Nat.reduceAdd, Nat.reduceLeDiff, ↓reduceIte, reduceCtorEq, e1, e2, e3, g0]
      exact ⟨_, _, _, rfl, o1, w1, f1⟩
end
end Go.Proofs.YtahkgghifaodoaaGreat.A
namespace Go.Proofs.YtahkgghifaodoaaGreat.A
open Go
set_option linter.unusedSimpArgs false
set_option linter.unusedVariables false
def Shard.head (s : Shard) : Bool := decide (s.lo ≤ s.hi) && ((s.state == 0 || s.state == 1) && (inR s.epoch 1 1000000 && (bookOk s.book.list && decide ((s.finished.length : Int) ≤ 60))))
def Shard.good (s : Shard) : Bool := s.head && (s.book.list.all s.acc && (List.range s.finished.length).all s.finAt)
section
variable {F : Nat → Option RF} {Z : CallF} {h : Heap} {cs : List Cell} {s : Shard} {fp : List Nat}
set_option maxHeartbeats 4000000 in
theorem isShard_run (hI10 : Has F tI10) (hI13 : Has F tI13) (h1 : Has F tLibcmpCompareint) (h2 : Has F tLibcmpCompareuint64) (h3 : Has F tLibcmpOrint) (h4 : Has F tLibcmpisNaNint) (h5 : Has F tLibcmpisNaNuint64) (hL : Has F tLibslicesIndeximplFinimplFin) (hC : Has F tLibslicesContainsimplFinimplFin)
    (v : Shard.RI h cs s fp) (ok : s.Ok) : ∃ h', call F Z 244 [.agg cs] h = some (.c (.bool s.good), h') ∧ On h h' := by
  obtain ⟨x, p, y, q, rfl, rfl, w, u⟩ := v
  have hB := isBook_run (Z := Z) hI10 w ok.book.list
  have ka := isShard_accs (Z := Z) (s := s) hL hC w u
  have kf := isShard_fins (Z := Z) (s := s) (x := x) hI13 h1 h2 h3 h4 h5 u
  have l1 := w.len
  have l2 := u.len
  have n1 : ¬ (s.book.list.length : Int) < s.book.list.length := by omega
  have n2 : ¬ (s.finished.length : Int) < s.finished.length := by omega
  clear w u
  rw [call_run F Z (hI13.lk (g := 244) rfl) _ _ rfl]
  simp only [show ((0 : Nat) : Int) = 0 from rfl] at ka kf
  cases hd : s.head with
  | false =>
    have hg : s.good = false := by simp [Shard.good, hd]
    rw [hg]
    simp only [rn, RO.dst, lk, drop, Nat.reduceBEq, Nat.reduceAdd, Nat.reduceLeDiff, ↓reduceIte, reduceCtorEq, hB, l2]
    clear ka kf
    (repeat' ((first | (rw [gF_if]; split) | (rw [condC_if]; split) | (rw [pickR_if]; split)) <;> (rename_i hh; (try simp only [Bool.not_eq_true, decide_eq_true_eq] at hh); simp only [hh, rn, RO.dst, lk, drop, Nat.reduceBEq, Nat.reduceAdd, Nat.reduceLeDiff, ↓reduceIte, reduceCtorEq, hB, l2, l1])))
    all_goals clear hB l1 l2
    all_goals first
      | exact ⟨_, rfl, On.refl h⟩
      | (exfalso; simp_all [Shard.head, inR]; done)
      | (exfalso; simp_all [Shard.head, inR]; omega)
  | true =>
    have hg : s.good = (s.book.list.all s.acc && (List.range s.finished.length).all s.finAt) := by simp [Shard.good, hd]
    rw [hg]
    simp only [Shard.head, Bool.and_eq_true, decide_eq_true_eq, Bool.or_eq_true, beq_iff_eq, inR] at hd
    obtain ⟨d1, d2, ⟨d3, d4⟩, d5, d6⟩ := hd
    rw [d5] at hB
    have c1 : ¬ s.lo > s.hi := by omega
    have c3 : ¬ s.epoch < 1 := by omega
    have c4 : ¬ s.epoch > 1000000 := by omega
    have c6 : ¬ (s.finished.length : Int) > 60 := by omega
    have c2 : (s.state != 0) = false ∨ ((s.state != 0) = true ∧ (s.state != 1) = false) := by
      rcases d2 with d2 | d2 <;> simp [d2]
    rcases c2 with c2 | ⟨c2, c2'⟩
    · simp only [rn, RO.dst, lk, drop, Nat.reduceBEq, Nat.reduceAdd, Nat.reduceLeDiff, ↓reduceIte, reduceCtorEq, hB, l1, l2, c1, c2, c3, c4, c6]
      rcases ka with ⟨a1, a2⟩ | ⟨a1, s', a2, a3, a4⟩
      · rw [a2, loop_run]
        conv in (codeF _ _ r244L1 _) => unfold r244L1
        simp only [rn, RO.dst, lk, drop, Nat.reduceBEq, Nat.reduceAdd, Nat.reduceLeDiff, ↓reduceIte, reduceCtorEq, n1, l2]
        rcases kf with ⟨s'', ⟨g, hs, og, hall⟩, e⟩ | ⟨s'', e, b1, b2, j, hj, b3⟩
        · subst hs
          rw [e, loop_run]
          conv in (codeF _ _ r244L0 _) => unfold r244L0
          simp only [rn, RO.dst, lk, drop, Nat.reduceBEq, Nat.reduceAdd, Nat.reduceLeDiff, ↓reduceIte, reduceCtorEq, n2]
          have ha : (List.range s.finished.length).all s.finAt = true := List.all_eq_true.2 fun j hj => hall j (by simpa using hj)
          exact ⟨_, by rw [a1, ha]; rfl, og⟩
        · rw [e]
          simp only [rn, RO.dst, lk, drop, Nat.reduceBEq, Nat.reduceAdd, Nat.reduceLeDiff, ↓reduceIte, reduceCtorEq, b1]
          have ha : (List.range s.finished.length).all s.finAt = false := by
            rw [List.all_eq_false]
            exact ⟨j, by simpa using hj, by simp [b3]⟩
          exact ⟨_, by rw [a1, ha]; rfl, b2⟩
      · rw [a2]
        simp only [rn, RO.dst, lk, drop, Nat.reduceBEq, Nat.reduceAdd, Nat.reduceLeDiff, ↓reduceIte, reduceCtorEq, a3, a4]
        exact ⟨_, by rw [a1]; rfl, On.refl h⟩
    · simp only [rn, RO.dst, lk, drop, Nat.reduceBEq, Nat.reduceAdd, Nat.reduceLeDiff, ↓reduceIte, reduceCtorEq, hB, l1, l2, c1, c2, c2', c3, c4, c6]
      rcases ka with ⟨a1, a2⟩ | ⟨a1, s', a2, a3, a4⟩
      · rw [a2, loop_run]
        conv in (codeF _ _ r244L1 _) => unfold r244L1
        simp only [rn, RO.dst, lk, drop, Nat.reduceBEq, Nat.reduceAdd, Nat.reduceLeDiff, ↓reduceIte, reduceCtorEq, n1, l2]
        rcases kf with ⟨s'', ⟨g, hs, og, hall⟩, e⟩ | ⟨s'', e, b1, b2, j, hj, b3⟩
        · subst hs
          rw [e, loop_run]
          conv in (codeF _ _ r244L0 _) => unfold r244L0
          simp only [rn, RO.dst, lk, drop, Nat.reduceBEq, Nat.reduceAdd, Nat.reduceLeDiff, ↓reduceIte, reduceCtorEq, n2]
          have ha : (List.range s.finished.length).all s.finAt = true := List.all_eq_true.2 fun j hj => hall j (by simpa using hj)
          exact ⟨_, by rw [a1, ha]; rfl, og⟩
        · rw [e]
          simp only [rn, RO.dst, lk, drop, Nat.reduceBEq, Nat.reduceAdd, Nat.reduceLeDiff, ↓reduceIte, reduceCtorEq, b1]
          have ha : (List.range s.finished.length).all s.finAt = false := by
            rw [List.all_eq_false]
            exact ⟨j, by simpa using hj, by simp [b3]⟩
          exact ⟨_, by rw [a1, ha]; rfl, b2⟩
      · rw [a2]
        simp only [rn, RO.dst, lk, drop, Nat.reduceBEq, Nat.reduceAdd, Nat.reduceLeDiff, ↓reduceIte, reduceCtorEq, a3, a4]
        exact ⟨_, by rw [a1]; rfl, On.refl h⟩
end
end Go.Proofs.YtahkgghifaodoaaGreat.A
namespace Go.Proofs.YtahkgghifaodoaaGreat.A
open Go
set_option linter.unusedSimpArgs false
set_option linter.unusedVariables false
theorem cmpFin_lt (f g : Fin) : decide (cmpFin f g < 0) = (decide (f.tx < g.tx) || (f.tx == g.tx && decide (f.id < g.id))) := by
  unfold cmpFin orI
  by_cases h1 : f.tx < g.tx
  · have e : cmpI f.tx g.tx = -1 := by simp [cmpI, h1]
    rw [if_neg (by rw [e]; decide), e]
    simp [h1]
  · by_cases h2 : g.tx < f.tx
    · have e : cmpI f.tx g.tx = 1 := by simp [cmpI, h1, h2]
      rw [if_neg (by rw [e]; decide), e]
      have : (f.tx == g.tx) = false := by simp; omega
      simp [h1, this]
    · have e : cmpI f.tx g.tx = 0 := by simp [cmpI, h1, h2]
      rw [if_pos e]
      have ht : (f.tx == g.tx) = true := by simp; omega
      by_cases h3 : f.id < g.id
      · have e3 : cmpI f.id g.id = -1 := by simp [cmpI, h3]
        rw [e3]; simp [h1, ht, h3]
      · have e3 : ¬ cmpI f.id g.id < 0 := by
          unfold cmpI
          rw [if_neg h3]
          split <;> omega
        simp [e3, h1, h3]
section
variable {F : Nat → Option RF} {Z : CallF} {h : Heap} {x : Cell} {xs : List Fin} {fp : List Nat}
theorem l13Before_run (hS13 : Has F tS13) (f g : Fin) (h : Heap) : call F Z 242 [.agg f.enc, .agg g.enc] h = some (.c (.bool (decide (cmpFin f g < 0))), h) := by
  rw [cmpFin_lt]
  obtain ⟨t, d⟩ := f
  obtain ⟨t', d'⟩ := g
  rw [call_run F Z (hS13.lk (g := 242) rfl) _ _ rfl]
  simp only [Fin.enc, rn, RO.dst, lk, drop, Nat.reduceBEq, Nat.reduceAdd, Nat.reduceLeDiff, ↓reduceIte, reduceCtorEq]
  (repeat' ((first | (rw [gF_if]; split) | (rw [condC_if]; split) | (rw [pickR_if]; split)) <;> (rename_i hh; (try simp only [Bool.not_eq_true, decide_eq_true_eq] at hh); simp only [hh, rn, RO.dst, lk, drop, Nat.reduceBEq, Nat.reduceAdd, Nat.reduceLeDiff, ↓reduceIte, reduceCtorEq]))) <;> refine fin_bool ?_ <;> simp_all <;> omega
theorem l13Has_run (hS13 : Has F tS13) (w : SlR 9 (Fl Fin.enc) h x xs fp) (f : Fin) : call F Z 243 [.c x, .agg f.enc] h = some (.c (.bool (decide (f ∈ xs))), h) := by
  have hle := w.le2
  have hwl := w.len
  rw [call_run F Z (hS13.lk (g := 243) rfl) _ _ rfl]
  simp only [rn, RO.dst, lk, drop, Nat.reduceBEq, Nat.reduceAdd, Nat.reduceLeDiff, ↓reduceIte, reduceCtorEq]
  have key := loop_find (F := F) (Z := Z) (live := [0, 3, 5]) (b := r243L0) xs (fun a => decide (a = f)) (fun i => ⟨[(0, .c x), (5, .c (.int .i64 (i : Nat)))], [(3, 3, 0)], [(3, f.enc)], h⟩) (fun i s => lk s.env 4 = some (.c (.bool true)) ∧ s.hp = h) fun i hi => by
    have hlt : (i : Int) < xs.length := by omega
    have hws := wrapS i (by omega)
    have hxi := w.idx hi
    have hld := w.load hi
    generalize xs[i] = a at *
    obtain ⟨t, d⟩ := a
    obtain ⟨t', d'⟩ := f
    rw [loop_run]
    conv in (codeF _ _ r243L0 _) => unfold r243L0
    have fe := fin_eqs t d t' d'
    simp only [rn, RO.dst, lk, drop, Nat.reduceBEq, Nat.reduceAdd, Nat.reduceLeDiff, ↓reduceIte, reduceCtorEq, hwl, hlt, hxi, hld, Fin.enc, fe]
    clear hxi hld fe w
    (repeat' ((first | (rw [gF_if]; split) | (rw [condC_if]; split) | (rw [pickR_if]; split)) <;> (rename_i hh; (try simp only [Bool.not_eq_true, decide_eq_true_eq] at hh); simp only [hh, rn, RO.dst, lk, drop, Nat.reduceBEq, Nat.reduceAdd, Nat.reduceLeDiff, ↓reduceIte, reduceCtorEq, hws]))) <;> first
      | exact .inl ⟨by simp_all, rfl⟩
      | exact .inr ⟨by simp_all, _, rfl, rfl, rfl⟩
  have hlt : ¬ (xs.length : Int) < xs.length := by omega
  simp only [show ((0 : Nat) : Int) = 0 from rfl] at key
  rcases key with ⟨k1, k2⟩ | ⟨i, k1, hi, s, k2, k3, k4⟩
  · rw [k2, loop_run]
    conv in (codeF _ _ r243L0 _) => unfold r243L0
    rw [List.findIdx?_eq_none_iff] at k1
    have : ¬ f ∈ xs := fun hm => by simpa using k1 f hm
    simp only [rn, RO.dst, lk, drop, Nat.reduceBEq, Nat.reduceAdd, Nat.reduceLeDiff, ↓reduceIte, reduceCtorEq, hwl, hlt, this]
  · rw [k2]
    rw [List.findIdx?_eq_some_iff_getElem] at k1
    obtain ⟨hi, h2, _⟩ := k1
    have : f ∈ xs := by
      have : xs[i] = f := by simpa using h2
      rw [← this]; exact List.getElem_mem hi
    simp only [rn, RO.dst, lk, drop, Nat.reduceBEq, Nat.reduceAdd, Nat.reduceLeDiff, ↓reduceIte, reduceCtorEq, k3, k4, this]
end
end Go.Proofs.YtahkgghifaodoaaGreat.A
namespace Go.Proofs.YtahkgghifaodoaaGreat.A
open Go
set_option linter.unusedSimpArgs false
set_option linter.unusedVariables false
def Fin.pr (f : Fin) : Int × Int := (f.tx, f.id)
def un2 (x : Int × Int) : Fin := ⟨x.1, x.2⟩
def sortFins (xs : List Fin) : List Fin := (sort2 (xs.map Fin.pr)).map un2
def flt (f g : Fin) : Prop := f.tx < g.tx ∨ (f.tx = g.tx ∧ f.id < g.id)
instance (f g : Fin) : Decidable (flt f g) := inferInstanceAs (Decidable (_ ∨ _))
theorem cmp_flt (f g : Fin) : decide (cmpFin f g < 0) = decide (flt f g) := by
  rw [cmpFin_lt]
  unfold flt
  by_cases h1 : f.tx < g.tx <;> by_cases h2 : f.tx = g.tx <;> by_cases h3 : f.id < g.id <;> simp [h1, h2, h3]
theorem flt.trans {f g k : Fin} (h : flt f g) (h2 : flt g k) : flt f k := by unfold flt at *; omega
theorem flt.tot {f g : Fin} (h : ¬ flt f g) (h2 : f ≠ g) : flt g f := by
  obtain ⟨a, b⟩ := f
  obtain ⟨c, d⟩ := g
  unfold flt at *
  simp only [ne_eq, Fin.mk.injEq] at *
  omega
theorem un2_pr (xs : List Fin) : (xs.map Fin.pr).map un2 = xs := by
  rw [List.map_map]
  exact (List.map_congr_left (fun a _ => rfl)).trans (List.map_id xs)
theorem sortFins_perm (xs : List Fin) : (sortFins xs).Perm xs := by
  have := (sort2_perm (xs.map Fin.pr)).map un2
  rwa [un2_pr] at this
theorem sortFins_len (xs : List Fin) : (sortFins xs).length = xs.length := (sortFins_perm xs).length_eq
theorem sortFins_cells (xs : List Fin) : (sort2 (xs.map Fin.pr)).map enc2 = (sortFins xs).map Fin.enc := by
  unfold sortFins
  rw [List.map_map]
  rfl
theorem decs_fins : ∀ xs : List Fin, decs2 (xs.map Fin.enc) = some (xs.map Fin.pr)
  | [] => rfl
  | x :: xs => by
    simp only [List.map_cons, decs2, decs_fins xs]
    rfl
theorem sortFins_eq {xs ys : List Fin} (p : ys.Perm xs) (s : ys.Pairwise flt) : sortFins xs = ys := by
  have : sort2 (xs.map Fin.pr) = ys.map Fin.pr := by
    unfold sort2
    refine List.Perm.eq_of_pairwise (le := fun x y => (!(ltOf cmp2) y x) = true) ?_ ?_ ?_ ((List.mergeSort_perm _ _).trans (p.symm.map _))
    · intro a b _ _ h1 h2
      simp only [Bool.not_eq_true'] at h1 h2
      exact tot2 a b h2 h1
    · refine List.pairwise_mergeSort ?_ ?_ _
      · intro a b c h1 h2
        simp only [Bool.not_eq_true'] at h1 h2 ⊢
        exact swo2.ntrans c b a h2 h1
      · intro a b
        cases h : ltOf cmp2 b a with
        | false => simp
        | true =>
          have : ltOf cmp2 a b = false := by
            rw [lt2] at h ⊢
            simp at h ⊢
            omega
          simp [this]
    · rw [List.pairwise_map]
      refine s.imp ?_
      intro a b h
      rw [lt2]
      unfold flt at h
      have : ¬ (b.tx < a.tx ∨ (b.tx = a.tx ∧ b.id < a.id)) := by omega
      rw [Bool.not_eq_true', decide_eq_false_iff_not]
      exact this
  unfold sortFins
  rw [this, un2_pr]
def addStep (f : Fin) (s : List Fin × Bool) (t : Fin) : List Fin × Bool := bif !s.2 && decide (flt f t) then (s.1 ++ [f] ++ [t], true) else (s.1 ++ [t], s.2)
def addFin (xs : List Fin) (f : Fin) : List Fin := bif (xs.foldl (addStep f) ([], decide (f ∈ xs))).2 then (xs.foldl (addStep f) ([], decide (f ∈ xs))).1 else (xs.foldl (addStep f) ([], decide (f ∈ xs))).1 ++ [f]
theorem addStep_t (f : Fin) : ∀ (xs pre : List Fin), xs.foldl (addStep f) (pre, true) = (pre ++ xs, true)
  | [], pre => by simp
  | x :: xs, pre => by
    rw [List.foldl_cons, show addStep f (pre, true) x = (pre ++ [x], true) from rfl, addStep_t f xs]
    simp
theorem addStep_f (f : Fin) : ∀ (xs pre : List Fin), (bif (xs.foldl (addStep f) (pre, false)).2 then (xs.foldl (addStep f) (pre, false)).1 else (xs.foldl (addStep f) (pre, false)).1 ++ [f]) = pre ++ (xs.takeWhile (fun t => !decide (flt f t)) ++ [f] ++ xs.dropWhile (fun t => !decide (flt f t)))
  | [], pre => by simp
  | x :: xs, pre => by
    rw [List.foldl_cons]
    by_cases h : flt f x
    · rw [show addStep f (pre, false) x = (pre ++ [f] ++ [x], true) from by simp [addStep, h], addStep_t]
      simp [h]
    · rw [show addStep f (pre, false) x = (pre ++ [x], false) from by simp [addStep, h], addStep_f f xs]
      simp [h]
theorem addFin_in {xs : List Fin} {f : Fin} (h : f ∈ xs) : addFin xs f = xs := by
  unfold addFin
  rw [decide_eq_true h, addStep_t]
  simp
theorem addFin_new {xs : List Fin} {f : Fin} (h : f ∉ xs) : addFin xs f = xs.takeWhile (fun t => !decide (flt f t)) ++ [f] ++ xs.dropWhile (fun t => !decide (flt f t)) := by
  unfold addFin
  rw [decide_eq_false h, addStep_f]
  simp
theorem drop_head {p : Fin → Bool} : ∀ {xs : List Fin} {y : Fin} {ys : List Fin}, xs.dropWhile p = y :: ys → p y = false
  | x :: xs, y, ys, h => by
    rw [List.dropWhile_cons] at h
    split at h
    · exact drop_head h
    · rename_i hx
      injection h with h1 h2
      subst h1
      simpa using hx
theorem addFin_sort {xs : List Fin} {f : Fin} (s : xs.Pairwise flt) (h : f ∉ xs) : addFin xs f = sortFins (xs ++ [f]) := by
  rw [addFin_new h]
  refine (sortFins_eq ?_ ?_).symm
  · have e : xs.takeWhile (fun t => !decide (flt f t)) ++ xs.dropWhile (fun t => !decide (flt f t)) = xs := List.takeWhile_append_dropWhile
    calc xs.takeWhile (fun t => !decide (flt f t)) ++ [f] ++ xs.dropWhile (fun t => !decide (flt f t))
        |>.Perm (f :: (xs.takeWhile (fun t => !decide (flt f t)) ++ xs.dropWhile (fun t => !decide (flt f t)))) := by
          rw [List.append_assoc]; exact List.perm_middle
      _ |>.Perm (xs ++ [f]) := by rw [e]; exact (List.perm_append_singleton f xs).symm
  · have hs := s
    rw [← List.takeWhile_append_dropWhile (p := fun t => !decide (flt f t)) (l := xs), List.pairwise_append] at hs
    obtain ⟨s1, s2, s3⟩ := hs
    have ht : ∀ t, t ∈ xs.takeWhile (fun t => !decide (flt f t)) → flt t f := by
      intro t ht
      have h1 : (!decide (flt f t)) = true := List.all_eq_true.1 (List.all_takeWhile (p := fun t => !decide (flt f t)) (l := xs)) t ht
      have h2 : t ∈ xs := (List.takeWhile_sublist _).subset ht
      have h3 : ¬ flt f t := by simpa using h1
      exact flt.tot h3 fun e => h (e ▸ h2)
    have hd : ∀ t, t ∈ xs.dropWhile (fun t => !decide (flt f t)) → flt f t := by
      intro t ht
      cases hx : xs.dropWhile (fun t => !decide (flt f t)) with
      | nil => rw [hx] at ht; cases ht
      | cons y ys =>
        have hy : flt f y := by
          have := drop_head hx
          simpa using this
        rw [hx] at ht s2
        rcases List.mem_cons.1 ht with rfl | ht
        · exact hy
        · exact hy.trans ((List.pairwise_cons.1 s2).1 t ht)
    rw [List.append_assoc, List.pairwise_append]
    refine ⟨s1, List.pairwise_append.2 ⟨List.pairwise_singleton _ _, s2, fun a ha b hb => ?_⟩, fun a ha b hb => ?_⟩
    · rw [List.mem_singleton] at ha
      subst ha
      exact hd b hb
    · rcases List.mem_append.1 hb with hb | hb
      · rw [List.mem_singleton] at hb
        subst hb
        exact ht a ha
      · exact s3 a ha b hb
theorem Shard.fins_sorted {s : Shard} (h : ∀ i, i < s.finished.length → s.finAt i = true) : s.finished.Pairwise flt := by
  have step : ∀ i (hi : i + 1 < s.finished.length), flt (s.finished[i]'(by omega)) (s.finished[i + 1]'hi) := by
    intro i hi
    have := h (i + 1) hi
    simp only [Shard.finAt, Bool.and_eq_true, Bool.or_eq_true, beq_iff_eq, Nat.add_one_ne_zero, false_or, Nat.add_sub_cancel] at this
    have h2 := this.2.2.2
    rw [cmp_flt] at h2
    have h3 : flt _ _ := of_decide_eq_true h2
    simp only [Fin.at_, List.getElem?_eq_getElem hi, List.getElem?_eq_getElem (show i < s.finished.length by omega), Option.getD_some] at h3
    exact h3
  rw [List.pairwise_iff_getElem]
  intro i j hi hj hij
  obtain ⟨d, rfl⟩ : ∃ d, j = i + 1 + d := ⟨j - i - 1, by omega⟩
  clear hij
  induction d with
  | zero => exact step i hj
  | succ d ih => exact (ih (by omega)).trans (step (i + 1 + d) hj)
theorem Shard.good_fin {s : Shard} (h : s.good = true) : ∀ i, i < s.finished.length → s.finAt i = true := by
  intro i hi
  simp only [Shard.good, Bool.and_eq_true, List.all_eq_true] at h
  exact h.2.2 i (List.mem_range.2 hi)
theorem Shard.good_sorted {s : Shard} (h : s.good = true) : s.finished.Pairwise flt := Shard.fins_sorted (Shard.good_fin h)
end Go.Proofs.YtahkgghifaodoaaGreat.A
namespace Go.Proofs.YtahkgghifaodoaaGreat.A
open Go
set_option linter.unusedSimpArgs false
set_option linter.unusedVariables false
section
variable {F : Nat → Option RF} {Z : CallF} {h : Heap} {cs : List Cell} {s : Shard} {fp fq : List Nat} {x y : Cell}
set_option maxHeartbeats 2000000 in
theorem l13Shard_accs (hS13 : Has F tS13) (w : SlR 11 (Fl Account.enc) h x s.book.list fp) (v : SlR 9 (Fl Fin.enc) h y s.finished fq) :
    Turn (loop F Z [1, 5] r204L0 ⟨[(5, .c (.int .i64 (0 : Nat)))], [(1, 1, 0)], [(1, [.int .u64 s.lo, .int .u64 s.hi, .int .i64 s.state, .int .i64 s.epoch, x, y])], h⟩)
      (loop F Z [1, 5] r204L0 ⟨[(5, .c (.int .i64 (s.book.list.length : Nat)))], [(1, 1, 0)], [(1, [.int .u64 s.lo, .int .u64 s.hi, .int .i64 s.state, .int .i64 s.epoch, x, y])], h⟩) (s.book.list.all s.acc) (fun s => lk s.env 2 = some (.c (.bool false)) ∧ s.hp = h) := by
  have hle := w.le2
  refine loop_all (F := F) (Z := Z) (live := [1, 5]) (b := r204L0) s.book.list (fun i => ⟨[(5, .c (.int .i64 (i : Nat)))], [(1, 1, 0)], [(1, [.int .u64 s.lo, .int .u64 s.hi, .int .i64 s.state, .int .i64 s.epoch, x, y])], h⟩) s.acc _ fun i hi => ?_
  have hlt : (i : Int) < s.book.list.length := by omega
  have hws := wrapS i (by omega)
  have hwl := w.len
  have hxi := w.idx hi
  have hld := w.load hi
  have hc : ∀ t d, call F Z 243 [.c y, .agg [.int .i64 t, .int .u64 d]] h = some (.c (.bool (decide ((⟨t, d⟩ : Fin) ∈ s.finished))), h) := fun t d => l13Has_run hS13 v ⟨t, d⟩
  rw [loop_run]
  conv in (codeF _ _ r204L0 _) => unfold r204L0
  simp only [rn, RO.dst, lk, drop, Nat.reduceBEq, Nat.reduceAdd, Nat.reduceLeDiff, ↓reduceIte, reduceCtorEq, hwl, hlt, hxi, hld, Account.enc, hc]
  generalize s.book.list[i] = a
  clear hxi hld w v
  (repeat' ((first | (rw [gF_if]; split) | (rw [condC_if]; split) | (rw [pickR_if]; split)) <;> (rename_i hh; (try simp only [Bool.not_eq_true, decide_eq_true_eq] at hh); simp only [hh, rn, RO.dst, lk, drop, Nat.reduceBEq, Nat.reduceAdd, Nat.reduceLeDiff, ↓reduceIte, reduceCtorEq, hws, hc]))) <;> clear hc <;> first
    | exact .inl ⟨by simp_all [Shard.acc] <;> omega, rfl⟩
    | exact .inr ⟨by simp_all [Shard.acc] <;> omega, _, rfl, rfl, rfl⟩
set_option maxHeartbeats 4000000 in
theorem l13Shard_fins (hS13 : Has F tS13) (v : SlR 9 (Fl Fin.enc) h y s.finished fq) :
    Turn (loop F Z [1, 3] r204L1 ⟨[(3, .c (.int .i64 (0 : Nat)))], [(1, 1, 0)], [(1, [.int .u64 s.lo, .int .u64 s.hi, .int .i64 s.state, .int .i64 s.epoch, x, y])], h⟩)
      (loop F Z [1, 3] r204L1 ⟨[(3, .c (.int .i64 (s.finished.length : Nat)))], [(1, 1, 0)], [(1, [.int .u64 s.lo, .int .u64 s.hi, .int .i64 s.state, .int .i64 s.epoch, x, y])], h⟩) ((List.range s.finished.length).all s.finAt) (fun s => lk s.env 2 = some (.c (.bool false)) ∧ s.hp = h) := by
  have hle := v.le2
  refine loop_allN (F := F) (Z := Z) (live := [1, 3]) (b := r204L1) s.finished.length (fun i => ⟨[(3, .c (.int .i64 (i : Nat)))], [(1, 1, 0)], [(1, [.int .u64 s.lo, .int .u64 s.hi, .int .i64 s.state, .int .i64 s.epoch, x, y])], h⟩) s.finAt _ fun i hi => ?_
  have hlt : (i : Int) < s.finished.length := by omega
  have hws := wrapS i (by omega)
  have hwl := v.len
  have hxi := v.idx hi
  have hld : ∀ j n, loadP h y.sid i j n = cut? (Fin.at_ s.finished i).enc j n := v.loadD Fin.none_ hi
  have hfin : s.finAt i = (decide (1 ≤ (Fin.at_ s.finished i).tx) && (decide (s.lo ≤ (Fin.at_ s.finished i).id) && (decide ((Fin.at_ s.finished i).id ≤ s.hi) && (i == 0 || decide (cmpFin (Fin.at_ s.finished (i - 1)) (Fin.at_ s.finished i) < 0))))) := rfl
  have hpre : 0 < i → IntKind.i64.wrap ((i : Int) - 1) = ((i - 1 : Nat) : Int) := fun hp => by rw [wrapI _ (by omega) (by omega)]; omega
  have hpi : 0 < i → idxR 9 (some y) (some ((i - 1 : Nat) : Int)) = some (.ptr y.sid (i - 1) 0) := fun hp => v.idx (by omega)
  have hpl : 0 < i → ∀ j n, loadP h y.sid (i - 1) j n = cut? (Fin.at_ s.finished (i - 1)).enc j n := fun hp => v.loadD Fin.none_ (by omega)
  clear v
  generalize s.finAt i = fa at *
  generalize Fin.at_ s.finished (i - 1) = pf at *
  generalize Fin.at_ s.finished i = f at *
  have cf := fun g => l13Before_run (Z := Z) hS13 pf f g
  obtain ⟨t, d⟩ := f
  obtain ⟨t', d'⟩ := pf
  simp only [Fin.enc] at cf hld hpl
  rw [loop_run]
  conv in (codeF _ _ r204L1 _) => unfold r204L1
  simp only [rn, RO.dst, lk, drop, Nat.reduceBEq, Nat.reduceAdd, Nat.reduceLeDiff, ↓reduceIte, reduceCtorEq, hwl, hlt, hxi, hld]
  by_cases hp : 0 < i
  · have g1 : (i : Int) > 0 := by omega
    have hi0 : (i == 0) = false := by simp; omega
    have q1 := hpre hp
    have q2 := hpi hp
    have q3 := hpl hp
    clear hxi hpre hpi hpl
    (repeat' ((first | (rw [gF_if]; split) | (rw [condC_if]; split) | (rw [pickR_if]; split)) <;> (rename_i hh; (try simp only [Bool.not_eq_true, decide_eq_true_eq] at hh); simp only [hh, rn, RO.dst, lk, drop, Nat.reduceBEq, Nat.reduceAdd, Nat.reduceLeDiff, ↓reduceIte, reduceCtorEq, hws, g1, q1, q2, q3, cf, hld])))
    all_goals clear q2 q3 cf hld
    all_goals first
      | (exfalso; omega)
      | exact .inl ⟨by simp_all <;> omega, rfl⟩
      | exact .inr ⟨by simp_all <;> omega, _, rfl, rfl, rfl⟩
  · have g1 : ¬ (i : Int) > 0 := by omega
    have hi0 : (i == 0) = true := by simp; omega
    clear hxi hpre hpi hpl cf
    (repeat' ((first | (rw [gF_if]; split) | (rw [condC_if]; split) | (rw [pickR_if]; split)) <;> (rename_i hh; (try simp only [Bool.not_eq_true, decide_eq_true_eq] at hh); simp only [hh, rn, RO.dst, lk, drop, Nat.reduceBEq, Nat.reduceAdd, Nat.reduceLeDiff, ↓reduceIte, reduceCtorEq, hws, g1, hld])))
    all_goals clear hld
    all_goals first
      | (exfalso; omega)
      | exact .inl ⟨by simp_all <;> omega, rfl⟩
      | exact .inr ⟨by simp_all <;> omega, _, rfl, rfl, rfl⟩
set_option maxHeartbeats 4000000 in
theorem l13Shard_run (hS : Has F tS01d) (hS10 : Has F tS10) (hS13 : Has F tS13) (v : Shard.RI h cs s fp) (ok : s.Ok) : call F Z 204 [.agg cs] h = some (.c (.bool s.good), h) := by
  obtain ⟨x, p, y, q, rfl, rfl, w, u⟩ := v
  have hB := sBookOk_run (Z := Z) hS10 w ok.book.list
  have ka := l13Shard_accs (Z := Z) (s := s) hS13 w u
  have kf := l13Shard_fins (Z := Z) (s := s) (x := x) hS13 u
  have l1 := w.len
  have l2 := u.len
  have n1 : ¬ (s.book.list.length : Int) < s.book.list.length := by omega
  have n2 : ¬ (s.finished.length : Int) < s.finished.length := by omega
  clear w u
  rw [call_run F Z (hS13.lk (g := 204) rfl) _ _ rfl]
  simp only [show ((0 : Nat) : Int) = 0 from rfl] at ka kf
  cases hd : s.head with
  | false =>
    have hg : s.good = false := by simp [Shard.good, hd]
    rw [hg]
    simp only [rn, RO.dst, lk, drop, Nat.reduceBEq, Nat.reduceAdd, Nat.reduceLeDiff, ↓reduceIte, reduceCtorEq, hB, l2, l01In_run hS]
    clear ka kf
    (repeat' ((first | (rw [gF_if]; split) | (rw [condC_if]; split) | (rw [pickR_if]; split)) <;> (rename_i hh; (try simp only [Bool.not_eq_true, decide_eq_true_eq] at hh); simp only [hh, rn, RO.dst, lk, drop, Nat.reduceBEq, Nat.reduceAdd, Nat.reduceLeDiff, ↓reduceIte, reduceCtorEq, hB, l2, l1, l01In_run hS])))
    all_goals clear hB l1 l2
    all_goals first
      | rfl
      | (exfalso; simp_all [Shard.head, inR]; done)
      | (exfalso; simp_all [Shard.head, inR]; omega)
  | true =>
    have hg : s.good = (s.book.list.all s.acc && (List.range s.finished.length).all s.finAt) := by simp [Shard.good, hd]
    rw [hg]
    simp only [Shard.head, Bool.and_eq_true, decide_eq_true_eq, Bool.or_eq_true, beq_iff_eq] at hd
    obtain ⟨d1, d2, d3, d5, d6⟩ := hd
    rw [d5] at hB
    have c1 : ¬ s.lo > s.hi := by omega
    have c2 : inR s.state 0 1 = true := by rcases d2 with d2 | d2 <;> simp [inR, d2]
    have c6 : ¬ (s.finished.length : Int) > 60 := by omega
    · simp only [rn, RO.dst, lk, drop, Nat.reduceBEq, Nat.reduceAdd, Nat.reduceLeDiff, ↓reduceIte, reduceCtorEq, hB, l1, l2, c1, c2, d3, c6, l01In_run hS]
      rcases kf with ⟨a1, a2⟩ | ⟨a1, s', a2, a3, a4⟩
      · rw [a2, loop_run]
        conv in (codeF _ _ r204L1 _) => unfold r204L1
        simp only [rn, RO.dst, lk, drop, Nat.reduceBEq, Nat.reduceAdd, Nat.reduceLeDiff, ↓reduceIte, reduceCtorEq, l2, n2]
        rcases ka with ⟨b1, b2⟩ | ⟨b1, s', b2, b3, b4⟩
        · rw [b2, loop_run]
          conv in (codeF _ _ r204L0 _) => unfold r204L0
          simp only [rn, RO.dst, lk, drop, Nat.reduceBEq, Nat.reduceAdd, Nat.reduceLeDiff, ↓reduceIte, reduceCtorEq, l1, n1, a1, b1, Bool.and_self]
        · rw [b2]
          simp only [rn, RO.dst, lk, drop, Nat.reduceBEq, Nat.reduceAdd, Nat.reduceLeDiff, ↓reduceIte, reduceCtorEq, b3, b4, b1, Bool.false_and]
      · rw [a2]
        simp only [rn, RO.dst, lk, drop, Nat.reduceBEq, Nat.reduceAdd, Nat.reduceLeDiff, ↓reduceIte, reduceCtorEq, a3, a4, a1, Bool.and_false]
end
end Go.Proofs.YtahkgghifaodoaaGreat.A
namespace Go.Proofs.YtahkgghifaodoaaGreat.A
open Go
set_option linter.unusedSimpArgs false
set_option linter.unusedVariables false
def Shard.zeroC : List Cell := [.int .u64 0, .int .u64 0, .int .i64 0, .int .i64 0, .nil, .nil]
theorem Wf.isShardS' {h : Heap} {n : Nat} {a : List Cell} (w : Wf h (n + 6) shShardS a) : ∃ x xs fp, a = [x] ∧ SlR 20 Shard.RL h x xs fp ∧ ∀ t, t ∈ xs → t.Ok := by
  have hx : ∃ x, a = [x] := by rcases w with w | ⟨_, _, w, _⟩ <;> exact ⟨_, w⟩
  obtain ⟨x, rfl⟩ := hx
  obtain ⟨xs, fp, v, ok⟩ := SlR.ofWf (R := Shard.RL) (A := fun t => t.Ok) (fun r hr => by obtain ⟨t, fp, v, ok⟩ := Wf.isShard hr.2; exact ⟨t, fp, v, ok⟩) w
  exact ⟨x, xs, fp, rfl, v, ok⟩
section
variable {F : Nat → Option RF} {Z : CallF} {h : Heap} {x y : Cell} {xs ys : List Shard} {fp fq : List Nat}
theorem szShardS_c (hLShard : Has F tLShard) (hLBook : Has F tLBook) (hLAccount : Has F tLAccount) (hLFin : Has F tLFin) (w : SlR 20 Shard.RL h x xs fp) (left : Int) (h1 : 0 ≤ left) (h2 : left ≤ 1048576) : ∃ r, call F Z 203 [.c x, .c (.int .i64 left)] h = some (.c (.int .i64 r), h) ∧ r ≤ left ∧ (0 ≤ r → xs.length ≤ 1048576 ∧ ∀ a, a ∈ xs → a.Small) := by
  have hle := w.le2
  rw [call_run F Z (hLShard.lk (g := 203) rfl) _ _ rfl]
  simp only [rn, RO.dst, lk, drop, Nat.reduceBEq, Nat.reduceAdd, Nat.reduceLeDiff, ↓reduceIte, reduceCtorEq, w.len, wrapI (left - xs.length) (by omega) (by omega)]
  by_cases n0 : left - xs.length < 0
  · simp only [rn, RO.dst, lk, drop, Nat.reduceBEq, Nat.reduceAdd, Nat.reduceLeDiff, ↓reduceIte, reduceCtorEq, n0]
    exact ⟨_, rfl, by omega, by omega⟩
  simp only [rn, RO.dst, lk, drop, Nat.reduceBEq, Nat.reduceAdd, Nat.reduceLeDiff, ↓reduceIte, reduceCtorEq, n0]
  rcases loop_rel (F := F) (Z := Z) (live := [0, 1, 5]) (b := r203L0) xs.length (fun i s => ∃ l, s = ⟨[(0, .c x), (1, .c (.int .i64 l)), (5, .c (.int .i64 (i : Nat)))], [], [], h⟩ ∧ 0 ≤ l ∧ l ≤ left ∧ ∀ a, a ∈ xs.take i → a.Small) (fun s => lk s.env 4 = some (.c (.int .i64 (-1))) ∧ s.hp = h) (fun i s hi ⟨l, hs, q1, q2, q3⟩ => by
    subst hs
    obtain ⟨r, f, hld, hr, _⟩ := w.one hi
    obtain ⟨l1, l2, l3⟩ := Shard.lenL hr
    obtain ⟨l', e, k1, k2⟩ := szShard_c (Z := Z) hLShard hLBook hLAccount hLFin hr l q1 (by omega)
    have hlt : (i : Int) < xs.length := by omega
    rw [loop_run]
    conv in (codeF _ _ r203L0 _) => unfold r203L0
    simp only [rn, RO.dst, lk, drop, Nat.reduceBEq, Nat.reduceAdd, Nat.reduceLeDiff, ↓reduceIte, reduceCtorEq, w.len, hlt, w.idx hi, hld, l1, l2, e]
    by_cases n1 : l' < 0
    · simp only [rn, RO.dst, lk, drop, Nat.reduceBEq, Nat.reduceAdd, Nat.reduceLeDiff, ↓reduceIte, reduceCtorEq, n1]
      exact Or.inr ⟨_, rfl, rfl, rfl⟩
    · simp only [rn, RO.dst, lk, drop, Nat.reduceBEq, Nat.reduceAdd, Nat.reduceLeDiff, ↓reduceIte, reduceCtorEq, n1, wrapS i (by omega)]
      refine Or.inl ⟨_, ⟨l', rfl, by omega, by omega, fun a ha => ?_⟩, rfl⟩
      rw [List.take_add_one, List.getElem?_eq_getElem hi] at ha
      rcases List.mem_append.1 ha with ha | ha
      · exact q3 a ha
      · simp at ha; subst ha; exact k2 (by omega)) (s := ⟨[(0, .c x), (1, .c (.int .i64 (left - xs.length))), (5, .c (.int .i64 (0 : Nat)))], [], [], h⟩) ⟨_, rfl, by omega, by omega, fun a ha => by simp at ha⟩ with ⟨s', ⟨l, hs', q1, q2, q3⟩, l1⟩ | ⟨s', l1, q1, q2⟩
  · subst hs'
    simp only [show ((0 : Nat) : Int) = 0 from rfl] at l1
    rw [l1, loop_run]
    conv in (codeF _ _ r203L0 _) => unfold r203L0
    have hlt : ¬ (xs.length : Int) < xs.length := by omega
    simp only [rn, RO.dst, lk, drop, Nat.reduceBEq, Nat.reduceAdd, Nat.reduceLeDiff, ↓reduceIte, reduceCtorEq, w.len, hlt]
    rw [List.take_length] at q3
    exact ⟨_, rfl, by omega, fun _ => ⟨by omega, q3⟩⟩
  · simp only [show ((0 : Nat) : Int) = 0 from rfl] at l1
    rw [l1]
    simp only [rn, RO.dst, lk, drop, Nat.reduceBEq, Nat.reduceAdd, Nat.reduceLeDiff, ↓reduceIte, reduceCtorEq, q1, q2]
    exact ⟨_, rfl, by omega, by omega⟩
theorem toShardS_c (hLShard : Has F tLShard) (hLBook : Has F tLBook) (hLAccount : Has F tLAccount) (hLFin : Has F tLFin) (hf : h.floor ≤ h.next) (w : SlR 20 Shard.RL h x xs fp) (sm : xs.length ≤ 1048576 ∧ ∀ a, a ∈ xs → a.Small) : ∃ y h' fq, call F Z 205 [.c x] h = some (.c y, h') ∧ On h h' ∧ SlR 16 Shard.RI h' y xs fq ∧ Fre h fq := by
  obtain ⟨hn, sm⟩ := sm
  rw [call_run F Z (hLShard.lk (g := 205) rfl) _ _ rfl]
  simp only [rn, RO.dst, lk, drop, Nat.reduceBEq, Nat.reduceAdd, Nat.reduceLeDiff, ↓reduceIte, reduceCtorEq, w.len]
  rw [if_pos (by omega)]
  simp only [rn, RO.dst, lk, drop, Nat.reduceBEq, Nat.reduceAdd, Nat.reduceLeDiff, ↓reduceIte, reduceCtorEq, Int.toNat_natCast]
  obtain ⟨s', ⟨g, rows, fps, hs', fl⟩, l1⟩ := loop_goes (F := F) (Z := Z) (live := [0, 3, 4]) (b := r205L0) xs.length (fun i s => ∃ g rows fps, s = ⟨[(0, .c x), (3, .c (.sl 16 h.next 0 xs.length)), (4, .c (.int .i64 (i : Nat)))], [], [], g⟩ ∧ Filled Shard.RI h g h.next Shard.zeroC xs i rows fps) (fun i s hi ⟨g, rows, fps, hs, fl⟩ => by
    subst hs
    have wg := w.mono Shard.okL fl.on.ext
    obtain ⟨r, f, hld, hr, _⟩ := wg.one hi
    obtain ⟨l1, l2, l3⟩ := Shard.lenL hr
    obtain ⟨cs', g', fq, e, o', v, fr⟩ := toShard_c (Z := Z) hLShard hLBook hLAccount hLFin (fl.on.le hf) hr (sm _ (List.getElem_mem hi))
    obtain ⟨vl, _, _⟩ := Shard.lenI v
    obtain ⟨st, fl'⟩ := fl.step Shard.okI hf hi vl o' v fr
    have hlt : (i : Int) < xs.length := by omega
    have h0 : (0 : Int) ≤ i := by omega
    rw [loop_run]
    conv in (codeF _ _ r205L0 _) => unfold r205L0
    simp only [rn, RO.dst, lk, drop, Nat.reduceBEq, Nat.reduceAdd, Nat.reduceLeDiff, ↓reduceIte, reduceCtorEq, w.len, hlt, w.idx hi, hld, l1, l2, e, h0, and_self, Int.toNat_natCast, vl, st, wrapS i (by omega)]
    exact ⟨_, ⟨_, _, _, rfl, fl'⟩, rfl⟩) (s := ⟨[(0, .c x), (3, .c (.sl 16 h.next 0 xs.length)), (4, .c (.int .i64 (0 : Nat)))], [], [], h.push (List.replicate xs.length Shard.zeroC)⟩) ⟨_, _, _, rfl, Filled.start h Shard.zeroC xs⟩
  subst hs'
  simp only [show ((0 : Nat) : Int) = 0 from rfl, Shard.zeroC] at l1
  rw [l1, loop_run]
  conv in (codeF _ _ r205L0 _) => unfold r205L0
  have hlt : ¬ (xs.length : Int) < xs.length := by omega
  simp only [rn, RO.dst, lk, drop, Nat.reduceBEq, Nat.reduceAdd, Nat.reduceLeDiff, ↓reduceIte, reduceCtorEq, w.len, hlt]
  obtain ⟨o, v, f⟩ := fl.all hn 16
  exact ⟨_, _, _, rfl, o, v, f⟩
theorem eqShardS_r (hLShard : Has F tLShard) (hLBook : Has F tLBook) (hLAccount : Has F tLAccount) (hLFin : Has F tLFin) (w : SlR 16 Shard.RI h x xs fp) (v : SlR 16 Shard.RI h y ys fq) : call F Z 207 [.c x, .c y] h = some (.c (.bool (decide (xs = ys))), h) := by
  have hw := w.le2
  have hv := v.le2
  rw [call_run F Z (hLShard.lk (g := 207) rfl) _ _ rfl]
  simp only [rn, RO.dst, lk, drop, Nat.reduceBEq, Nat.reduceAdd, Nat.reduceLeDiff, ↓reduceIte, reduceCtorEq, w.len, v.len]
  rw [condC_if]
  split
  · rename_i hne
    have : xs ≠ ys := by rintro rfl; simp at hne
    simp only [rn, RO.dst, lk, drop, Nat.reduceBEq, Nat.reduceAdd, Nat.reduceLeDiff, ↓reduceIte, reduceCtorEq, this]
  · rename_i he
    have he : xs.length = ys.length := by simp at he; omega
    simp only [rn, RO.dst, lk, drop, Nat.reduceBEq, Nat.reduceAdd, Nat.reduceLeDiff, ↓reduceIte, reduceCtorEq]
    have key := loop_allN (F := F) (Z := Z) (live := [0, 1, 5]) (b := r207L0) xs.length (fun i => ⟨[(0, .c x), (1, .c y), (5, .c (.int .i64 (i : Nat)))], [], [], h⟩) (fun i => decide (xs[i]? = ys[i]?)) (fun s => lk s.env 4 = some (.c (.bool false)) ∧ s.hp = h) fun i hi => by
      have hi' : i < ys.length := by omega
      have hlt : (i : Int) < xs.length := by omega
      obtain ⟨r, f, hld, hr, _⟩ := w.one hi
      obtain ⟨r', f', hld', hr', _⟩ := v.one hi'
      obtain ⟨l1, l2, l3⟩ := Shard.lenI hr
      obtain ⟨l1', l2', l3'⟩ := Shard.lenI hr'
      have e := eqShard_r (Z := Z) (h := ⟨h.next, h.next, h.get⟩) hLShard hLBook hLAccount hLFin (Shard.okI.up hr _) (Shard.okI.up hr' _)
      rw [loop_run]
      conv in (codeF _ _ r207L0 _) => unfold r207L0
      simp only [rn, RO.dst, lk, drop, Nat.reduceBEq, Nat.reduceAdd, Nat.reduceLeDiff, ↓reduceIte, reduceCtorEq, w.len, hlt, w.idx hi, v.idx hi', hld, hld', l1, l2, l1', l2', e, wrapS i (by omega)]
      rw [List.getElem?_eq_getElem hi, List.getElem?_eq_getElem hi']
      clear e hld hld' hr hr' l1 l2 l3 l1' l2' l3'
      (repeat' ((first | (rw [gF_if]; split) | (rw [condC_if]; split) | (rw [pickR_if]; split)) <;> (rename_i hh; (try simp only [Bool.not_eq_true, decide_eq_true_eq] at hh); simp only [hh, rn, RO.dst, lk, drop, Nat.reduceBEq, Nat.reduceAdd, Nat.reduceLeDiff, ↓reduceIte, reduceCtorEq, wrapS i (by omega)])))
      · exact .inr ⟨by simp_all, _, rfl, rfl, rfl⟩
      · exact .inl ⟨by simp_all, rfl⟩
    rw [all_same he] at key
    rcases key with ⟨k1, k2⟩ | ⟨k1, s, k2, k3, k4⟩
    · simp only [show ((0 : Nat) : Int) = 0 from rfl] at k2
      rw [k2, loop_run]
      conv in (codeF _ _ r207L0 _) => unfold r207L0
      have hlt : ¬ (xs.length : Int) < xs.length := by omega
      simp only [rn, RO.dst, lk, drop, Nat.reduceBEq, Nat.reduceAdd, Nat.reduceLeDiff, ↓reduceIte, reduceCtorEq, w.len, hlt, k1]
    · simp only [show ((0 : Nat) : Int) = 0 from rfl] at k2
      rw [k2]
      simp only [rn, RO.dst, lk, drop, Nat.reduceBEq, Nat.reduceAdd, Nat.reduceLeDiff, ↓reduceIte, reduceCtorEq, k3, k4, k1]
end
end Go.Proofs.YtahkgghifaodoaaGreat.A
namespace Go.Proofs.YtahkgghifaodoaaGreat.A
open Go
set_option linter.unusedSimpArgs false
set_option linter.unusedVariables false
structure Store where
  group : Int
  seen : Int
  shards : List Shard
  deriving DecidableEq
def Store.RL : Rel Store := fun h cs t fp => ∃ x1 p1, cs = [.int .i64 t.group, .int .i64 t.seen, x1] ∧ fp = p1 ∧ SlR 20 (Shard.RL) h x1 t.shards p1
theorem Store.okL : RelOk Store.RL where
  lt := by
    rintro h cs t fp ⟨x1, p1, rfl, rfl, w1⟩ id hid
    exact w1.lt (Shard.okL) id hid
  mv := by
    rintro h h' cs t fp ⟨x1, p1, rfl, rfl, w1⟩ hn hg
    exact ⟨x1, _, rfl, rfl, w1.mv (Shard.okL) hn hg⟩
def Store.RI : Rel Store := fun h cs t fp => ∃ x1 p1, cs = [.int .i64 t.group, .int .i64 t.seen, x1] ∧ fp = p1 ∧ SlR 16 (Shard.RI) h x1 t.shards p1
theorem Store.okI : RelOk Store.RI where
  lt := by
    rintro h cs t fp ⟨x1, p1, rfl, rfl, w1⟩ id hid
    exact w1.lt (Shard.okI) id hid
  mv := by
    rintro h h' cs t fp ⟨x1, p1, rfl, rfl, w1⟩ hn hg
    exact ⟨x1, _, rfl, rfl, w1.mv (Shard.okI) hn hg⟩
theorem Store.lenL {h : Heap} {cs : List Cell} {t : Store} {fp : List Nat} (v : Store.RL h cs t fp) : cs.length = 3 ∧ cs.take 3 = cs ∧ cs.drop 3 = [] := by
  obtain ⟨x1, p1, rfl, _⟩ := v
  exact ⟨rfl, rfl, rfl⟩
theorem Store.lenI {h : Heap} {cs : List Cell} {t : Store} {fp : List Nat} (v : Store.RI h cs t fp) : cs.length = 3 ∧ cs.take 3 = cs ∧ cs.drop 3 = [] := by
  obtain ⟨x1, p1, rfl, _⟩ := v
  exact ⟨rfl, rfl, rfl⟩
namespace Store
structure Ok (t : Store) : Prop where
  group : -9223372036854775808 ≤ t.group ∧ t.group ≤ 9223372036854775807
  seen : -9223372036854775808 ≤ t.seen ∧ t.seen ≤ 9223372036854775807
  shards : ∀ a, a ∈ t.shards → a.Ok
def Small (t : Store) : Prop := (t.shards.length ≤ 1048576 ∧ ∀ a, a ∈ t.shards → a.Small)
end Store
theorem Wf.isStore {h : Heap} {n : Nat} {cs : List Cell} (w : Wf h (n + 7) shStore cs) : ∃ t fp, Store.RL h cs t fp ∧ t.Ok := by
  obtain ⟨_, _, rfl, _, ⟨i1, rfl, j1⟩, _, _, rfl, _, ⟨i2, rfl, j2⟩, _, _, rfl, _, m3, rfl⟩ := w
  obtain ⟨x1, l1, p1, rfl, w1, o1⟩ := Wf.isShardS' m3
  exact ⟨⟨i1, i2, l1⟩, _, ⟨x1, _, rfl, rfl, w1⟩, ⟨wfI j1, wfI j2, o1⟩⟩
section
variable {F : Nat → Option RF} {Z : CallF} {h : Heap} {cs cs' : List Cell} {t u : Store} {fp fq : List Nat}
theorem szStore_c (hLStore : Has F tLStore) (hLShard : Has F tLShard) (hLBook : Has F tLBook) (hLAccount : Has F tLAccount) (hLFin : Has F tLFin) (v : Store.RL h cs t fp) (left : Int) (h1 : 0 ≤ left) (h2 : left ≤ 1048576) : ∃ r, call F Z 154 [.agg cs, .c (.int .i64 left)] h = some (.c (.int .i64 r), h) ∧ r ≤ left ∧ (0 ≤ r → t.Small) := by
  obtain ⟨x1, p1, rfl, rfl, w1⟩ := v
  rw [call_run F Z (hLStore.lk (g := 154) rfl) _ _ rfl]
  simp only [rn, RO.dst, lk, drop, Nat.reduceBEq, Nat.reduceAdd, Nat.reduceLeDiff, ↓reduceIte, reduceCtorEq]
  obtain ⟨l0, s0, a0, b0⟩ := szShardS_c (Z := Z) hLShard hLBook hLAccount hLFin w1 left (by omega) (by omega)
  simp only [rn, RO.dst, lk, drop, Nat.reduceBEq, Nat.reduceAdd, Nat.reduceLeDiff, ↓reduceIte, reduceCtorEq, s0]
  by_cases n0 : l0 < 0
  · simp only [rn, RO.dst, lk, drop, Nat.reduceBEq, Nat.reduceAdd, Nat.reduceLeDiff, ↓reduceIte, reduceCtorEq, n0]
    exact ⟨_, rfl, by omega, by omega⟩
  simp only [rn, RO.dst, lk, drop, Nat.reduceBEq, Nat.reduceAdd, Nat.reduceLeDiff, ↓reduceIte, reduceCtorEq, n0]
  exact ⟨_, rfl, by omega, fun _ => b0 (by omega)⟩
theorem toStore_c (hLStore : Has F tLStore) (hLShard : Has F tLShard) (hLBook : Has F tLBook) (hLAccount : Has F tLAccount) (hLFin : Has F tLFin) (hf : h.floor ≤ h.next) (v : Store.RL h cs t fp) (sm : t.Small) : ∃ cs' h' fq, call F Z 155 [.agg cs] h = some (.agg cs', h') ∧ On h h' ∧ Store.RI h' cs' t fq ∧ Fre h fq := by
  obtain ⟨x1, p1, rfl, rfl, w1⟩ := v
  have sm0 := sm
  obtain ⟨y1, g0, q1, e0, o0, u1, r0⟩ := toShardS_c (Z := Z) hLShard hLBook hLAccount hLFin hf w1 sm0
  rw [call_run F Z (hLStore.lk (g := 155) rfl) _ _ rfl]
  simp only [rn, RO.dst, lk, drop, Nat.reduceBEq, Nat.reduceAdd, Nat.reduceLeDiff, ↓reduceIte, reduceCtorEq, e0]
  exact ⟨_, _, _, rfl, o0, ⟨y1, _, rfl, rfl, u1⟩, r0⟩
set_option maxHeartbeats 1000000 in
theorem eqStore_r (hLStore : Has F tLStore) (hLShard : Has F tLShard) (hLBook : Has F tLBook) (hLAccount : Has F tLAccount) (hLFin : Has F tLFin) (v : Store.RI h cs t fp) (v' : Store.RI h cs' u fq) : call F Z 158 [.agg cs, .agg cs'] h = some (.c (.bool (decide (t = u))), h) := by
  obtain ⟨x1, p1, rfl, rfl, w1⟩ := v
  obtain ⟨x1', p1', rfl, rfl, w1'⟩ := v'
  obtain ⟨group1, seen1, shards1⟩ := t
  obtain ⟨group2, seen2, shards2⟩ := u
  have e0 := eqShardS_r (Z := Z) hLShard hLBook hLAccount hLFin w1 w1'
  clear w1 w1'
  rw [call_run F Z (hLStore.lk (g := 158) rfl) _ _ rfl]
  simp only [rn, RO.dst, lk, drop, Nat.reduceBEq, Nat.reduceAdd, Nat.reduceLeDiff, ↓reduceIte, reduceCtorEq, e0]
  (repeat' ((first | (rw [gF_if]; split) | (rw [condC_if]; split) | (rw [pickR_if]; split)) <;> (rename_i hh; (try simp only [Bool.not_eq_true, decide_eq_true_eq] at hh); simp only [hh, rn, RO.dst, lk, drop, Nat.reduceBEq, Nat.reduceAdd, Nat.reduceLeDiff, ↓reduceIte, reduceCtorEq, e0]))) <;> clear e0 <;> refine fin_bool ?_ <;> simp_all <;> (try (intros; omega))
end
end Go.Proofs.YtahkgghifaodoaaGreat.A
namespace Go.Proofs.YtahkgghifaodoaaGreat.A
open Go
set_option linter.unusedSimpArgs false
set_option linter.unusedVariables false
structure KI (F : Nat → Option RF) : Prop where
  i10 : Has F tI10
  i11 : Has F tI11
  i13 : Has F tI13
  c1 : Has F tLibcmpCompareint
  c2 : Has F tLibcmpCompareuint64
  c3 : Has F tLibcmpOrint
  c4 : Has F tLibcmpisNaNint
  c5 : Has F tLibcmpisNaNuint64
  li : Has F tLibslicesIndeximplFinimplFin
  lc : Has F tLibslicesContainsimplFinimplFin
structure KS (F : Nat → Option RF) : Prop where
  s01 : Has F tS01d
  s10 : Has F tS10
  s13 : Has F tS13
def Shard.none_ : Shard := ⟨0, 0, 0, 0, ⟨[]⟩, []⟩
def Shard.at_ (xs : List Shard) (i : Nat) : Shard := xs[i]?.getD Shard.none_
theorem Shard.at_get {xs : List Shard} {i : Nat} (hi : i < xs.length) : Shard.at_ xs i = xs[i] := by simp [Shard.at_, List.getElem?_eq_getElem hi]
def Store.fits (s : Store) (i : Nat) : Bool := (Shard.at_ s.shards i).good && (decide ((Shard.at_ s.shards i).epoch ≤ s.seen) && (i == 0 || decide ((Shard.at_ s.shards (i - 1)).hi < (Shard.at_ s.shards i).lo)))
def Store.good (s : Store) : Bool := inR s.group 0 99 && (inR s.seen 0 1000000 && (decide ((s.shards.length : Int) ≤ 8) && (List.range s.shards.length).all s.fits))
section
variable {F : Nat → Option RF} {Z : CallF} {h : Heap} {cs : List Cell} {s : Store} {fp : List Nat} {x : Cell}
theorem isShard_q (k : KI F) {t : Shard} {cs : List Cell} {fp : List Nat} (v : Shard.RI h cs t fp) (ok : t.Ok) :
    ∃ h' g, call F Z 244 [.agg cs] ⟨h.next, h.next, h.get⟩ = some (.c (.bool t.good), h') ∧ Heap.mk h'.next h.floor h'.get = g ∧ On h g := by
  obtain ⟨h', e, o⟩ := isShard_run (Z := Z) k.i10 k.i13 k.c1 k.c2 k.c3 k.c4 k.c5 k.li k.lc (Shard.okI.up v h.next) ok
  exact quietly e o
set_option maxHeartbeats 4000000 in
theorem isStore_turn (k : KI F) (w : SlR 16 Shard.RI h x s.shards fp) (ok : ∀ a, a ∈ s.shards → a.Ok) (i : Nat) (hi : i < s.shards.length) :
    TurnO (loop F Z [1, 26, 27, 28] r206L0 ⟨[(26, .c x), (27, .c (.int .i64 (s.shards.length : Nat))), (28, .c (.int .i64 (i : Nat)))], [(1, 1, 0)], [(1, [.int .i64 s.group, .int .i64 s.seen, x])], h⟩)
      (fun g => loop F Z [1, 26, 27, 28] r206L0 ⟨[(26, .c x), (27, .c (.int .i64 (s.shards.length : Nat))), (28, .c (.int .i64 ((i + 1 : Nat) : Int)))], [(1, 1, 0)], [(1, [.int .i64 s.group, .int .i64 s.seen, x])], g⟩)
      h (s.fits i) (fun s' => lk s'.env 2 = some (.c (.bool false))) := by
  have hle := w.le2
  have hlt : (i : Int) < s.shards.length := by omega
  have hws := wrapS i (by omega)
  have hxi := w.idx hi
  obtain ⟨r, f, hld, hR, _⟩ := w.one hi
  rw [← Shard.at_get hi] at hR
  have aok := ok _ (List.getElem_mem hi)
  rw [← Shard.at_get hi] at aok
  obtain ⟨h', g, hc, hg, og⟩ := isShard_q (Z := Z) k hR aok
  have hpre : 0 < i → IntKind.i64.wrap ((i : Int) - 1) = ((i - 1 : Nat) : Int) := fun hp => by rw [wrapI _ (by omega) (by omega)]; omega
  have hpi : 0 < i → idxR 16 (some x) (some ((i - 1 : Nat) : Int)) = some (.ptr x.sid (i - 1) 0) := fun hp => w.idx (by omega)
  have hpl : 0 < i → ∃ r', (∀ j n, loadP g x.sid (i - 1) j n = cut? r' j n) ∧ ∃ f', Shard.RI g r' (Shard.at_ s.shards (i - 1)) f' := fun hp => by
    obtain ⟨r', f', h1, h2, _⟩ := (w.on Shard.okI og).one (show i - 1 < s.shards.length by omega)
    rw [← Shard.at_get] at h2
    exact ⟨r', h1, f', h2⟩
  have hfit : s.fits i = ((Shard.at_ s.shards i).good && (decide ((Shard.at_ s.shards i).epoch ≤ s.seen) && (i == 0 || decide ((Shard.at_ s.shards (i - 1)).hi < (Shard.at_ s.shards i).lo)))) := rfl
  obtain ⟨x1, p1, x2, p2, rfl, _⟩ := hR
  clear w ok aok
  generalize s.fits i = fa at *
  generalize (Shard.at_ s.shards i).good = gd at *
  generalize Shard.at_ s.shards (i - 1) = pa at *
  generalize Shard.at_ s.shards i = a at *
  rw [loop_run]
  conv in (codeF _ _ r206L0 _) => unfold r206L0
  simp only [rn, RO.dst, lk, drop, Nat.reduceBEq, Nat.reduceAdd, Nat.reduceLeDiff, ↓reduceIte, reduceCtorEq, hlt, hxi, hld]
  cases gd with
  | false =>
    simp only [rn, RO.dst, lk, drop, Nat.reduceBEq, Nat.reduceAdd, Nat.reduceLeDiff, ↓reduceIte, reduceCtorEq, hc, hg]
    exact .inr ⟨by simp_all, _, rfl, og, rfl⟩
  | true =>
    by_cases hp : 0 < i
    · have g1 : (i : Int) > 0 := by omega
      have hi0 : (i == 0) = false := by simp; omega
      have q1 := hpre hp
      have q2 := hpi hp
      obtain ⟨r', q3, f', y1, y2, y3, y4, rfl, _⟩ := hpl hp
      clear hxi hpre hpi hpl hld
      simp only [rn, RO.dst, lk, drop, Nat.reduceBEq, Nat.reduceAdd, Nat.reduceLeDiff, ↓reduceIte, reduceCtorEq, hws, g1, q1, q2, q3, hc, hg]
      (repeat' ((first | (rw [gF_if]; split) | (rw [condC_if]; split) | (rw [pickR_if]; split)) <;> (rename_i hh; (try simp only [Bool.not_eq_true, decide_eq_true_eq] at hh); simp only [hh, rn, RO.dst, lk, drop, Nat.reduceBEq, Nat.reduceAdd, Nat.reduceLeDiff, ↓reduceIte, reduceCtorEq, hws, g1, q1, q2, q3, hc, hg])))
      all_goals clear q2 q3 hc hg
      all_goals first
        | exact .inl ⟨by simp_all <;> omega, _, og, rfl⟩
        | exact .inr ⟨by simp_all <;> omega, _, rfl, og, rfl⟩
    · have g1 : ¬ (i : Int) > 0 := by omega
      have hi0 : (i == 0) = true := by simp; omega
      clear hxi hpre hpi hpl hld
      simp only [rn, RO.dst, lk, drop, Nat.reduceBEq, Nat.reduceAdd, Nat.reduceLeDiff, ↓reduceIte, reduceCtorEq, hws, g1, hc, hg]
      (repeat' ((first | (rw [gF_if]; split) | (rw [condC_if]; split) | (rw [pickR_if]; split)) <;> (rename_i hh; (try simp only [Bool.not_eq_true, decide_eq_true_eq] at hh); simp only [hh, rn, RO.dst, lk, drop, Nat.reduceBEq, Nat.reduceAdd, Nat.reduceLeDiff, ↓reduceIte, reduceCtorEq, hws, g1, hc, hg])))
      all_goals clear hc hg
      all_goals first
        | exact .inl ⟨by simp_all <;> omega, _, og, rfl⟩
        | exact .inr ⟨by simp_all <;> omega, _, rfl, og, rfl⟩
set_option maxHeartbeats 4000000 in
theorem isStore_run (k : KI F) (v : Store.RI h cs s fp) (ok : s.Ok) : ∃ h', call F Z 206 [.agg cs] h = some (.c (.bool s.good), h') ∧ On h h' := by
  obtain ⟨x, p, rfl, rfl, w⟩ := v
  have key := loop_on (F := F) (Z := Z) (live := [1, 26, 27, 28]) (b := r206L0) s.shards.length (fun i g => ⟨[(26, .c x), (27, .c (.int .i64 (s.shards.length : Nat))), (28, .c (.int .i64 (i : Nat)))], [(1, 1, 0)], [(1, [.int .i64 s.group, .int .i64 s.seen, x])], g⟩) h s.fits (fun s' => lk s'.env 2 = some (.c (.bool false)))
    fun i g hi og => isStore_turn k (w.on Shard.okI og) ok.shards i hi
  have l1 := w.len
  have n1 : ¬ (s.shards.length : Int) < s.shards.length := by omega
  clear w ok
  simp only [show ((0 : Nat) : Int) = 0 from rfl] at key
  have hg := isGroupId_run (Z := Z) k.i11
  have hgd : s.good = (inR s.group 0 99 && (inR s.seen 0 1000000 && (decide ((s.shards.length : Int) ≤ 8) && (List.range s.shards.length).all s.fits))) := rfl
  generalize s.good = sg at *
  generalize (List.range s.shards.length).all s.fits = al at *
  rw [call_run F Z (k.i13.lk (g := 206) rfl) _ _ rfl]
  simp only [rn, RO.dst, lk, drop, Nat.reduceBEq, Nat.reduceAdd, Nat.reduceLeDiff, ↓reduceIte, reduceCtorEq, hg, l1]
  clear k
  (repeat' ((first | (rw [gF_if]; split) | (rw [condC_if]; split) | (rw [pickR_if]; split)) <;> (rename_i hh; (try simp only [Bool.not_eq_true, decide_eq_true_eq] at hh); simp only [hh, rn, RO.dst, lk, drop, Nat.reduceBEq, Nat.reduceAdd, Nat.reduceLeDiff, ↓reduceIte, reduceCtorEq, hg, l1])))
  all_goals clear hg l1
  all_goals first
    | (refine ⟨_, ?_, On.refl h⟩; simp_all [inR]; done)
    | (refine ⟨_, ?_, On.refl h⟩; simp_all [inR]; omega)
    | (rcases key with ⟨a1, g, og, a2⟩ | ⟨a1, s', a2, og, a3⟩
       · dsimp only at a2
         rw [a2, loop_run]
         conv in (codeF _ _ r206L0 _) => unfold r206L0
         simp only [rn, RO.dst, lk, drop, Nat.reduceBEq, Nat.reduceAdd, Nat.reduceLeDiff, ↓reduceIte, reduceCtorEq, n1]
         refine ⟨_, ?_, og⟩
         simp_all [inR] <;> omega
       · rw [a2]
         simp only [rn, RO.dst, lk, drop, Nat.reduceBEq, Nat.reduceAdd, Nat.reduceLeDiff, ↓reduceIte, reduceCtorEq, a3]
         refine ⟨_, ?_, og⟩
         simp_all [inR] <;> omega)
end
end Go.Proofs.YtahkgghifaodoaaGreat.A
namespace Go.Proofs.YtahkgghifaodoaaGreat.A
open Go
set_option linter.unusedSimpArgs false
set_option linter.unusedVariables false
section
variable {F : Nat → Option RF} {Z : CallF} {h : Heap} {cs : List Cell} {s : Store} {fp : List Nat} {x : Cell}
theorem l13Shard_q (k : KS F) {t : Shard} {cs : List Cell} {fp : List Nat} (v : Shard.RI h cs t fp) (ok : t.Ok) :
    call F Z 204 [.agg cs] ⟨h.next, h.next, h.get⟩ = some (.c (.bool t.good), ⟨h.next, h.next, h.get⟩) := l13Shard_run (Z := Z) k.s01 k.s10 k.s13 (Shard.okI.up v h.next) ok
set_option maxHeartbeats 4000000 in
theorem sStoreOk_turn (k : KS F) (w : SlR 16 Shard.RI h x s.shards fp) (ok : ∀ a, a ∈ s.shards → a.Ok) (i : Nat) (hi : i < s.shards.length) :
    Turn (loop F Z [1, 3] r156L0 ⟨[(3, .c (.int .i64 (i : Nat)))], [(1, 1, 0)], [(1, [.int .i64 s.group, .int .i64 s.seen, x])], h⟩)
      (loop F Z [1, 3] r156L0 ⟨[(3, .c (.int .i64 ((i + 1 : Nat) : Int)))], [(1, 1, 0)], [(1, [.int .i64 s.group, .int .i64 s.seen, x])], h⟩)
      (s.fits i) (fun s' => lk s'.env 2 = some (.c (.bool false)) ∧ s'.hp = h) := by
  have hle := w.le2
  have hlt : (i : Int) < s.shards.length := by omega
  have hws := wrapS i (by omega)
  have hxi := w.idx hi
  have hwl := w.len
  obtain ⟨r, f, hld, hR, _⟩ := w.one hi
  rw [← Shard.at_get hi] at hR
  have aok := ok _ (List.getElem_mem hi)
  rw [← Shard.at_get hi] at aok
  have hc := l13Shard_q (Z := Z) k hR aok
  have hpre : 0 < i → IntKind.i64.wrap ((i : Int) - 1) = ((i - 1 : Nat) : Int) := fun hp => by rw [wrapI _ (by omega) (by omega)]; omega
  have hpi : 0 < i → idxR 16 (some x) (some ((i - 1 : Nat) : Int)) = some (.ptr x.sid (i - 1) 0) := fun hp => w.idx (by omega)
  have hpl : 0 < i → ∃ r', (∀ j n, loadP h x.sid (i - 1) j n = cut? r' j n) ∧ ∃ f', Shard.RI h r' (Shard.at_ s.shards (i - 1)) f' := fun hp => by
    obtain ⟨r', f', h1, h2, _⟩ := w.one (show i - 1 < s.shards.length by omega)
    rw [← Shard.at_get] at h2
    exact ⟨r', h1, f', h2⟩
  have hfit : s.fits i = ((Shard.at_ s.shards i).good && (decide ((Shard.at_ s.shards i).epoch ≤ s.seen) && (i == 0 || decide ((Shard.at_ s.shards (i - 1)).hi < (Shard.at_ s.shards i).lo)))) := rfl
  obtain ⟨x1, p1, x2, p2, rfl, _⟩ := hR
  clear w ok aok
  generalize s.fits i = fa at *
  generalize (Shard.at_ s.shards i).good = gd at *
  generalize Shard.at_ s.shards (i - 1) = pa at *
  generalize Shard.at_ s.shards i = a at *
  rw [loop_run]
  conv in (codeF _ _ r156L0 _) => unfold r156L0
  simp only [rn, RO.dst, lk, drop, Nat.reduceBEq, Nat.reduceAdd, Nat.reduceLeDiff, ↓reduceIte, reduceCtorEq, hwl, hlt, hxi, hld]
  cases gd with
  | false =>
    simp only [rn, RO.dst, lk, drop, Nat.reduceBEq, Nat.reduceAdd, Nat.reduceLeDiff, ↓reduceIte, reduceCtorEq, hc]
    exact .inr ⟨by simp_all, _, rfl, rfl, rfl⟩
  | true =>
    by_cases hp : 0 < i
    · have g1 : (i : Int) > 0 := by omega
      have hi0 : (i == 0) = false := by simp; omega
      have q1 := hpre hp
      have q2 := hpi hp
      obtain ⟨r', q3, f', y1, y2, y3, y4, rfl, _⟩ := hpl hp
      clear hxi hpre hpi hpl hld
      simp only [rn, RO.dst, lk, drop, Nat.reduceBEq, Nat.reduceAdd, Nat.reduceLeDiff, ↓reduceIte, reduceCtorEq, hws, g1, q1, q2, q3, hc]
      (repeat' ((first | (rw [gF_if]; split) | (rw [condC_if]; split) | (rw [pickR_if]; split)) <;> (rename_i hh; (try simp only [Bool.not_eq_true, decide_eq_true_eq] at hh); simp only [hh, rn, RO.dst, lk, drop, Nat.reduceBEq, Nat.reduceAdd, Nat.reduceLeDiff, ↓reduceIte, reduceCtorEq, hws, g1, q1, q2, q3, hc])))
      all_goals clear q2 q3 hc
      all_goals first
        | exact .inl ⟨by simp_all <;> omega, rfl⟩
        | exact .inr ⟨by simp_all <;> omega, _, rfl, rfl, rfl⟩
    · have g1 : ¬ (i : Int) > 0 := by omega
      have hi0 : (i == 0) = true := by simp; omega
      clear hxi hpre hpi hpl hld
      simp only [rn, RO.dst, lk, drop, Nat.reduceBEq, Nat.reduceAdd, Nat.reduceLeDiff, ↓reduceIte, reduceCtorEq, hws, g1, hc]
      (repeat' ((first | (rw [gF_if]; split) | (rw [condC_if]; split) | (rw [pickR_if]; split)) <;> (rename_i hh; (try simp only [Bool.not_eq_true, decide_eq_true_eq] at hh); simp only [hh, rn, RO.dst, lk, drop, Nat.reduceBEq, Nat.reduceAdd, Nat.reduceLeDiff, ↓reduceIte, reduceCtorEq, hws, g1, hc])))
      all_goals clear hc
      all_goals first
        | exact .inl ⟨by simp_all <;> omega, rfl⟩
        | exact .inr ⟨by simp_all <;> omega, _, rfl, rfl, rfl⟩
set_option maxHeartbeats 4000000 in
theorem sStoreOk_run (k : KS F) (v : Store.RI h cs s fp) (ok : s.Ok) : call F Z 156 [.agg cs] h = some (.c (.bool s.good), h) := by
  obtain ⟨x, p, rfl, rfl, w⟩ := v
  have key := loop_allN (F := F) (Z := Z) (live := [1, 3]) (b := r156L0) s.shards.length (fun i => ⟨[(3, .c (.int .i64 (i : Nat)))], [(1, 1, 0)], [(1, [.int .i64 s.group, .int .i64 s.seen, x])], h⟩) s.fits (fun s' => lk s'.env 2 = some (.c (.bool false)) ∧ s'.hp = h)
    fun i hi => sStoreOk_turn k w ok.shards i hi
  have l1 := w.len
  have n1 : ¬ (s.shards.length : Int) < s.shards.length := by omega
  clear w ok
  simp only [show ((0 : Nat) : Int) = 0 from rfl] at key
  have hg := fun n lo hi => l01In_run (Z := Z) k.s01 n lo hi h
  have hgd : s.good = (inR s.group 0 99 && (inR s.seen 0 1000000 && (decide ((s.shards.length : Int) ≤ 8) && (List.range s.shards.length).all s.fits))) := rfl
  generalize s.good = sg at *
  generalize (List.range s.shards.length).all s.fits = al at *
  rw [call_run F Z (k.s13.lk (g := 156) rfl) _ _ rfl]
  simp only [rn, RO.dst, lk, drop, Nat.reduceBEq, Nat.reduceAdd, Nat.reduceLeDiff, ↓reduceIte, reduceCtorEq, hg, l1]
  clear k
  (repeat' ((first | (rw [gF_if]; split) | (rw [condC_if]; split) | (rw [pickR_if]; split)) <;> (rename_i hh; (try simp only [Bool.not_eq_true, decide_eq_true_eq] at hh); simp only [hh, rn, RO.dst, lk, drop, Nat.reduceBEq, Nat.reduceAdd, Nat.reduceLeDiff, ↓reduceIte, reduceCtorEq, hg, l1])))
  all_goals clear hg
  all_goals first
    | (simp_all [inR] <;> omega)
    | (rcases key with ⟨a1, a2⟩ | ⟨a1, s', a2, a3, a4⟩
       · rw [a2, loop_run]
         conv in (codeF _ _ r156L0 _) => unfold r156L0
         simp only [rn, RO.dst, lk, drop, Nat.reduceBEq, Nat.reduceAdd, Nat.reduceLeDiff, ↓reduceIte, reduceCtorEq, l1, n1]
         simp_all [inR] <;> omega
       · rw [a2]
         simp only [rn, RO.dst, lk, drop, Nat.reduceBEq, Nat.reduceAdd, Nat.reduceLeDiff, ↓reduceIte, reduceCtorEq, a3, a4]
         simp_all [inR] <;> omega)
variable {c : Heap}
end
end Go.Proofs.YtahkgghifaodoaaGreat.A
namespace Go.Proofs.YtahkgghifaodoaaGreat.A
open Go
set_option linter.unusedSimpArgs false
set_option linter.unusedVariables false
def findId (xs : List Shard) (id : Int) : Int := findI (fun t => decide (t.lo ≤ id) && decide (id ≤ t.hi)) xs
section
variable {F : Nat → Option RF} {Z : CallF} {h : Heap} {x : Cell} {xs : List Shard} {fp : List Nat} {cs : List Cell} {s : Store}
theorem indexShard_run (hL : Has F tLibslicesIndexFuncimplShardimplShard) (w : SlR 16 Shard.RI h x xs fp) (f : Nat) (ps : List (Nat × Nat × Nat)) (p : Shard → Bool)
    (hc : ∀ r t q, Shard.RI h r t q → call F Z f (.agg r :: capV ps) h = some (.c (.bool (p t)), h)) : call F Z 248 [.c x, .c (.fn f ps)] h = some (.c (.int .i64 (findI p xs)), h) := by
  have hle := w.le2
  rw [call_run F Z (hL.lk (g := 248) rfl) _ _ rfl]
  simp only [rn, RO.dst, lk, drop, Nat.reduceBEq, Nat.reduceAdd, Nat.reduceLeDiff, ↓reduceIte, reduceCtorEq, w.len]
  have key := loop_find (F := F) (Z := Z) (live := [0, 1, 7, 8]) (b := r248L0) xs p (fun i => ⟨[(0, .c x), (1, .c (.fn f ps)), (7, .c (.int .i64 (xs.length : Nat))), (8, .c (.int .i64 (i : Nat)))], [], [], h⟩) (fun i s => lk s.env 4 = some (.c (.int .i64 (i : Nat))) ∧ s.hp = h) fun i hi => by
    have hlt : (i : Int) < xs.length := by omega
    have hws := wrapS i (by omega)
    obtain ⟨r, q, hld, hR, _⟩ := w.one hi
    have hci := hc _ _ _ hR
    obtain ⟨r1, r2, r3⟩ := Shard.lenI hR
    have hxi := w.idx hi
    clear w hR
    rw [loop_run]
    conv in (codeF _ _ r248L0 _) => unfold r248L0
    simp only [rn, RO.dst, lk, drop, Nat.reduceBEq, Nat.reduceAdd, Nat.reduceLeDiff, ↓reduceIte, reduceCtorEq, hlt, hxi, hld, r1, r2, r3]
    simp only [hci, rn, RO.dst, lk, drop, Nat.reduceBEq, Nat.reduceAdd, Nat.reduceLeDiff, ↓reduceIte, reduceCtorEq]
    (repeat' ((first | (rw [gF_if]; split) | (rw [condC_if]; split) | (rw [pickR_if]; split)) <;> (rename_i hh; (try simp only [Bool.not_eq_true, decide_eq_true_eq] at hh); simp only [hh, rn, RO.dst, lk, drop, Nat.reduceBEq, Nat.reduceAdd, Nat.reduceLeDiff, ↓reduceIte, reduceCtorEq, hws]))) <;> first
      | exact .inl ⟨by simp_all, rfl⟩
      | exact .inr ⟨by simp_all, _, rfl, rfl, rfl⟩
  have hlt : ¬ (xs.length : Int) < xs.length := by omega
  simp only [show ((0 : Nat) : Int) = 0 from rfl] at key
  rcases key with ⟨k1, k2⟩ | ⟨i, k1, hi, s, k2, k3, k4⟩
  · rw [k2, loop_run]
    conv in (codeF _ _ r248L0 _) => unfold r248L0
    simp only [rn, RO.dst, lk, drop, Nat.reduceBEq, Nat.reduceAdd, Nat.reduceLeDiff, ↓reduceIte, reduceCtorEq, hlt, findI, k1]
  · rw [k2]
    simp only [rn, RO.dst, lk, drop, Nat.reduceBEq, Nat.reduceAdd, Nat.reduceLeDiff, ↓reduceIte, reduceCtorEq, k3, k4, findI, k1]
theorem shardWith_run (hI13 : Has F tI13) (hL : Has F tLibslicesIndexFuncimplShardimplShard) (v : Store.RI h cs s fp) (id : Int) :
    call F Z 212 [.agg cs, .c (.int .u64 id)] h = some (.c (.int .i64 (findId s.shards id)), h.push [[.int .u64 id]]) := by
  obtain ⟨x, p, rfl, rfl, w⟩ := v
  have w' := w.on Shard.okI (On.push h [[.int .u64 id]])
  have hr := indexShard_run (Z := Z) hL w' 247 [(h.next, 0, 0)] (fun t => decide (t.lo ≤ id) && decide (id ≤ t.hi)) fun r t q hR => by
    obtain ⟨x1, p1, x2, p2, rfl, _⟩ := hR
    have hl : loadP (h.push [[.int .u64 id]]) h.next 0 0 1 = some [.int .u64 id] := by simp [loadP, rowOf, push_get, cut?]
    simp only [rn, RO.dst, lk, drop, Nat.reduceBEq, Nat.reduceAdd, Nat.reduceLeDiff, ↓reduceIte, reduceCtorEq, capV_cons]
    rw [call_run F Z (hI13.lk (g := 247) rfl) _ _ rfl]
    simp only [rn, RO.dst, lk, drop, Nat.reduceBEq, Nat.reduceAdd, Nat.reduceLeDiff, ↓reduceIte, reduceCtorEq, hl]
    (repeat' ((first | (rw [gF_if]; split) | (rw [condC_if]; split) | (rw [pickR_if]; split)) <;> (rename_i hh; (try simp only [Bool.not_eq_true, decide_eq_true_eq] at hh); simp only [hh, rn, RO.dst, lk, drop, Nat.reduceBEq, Nat.reduceAdd, Nat.reduceLeDiff, ↓reduceIte, reduceCtorEq, hl]))) <;> simp_all
  rw [call_run F Z (hI13.lk (g := 212) rfl) _ _ rfl]
  simp only [rn, RO.dst, lk, drop, Nat.reduceBEq, Nat.reduceAdd, Nat.reduceLeDiff, ↓reduceIte, reduceCtorEq, hr, evPtrs]
  rfl
theorem shardWith_on (hI13 : Has F tI13) (hL : Has F tLibslicesIndexFuncimplShardimplShard) (v : Store.RI h cs s fp) (id : Int) :
    ∃ h', call F Z 212 [.agg cs, .c (.int .u64 id)] h = some (.c (.int .i64 (findId s.shards id)), h') ∧ On h h' := ⟨_, shardWith_run hI13 hL v id, On.push _ _⟩
theorem l13Find_run (hS13 : Has F tS13) (v : Store.RI h cs s fp) (id : Int) : call F Z 211 [.agg cs, .c (.int .u64 id)] h = some (.c (.int .i64 (findId s.shards id)), h) := by
  obtain ⟨x, p, rfl, rfl, w⟩ := v
  have hle := w.le2
  have hwl := w.len
  rw [call_run F Z (hS13.lk (g := 211) rfl) _ _ rfl]
  simp only [rn, RO.dst, lk, drop, Nat.reduceBEq, Nat.reduceAdd, Nat.reduceLeDiff, ↓reduceIte, reduceCtorEq]
  have key := loop_find (F := F) (Z := Z) (live := [1, 2, 5]) (b := r211L0) s.shards (fun t => decide (t.lo ≤ id) && decide (id ≤ t.hi)) (fun i => ⟨[(1, .c (.int .u64 id)), (5, .c (.int .i64 (i : Nat)))], [(2, 2, 0)], [(2, [.int .i64 s.group, .int .i64 s.seen, x])], h⟩) (fun i s => lk s.env 4 = some (.c (.int .i64 (i : Nat))) ∧ s.hp = h) fun i hi => by
    have hlt : (i : Int) < s.shards.length := by omega
    have hws := wrapS i (by omega)
    obtain ⟨r, q, hld, hR, _⟩ := w.one hi
    obtain ⟨x1, p1, x2, p2, rfl, _⟩ := hR
    have hxi := w.idx hi
    clear w
    rw [loop_run]
    conv in (codeF _ _ r211L0 _) => unfold r211L0
    simp only [rn, RO.dst, lk, drop, Nat.reduceBEq, Nat.reduceAdd, Nat.reduceLeDiff, ↓reduceIte, reduceCtorEq, hwl, hlt, hxi, hld]
    (repeat' ((first | (rw [gF_if]; split) | (rw [condC_if]; split) | (rw [pickR_if]; split)) <;> (rename_i hh; (try simp only [Bool.not_eq_true, decide_eq_true_eq] at hh); simp only [hh, rn, RO.dst, lk, drop, Nat.reduceBEq, Nat.reduceAdd, Nat.reduceLeDiff, ↓reduceIte, reduceCtorEq, hws, hxi, hld]))) <;> first
      | exact .inl ⟨by simp_all, rfl⟩
      | exact .inr ⟨by simp_all, _, rfl, rfl, rfl⟩
  have hlt : ¬ (s.shards.length : Int) < s.shards.length := by omega
  simp only [show ((0 : Nat) : Int) = 0 from rfl] at key
  rcases key with ⟨k1, k2⟩ | ⟨i, k1, hi, s, k2, k3, k4⟩
  · rw [k2, loop_run]
    conv in (codeF _ _ r211L0 _) => unfold r211L0
    simp only [rn, RO.dst, lk, drop, Nat.reduceBEq, Nat.reduceAdd, Nat.reduceLeDiff, ↓reduceIte, reduceCtorEq, hwl, hlt, findId, findI, k1]
  · rw [k2]
    simp only [rn, RO.dst, lk, drop, Nat.reduceBEq, Nat.reduceAdd, Nat.reduceLeDiff, ↓reduceIte, reduceCtorEq, k3, k4, findId, findI, k1]
end
end Go.Proofs.YtahkgghifaodoaaGreat.A
namespace Go.Proofs.YtahkgghifaodoaaGreat.A
open Go
set_option linter.unusedSimpArgs false
set_option linter.unusedVariables false
def Shard.cells (t : Shard) (x y : Cell) : List Cell := [.int .u64 t.lo, .int .u64 t.hi, .int .i64 t.state, .int .i64 t.epoch, x, y]
section
variable {F : Nat → Option RF} {Z : CallF} {h : Heap} {x : Cell} {xs : List Shard} {fp fq : List Nat}
theorem SlR.found (w : SlR 16 Shard.RI h x xs fp) (p : Shard → Bool) : findI p xs = -1 ∨ ∃ i : Nat, findI p xs = (i : Int) ∧ i < xs.length ∧ p (Shard.at_ xs i) = true ∧ idxR 16 (some x) (some (i : Int)) = some (.ptr x.sid i 0) ∧
    ∃ y z, ∀ j n, loadP h x.sid i j n = cut? ((Shard.at_ xs i).cells y z) j n := by
  by_cases h0 : 0 ≤ findI p xs
  · obtain ⟨i, e, hi, hp⟩ := findI_at h0
    obtain ⟨r, f, hl, hR, _⟩ := w.one hi
    rw [← Shard.at_get hi] at hR hp
    obtain ⟨x1, p1, x2, p2, rfl, _⟩ := hR
    exact .inr ⟨i, e, hi, hp, w.idx hi, x1, x2, hl⟩
  · exact .inl (findI_no (by omega))
end
end Go.Proofs.YtahkgghifaodoaaGreat.A
namespace Go.Proofs.YtahkgghifaodoaaGreat.A
open Go
set_option linter.unusedSimpArgs false
set_option linter.unusedVariables false
section
variable {F : Nat → Option RF} {Z : CallF} {h : Heap} {x : Cell} {xs : List Account} {fp fq : List Nat} {cs : List Cell} {t : Shard}
theorem copyShard_c (hI10 : Has F tI10) (hI13 : Has F tI13) (hf : h.floor ≤ h.next) (v : Shard.RI h cs t fp) (sm : t.Small) : ∃ cs' h' fq, call F Z 229 [.agg cs] h = some (.agg cs', h') ∧ On h h' ∧ Shard.RI h' cs' t fq ∧ Fre h fq := by
  obtain ⟨x, p, y, q, rfl, rfl, w, u⟩ := v
  obtain ⟨y1, h1, q1, e1, o1, u1, f1⟩ := copyBook_c (Z := Z) hI10 hf w sm.1
  have sm2 : t.finished.length ≤ 1048576 := sm.2
  have hf1 := o1.le hf
  have a0 := Acc.lit0 (tag := 9) (On.refl h1)
  have w' := (u.on (Fl.ok _) o1).on (Fl.ok _) (On.push h1 [])
  have ce := a0.cat_eq (bytes := 16) (y := y) (new := t.finished.map Fin.enc) hf1 w'.isTag w'.rows (by simp; omega)
  have ac := a0.cat (new := t.finished.map Fin.enc) hf1 (by simp; omega)
  simp only [List.nil_append] at ac
  obtain ⟨o, fq, u2, f⟩ := ac.flat
  rw [call_run F Z (hI13.lk (g := 229) rfl) _ _ rfl]
  simp only [rn, RO.dst, lk, drop, Nat.reduceBEq, Nat.reduceAdd, Nat.reduceLeDiff, ↓reduceIte, reduceCtorEq, e1, List.replicate_zero, fills, ce]
  exact ⟨_, _, _, rfl, o1.trans o, ⟨_, _, _, _, rfl, rfl, u1.on (Fl.ok _) o, u2⟩, f1.app (u1.lt (Fl.ok _)) f o1.ext.1⟩
theorem l13CopyShard_c (hS10 : Has F tS10) (hS13 : Has F tS13) (hf : h.floor ≤ h.next) (v : Shard.RI h cs t fp) (sm : t.Small) : ∃ cs' h' fq, call F Z 228 [.agg cs] h = some (.agg cs', h') ∧ On h h' ∧ Shard.RI h' cs' t fq ∧ Fre h fq := by
  obtain ⟨x, p, y, q, rfl, rfl, w, u⟩ := v
  obtain ⟨y1, h1, q1, e1, o1, u1, f1⟩ := l10Copy_c (Z := Z) hS10 hf w sm.1
  have sm2 : t.finished.length ≤ 1048576 := sm.2
  have hf1 := o1.le hf
  rw [call_run F Z (hS13.lk (g := 228) rfl) _ _ rfl]
  simp only [rn, RO.dst, lk, drop, Nat.reduceBEq, Nat.reduceAdd, Nat.reduceLeDiff, ↓reduceIte, reduceCtorEq, e1, List.replicate_zero, fills]
  obtain ⟨y2, h2, a2, l2⟩ := loop_acc (F := F) (Z := Z) (live := [1, 2, 3, 4]) (b := r228L0) t.finished (fun r => [r.enc]) 9 h1 (fun i z g => ⟨[(3, .c z), (4, .c (.int .i64 (i : Nat)))], [(1, 1, 0), (2, 2, 0)], [(1, [.int .u64 t.lo, .int .u64 t.hi, .int .i64 t.state, .int .i64 t.epoch, y1, y]), (2, [.int .u64 0, .int .u64 0, .int .i64 0, .int .i64 0, .nil, .nil])], g⟩) (fun r => by simp) (fun i hi z g rows a hr => by
    have e1 := a.one_eq hf1 (bytes := 16) (by omega)
    have a1 := a.one hf1 (by omega)
    have hlt : (i : Int) < t.finished.length := by omega
    have wg := (u.on (Fl.ok _) o1).on (Fl.ok _) a.on
    rw [loop_run]
    conv in (codeF _ _ r228L0 _) => unfold r228L0
    simp only [rn, RO.dst, lk, drop, Nat.reduceBEq, Nat.reduceAdd, Nat.reduceLeDiff, ↓reduceIte, reduceCtorEq, u.len, hlt, u.idx hi, wg.load hi, Fin.len, Fin.tak, wrapS i (by omega), List.replicate_succ, List.replicate_zero, fills, and_self, Nat.zero_lt_one, List.set_cons_zero, e1]
    exact ⟨_, _, a1 _, rfl⟩) (Acc.lit0 (On.refl h1))
  simp only [show ((0 : Nat) : Int) = 0 from rfl] at l2
  have hlt : ¬ (t.finished.length : Int) < t.finished.length := by omega
  rw [l2, loop_run]
  conv in (codeF _ _ r228L0 _) => unfold r228L0
  simp only [rn, RO.dst, lk, drop, Nat.reduceBEq, Nat.reduceAdd, Nat.reduceLeDiff, ↓reduceIte, reduceCtorEq, u.len, hlt]
  rw [flatMap_one] at a2
  obtain ⟨o, fq, u2, f⟩ := a2.flat
  exact ⟨_, _, _, rfl, o1.trans o, ⟨_, _, _, _, rfl, rfl, u1.on (Fl.ok _) o, u2⟩, f1.app (u1.lt (Fl.ok _)) f o1.ext.1⟩
variable {s : Store}
end
end Go.Proofs.YtahkgghifaodoaaGreat.A
namespace Go.Proofs.YtahkgghifaodoaaGreat.A
open Go
set_option linter.unusedSimpArgs false
set_option linter.unusedVariables false
section
variable {F : Nat → Option RF} {Z : CallF} {h : Heap} {x : Cell} {xs : List Shard} {fp fq : List Nat} {cs : List Cell} {s : Store} {t : Shard}
theorem copyShard_q (hI10 : Has F tI10) (hI13 : Has F tI13) (v : Shard.RI h cs t fp) (sm : t.Small) :
    ∃ cs' h' g fq, call F Z 229 [.agg cs] ⟨h.next, h.next, h.get⟩ = some (.agg cs', h') ∧ Heap.mk h'.next h.floor h'.get = g ∧ On h g ∧ Shard.RI g cs' t fq ∧ Fre h fq ∧ cs'.length = 6 := by
  obtain ⟨cs', h', fq, e, o, u, f⟩ := copyShard_c (Z := Z) (h := ⟨h.next, h.next, h.get⟩) hI10 hI13 (Nat.le_refl _) (Shard.okI.up v h.next) sm
  exact ⟨cs', h', _, fq, e, rfl, ⟨⟨o.ext.1, o.ext.2⟩, rfl⟩, Shard.okI.up u h.floor, ⟨f.lo, f.nd⟩, (Shard.lenI u).1⟩
theorem l13CopyShard_q (hS10 : Has F tS10) (hS13 : Has F tS13) (v : Shard.RI h cs t fp) (sm : t.Small) :
    ∃ cs' h' g fq, call F Z 228 [.agg cs] ⟨h.next, h.next, h.get⟩ = some (.agg cs', h') ∧ Heap.mk h'.next h.floor h'.get = g ∧ On h g ∧ Shard.RI g cs' t fq ∧ Fre h fq ∧ cs'.length = 6 := by
  obtain ⟨cs', h', fq, e, o, u, f⟩ := l13CopyShard_c (Z := Z) (h := ⟨h.next, h.next, h.get⟩) hS10 hS13 (Nat.le_refl _) (Shard.okI.up v h.next) sm
  exact ⟨cs', h', _, fq, e, rfl, ⟨⟨o.ext.1, o.ext.2⟩, rfl⟩, Shard.okI.up u h.floor, ⟨f.lo, f.nd⟩, (Shard.lenI u).1⟩
theorem AccM.next {g k : Heap} {y : Cell} {ys : List Shard} (a : AccM Shard.RI 16 h g y ys fp) (hf : h.floor ≤ h.next) (hl : ys.length ≤ 1048576) (o : On g k) {cs' : List Cell} (u : Shard.RI k cs' t fq) (f : Fre g fq) :
    ∃ y' g' fp', appF (k.push [cs']) 16 80 y (.sl 16 k.next 0 1) = some (y', g') ∧ AccM Shard.RI 16 h g' y' (ys ++ [t]) fp' := by
  have hlt : ∀ id, id ∈ fp → id < g.next := a.sh.lt Shard.okI
  obtain ⟨y', g', fp', e, a', _⟩ := a.one Shard.okI hf (bytes := 80) (by omega) (by omega) o u ⟨fun id hid => Nat.le_trans a.on.ext.1 (f.lo id hid), f.nd⟩ (fun id h1 h2 => by
    have := hlt id h2
    have := f.lo id h1
    omega)
  exact ⟨y', g', fp', e, a'⟩
set_option maxHeartbeats 1000000 in
theorem copyStore_c (k : KI F) (hf : h.floor ≤ h.next) (v : Store.RI h cs s fp) (sm : s.Small) :
    ∃ cs' h' fq, call F Z 320 [.agg cs] h = some (.agg cs', h') ∧ On h h' ∧ Store.RI h' cs' s fq ∧ Fre h fq := by
  obtain ⟨x, p, rfl, rfl, w⟩ := v
  have hle := w.le2
  have hwl := w.len
  rw [call_run F Z (k.i13.lk (g := 320) rfl) _ _ rfl]
  simp only [rn, RO.dst, lk, drop, Nat.reduceBEq, Nat.reduceAdd, Nat.reduceLeDiff, ↓reduceIte, reduceCtorEq, hwl]
  obtain ⟨s', ⟨y, g, fq, hs, a⟩, l1⟩ := loop_goes (F := F) (Z := Z) (live := [2, 3, 12, 13, 14]) (b := r320L0) s.shards.length (fun i st => ∃ y g fq, st = ⟨[(12, .c x), (13, .c (.int .i64 (s.shards.length : Nat))), (14, .c (.int .i64 (i : Nat)))], [(2, 2, 0), (3, 3, 0)], [(2, [.int .i64 0, .int .i64 0, .nil]), (3, [.int .i64 s.group, .int .i64 s.seen, y])], g⟩ ∧ AccM Shard.RI 16 h g y (s.shards.take i) fq) (fun i st hi ⟨y, g, fq, hs, a⟩ => by
    subst hs
    have hlt : (i : Int) < s.shards.length := by omega
    have hws := wrapS i (by omega)
    have hxi := w.idx hi
    obtain ⟨r, f, hld, hR, _⟩ := (w.on Shard.okI a.on).one hi
    obtain ⟨r1, r2, r3⟩ := Shard.lenI hR
    obtain ⟨cs', h', g1, fr, e1, hg1, o1, u1, f1, c1⟩ := copyShard_q (Z := Z) k.i10 k.i13 hR (sm.2 _ (List.getElem_mem hi))
    obtain ⟨y', g', fp', e2, a2⟩ := a.next hf (by rw [List.length_take]; have := sm.1; omega) o1 u1 f1
    have ht : s.shards.take (i + 1) = s.shards.take i ++ [s.shards[i]] := by rw [List.take_add_one, List.getElem?_eq_getElem hi]; rfl
    rw [← ht] at a2
    rw [loop_run]
    conv in (codeF _ _ r320L0 _) => unfold r320L0
    simp only [rn, RO.dst, lk, drop, Nat.reduceBEq, Nat.reduceAdd, Nat.reduceLeDiff, ↓reduceIte, reduceCtorEq, hlt, hxi, hld, r1, r2, r3, e1, hg1, List.replicate_succ, List.replicate_zero, fills, and_self, Nat.zero_lt_one, c1, List.set_cons_zero, e2, hws]
    exact ⟨_, ⟨_, _, _, rfl, a2⟩, rfl⟩) (s := ⟨[(12, .c x), (13, .c (.int .i64 (s.shards.length : Nat))), (14, .c (.int .i64 (0 : Nat)))], [(2, 2, 0), (3, 3, 0)], [(2, [.int .i64 0, .int .i64 0, .nil]), (3, [.int .i64 s.group, .int .i64 s.seen, .nil])], h⟩) ⟨_, _, _, rfl, by simpa using AccM.nil Shard.RI 16 h⟩
  subst hs
  simp only [show ((0 : Nat) : Int) = 0 from rfl] at l1
  rw [List.take_length] at a
  have hlt : ¬ (s.shards.length : Int) < s.shards.length := by omega
  rw [l1, loop_run]
  conv in (codeF _ _ r320L0 _) => unfold r320L0
  simp only [rn, RO.dst, lk, drop, Nat.reduceBEq, Nat.reduceAdd, Nat.reduceLeDiff, ↓reduceIte, reduceCtorEq, hlt]
  exact ⟨_, _, _, rfl, a.on, ⟨_, _, rfl, rfl, a.sh⟩, a.fr⟩
set_option maxHeartbeats 1000000 in
theorem l13Copy_c (k : KS F) (hf : h.floor ≤ h.next) (v : Store.RI h cs s fp) (sm : s.Small) :
    ∃ cs' h' fq, call F Z 317 [.agg cs] h = some (.agg cs', h') ∧ On h h' ∧ Store.RI h' cs' s fq ∧ Fre h fq := by
  obtain ⟨x, p, rfl, rfl, w⟩ := v
  have hle := w.le2
  have hwl := w.len
  rw [call_run F Z (k.s13.lk (g := 317) rfl) _ _ rfl]
  simp only [rn, RO.dst, lk, drop, Nat.reduceBEq, Nat.reduceAdd, Nat.reduceLeDiff, ↓reduceIte, reduceCtorEq]
  obtain ⟨s', ⟨y, g, fq, hs, a⟩, l1⟩ := loop_goes (F := F) (Z := Z) (live := [1, 2, 3, 4]) (b := r317L0) s.shards.length (fun i st => ∃ y g fq, st = ⟨[(4, .c (.int .i64 (i : Nat)))], [(1, 1, 0), (2, 2, 0), (3, 3, 0)], [(1, [.int .i64 s.group, .int .i64 s.seen, x]), (2, [.int .i64 0, .int .i64 0, .nil]), (3, [.int .i64 s.group, .int .i64 s.seen, y])], g⟩ ∧ AccM Shard.RI 16 h g y (s.shards.take i) fq) (fun i st hi ⟨y, g, fq, hs, a⟩ => by
    subst hs
    have hlt : (i : Int) < s.shards.length := by omega
    have hws := wrapS i (by omega)
    have hxi := w.idx hi
    obtain ⟨r, f, hld, hR, _⟩ := (w.on Shard.okI a.on).one hi
    obtain ⟨r1, r2, r3⟩ := Shard.lenI hR
    obtain ⟨cs', h', g1, fr, e1, hg1, o1, u1, f1, c1⟩ := l13CopyShard_q (Z := Z) k.s10 k.s13 hR (sm.2 _ (List.getElem_mem hi))
    obtain ⟨y', g', fp', e2, a2⟩ := a.next hf (by rw [List.length_take]; have := sm.1; omega) o1 u1 f1
    have ht : s.shards.take (i + 1) = s.shards.take i ++ [s.shards[i]] := by rw [List.take_add_one, List.getElem?_eq_getElem hi]; rfl
    rw [← ht] at a2
    rw [loop_run]
    conv in (codeF _ _ r317L0 _) => unfold r317L0
    simp only [rn, RO.dst, lk, drop, Nat.reduceBEq, Nat.reduceAdd, Nat.reduceLeDiff, ↓reduceIte, reduceCtorEq, hwl, hlt, hxi, hld, r1, r2, r3, e1, hg1, List.replicate_succ, List.replicate_zero, fills, and_self, Nat.zero_lt_one, c1, List.set_cons_zero, e2, hws]
    exact ⟨_, ⟨_, _, _, rfl, a2⟩, rfl⟩) (s := ⟨[(4, .c (.int .i64 (0 : Nat)))], [(1, 1, 0), (2, 2, 0), (3, 3, 0)], [(1, [.int .i64 s.group, .int .i64 s.seen, x]), (2, [.int .i64 0, .int .i64 0, .nil]), (3, [.int .i64 s.group, .int .i64 s.seen, .nil])], h⟩) ⟨_, _, _, rfl, by simpa using AccM.nil Shard.RI 16 h⟩
  subst hs
  simp only [show ((0 : Nat) : Int) = 0 from rfl] at l1
  rw [List.take_length] at a
  have hlt : ¬ (s.shards.length : Int) < s.shards.length := by omega
  rw [l1, loop_run]
  conv in (codeF _ _ r317L0 _) => unfold r317L0
  simp only [rn, RO.dst, lk, drop, Nat.reduceBEq, Nat.reduceAdd, Nat.reduceLeDiff, ↓reduceIte, reduceCtorEq, hwl, hlt]
  exact ⟨_, _, _, rfl, a.on, ⟨_, _, rfl, rfl, a.sh⟩, a.fr⟩
end
end Go.Proofs.YtahkgghifaodoaaGreat.A
namespace Go.Proofs.YtahkgghifaodoaaGreat.A
open Go
set_option linter.unusedSimpArgs false
set_option linter.unusedVariables false
def Store.next (s : Store) (e : Int) : Bool := s.good && (decide (s.seen < e) && decide (e ≤ 1000000))
section
variable {F : Nat → Option RF} {Z : CallF} {h : Heap} {x : Cell} {xs : List Shard} {fp fq : List Nat} {cs : List Cell} {s : Store} {t : Shard}
end
end Go.Proofs.YtahkgghifaodoaaGreat.A
namespace Go.Proofs.YtahkgghifaodoaaGreat.A
open Go
set_option linter.unusedSimpArgs false
set_option linter.unusedVariables false
structure Request where
  epoch : Int
  op : Int
  id : Int
  amount : Int
  tx : Int
  deriving DecidableEq
namespace Request
def enc (t : Request) : List Cell := [.int .i64 t.epoch, .int .i64 t.op, .int .u64 t.id, .int .u64 t.amount, .int .i64 t.tx]
theorem len (t : Request) : t.enc.length = 5 := rfl
theorem tak (t : Request) : t.enc.take 5 = t.enc := rfl
def none_ : Request := ⟨0, 0, 0, 0, 0⟩
structure Ok (t : Request) : Prop where
  epoch : -9223372036854775808 ≤ t.epoch ∧ t.epoch ≤ 9223372036854775807
  op : -9223372036854775808 ≤ t.op ∧ t.op ≤ 9223372036854775807
  id : 0 ≤ t.id ∧ t.id ≤ 18446744073709551615
  amount : 0 ≤ t.amount ∧ t.amount ≤ 18446744073709551615
  tx : -9223372036854775808 ≤ t.tx ∧ t.tx ≤ 9223372036854775807
end Request
theorem Wf.isRequest {h : Heap} {n : Nat} {cs : List Cell} (w : Wf h (n + 2) shRequest cs) : ∃ t : Request, cs = t.enc ∧ t.Ok := by
  obtain ⟨_, _, rfl, _, ⟨epoch0, rfl, h0⟩, _, _, rfl, _, ⟨op0, rfl, h1⟩, _, _, rfl, _, ⟨id0, rfl, h2⟩, _, _, rfl, _, ⟨amount0, rfl, h3⟩, _, _, rfl, _, ⟨tx0, rfl, h4⟩, rfl⟩ := w
  exact ⟨⟨epoch0, op0, id0, amount0, tx0⟩, rfl, ⟨wfI h0, wfI h1, wfU h2, wfU h3, wfI h4⟩⟩
end Go.Proofs.YtahkgghifaodoaaGreat.A
namespace Go.Proofs.YtahkgghifaodoaaGreat.A
open Go
set_option linter.unusedSimpArgs false
set_option linter.unusedVariables false
def lockDF (m tx : Int) : Act := fun a => if a.tx = 0 then (if m ≤ a.bal then (0, { a with bal := a.bal - m, hold := m, tx := tx }) else (4, a)) else (6, a)
def lockCF (m tx : Int) : Act := fun a => if a.tx = 0 then (if a.bal + m ≤ 18446744073709551615 then (0, { a with due := m, tx := tx }) else (5, a)) else (6, a)
def settleF (id tx : Int) : Act := fun a => if a.tx = tx then (0, ⟨id, a.bal + a.due, 0, 0, 0⟩) else (7, a)
def releaseF (id tx : Int) : Act := fun a => if a.tx = tx then (0, ⟨id, a.bal + a.hold, 0, 0, 0⟩) else (7, a)
def bookTx (xs : List Account) (id tx : Int) (f : Act) : List Account × Int := bif decide (tx < 1) then (xs, 1) else bookDo xs id f
def doBook (xs : List Account) (q : Request) : List Account × Int :=
  bif q.op == 0 then openBook xs q.id else bif q.op == 1 then bookDo xs q.id closeF else bif q.op == 2 then bookDo xs q.id (depF q.amount) else bif q.op == 3 then bookDo xs q.id (witF q.amount)
  else bif q.op == 4 then bookTx xs q.id q.tx (lockDF q.amount q.tx) else bif q.op == 5 then bookTx xs q.id q.tx (lockCF q.amount q.tx) else bif q.op == 6 then bookTx xs q.id q.tx (settleF q.id q.tx)
  else bif q.op == 7 then bookTx xs q.id q.tx (releaseF q.id q.tx) else (xs, bif decide (0 ≤ accAt xs q.id) then 0 else 2)
def doVal (r : List Account × Int) (a : Int) : Int := bif (r.2 == 0) && decide (0 ≤ accAt r.1 a) then (Account.at_ r.1 (accAt r.1 a).toNat).bal else 0
def Request.fin (q : Request) : Fin := ⟨q.tx, q.id⟩
def Request.ends (q : Request) : Bool := (q.op == 6) || (q.op == 7)
def doShard (x : Shard) (q : Request) : Shard := { x with book := ⟨(doBook x.book.list q).1⟩, finished := bif q.ends && !decide (q.fin ∈ x.finished) then sortFins (x.finished ++ [q.fin]) else x.finished }
def refuse (x : Shard) (q : Request) : Int :=
  bif !(x.epoch == q.epoch) then 9 else bif (x.state == 1) && !(q.op == 8) then 10 else bif inR q.op 4 7 && decide (q.tx < 1) then 11
  else bif ((q.op == 4) || (q.op == 5)) && decide (q.fin ∈ x.finished) then 12 else bif (q.ends && !decide (q.fin ∈ x.finished)) && ((x.finished.length : Int) == 60) then 13 else 0
def doStore (s : Store) (q : Request) : Store × Int × Int :=
  bif s.good && inR q.op 0 8 then
    (bif decide (0 ≤ findId s.shards q.id) then
      (bif refuse (Shard.at_ s.shards (findId s.shards q.id).toNat) q == 0 then
        ({ s with shards := s.shards.set (findId s.shards q.id).toNat (doShard (Shard.at_ s.shards (findId s.shards q.id).toNat) q) }, (doBook (Shard.at_ s.shards (findId s.shards q.id).toNat).book.list q).2, doVal (doBook (Shard.at_ s.shards (findId s.shards q.id).toNat).book.list q) q.id)
      else (s, refuse (Shard.at_ s.shards (findId s.shards q.id).toNat) q, 0)) else (s, 8, 0)) else (s, 11, 0)
section
variable {s : Store} {q : Request} {i : Nat} {x : Shard} {xs : List Account} {id tx : Int} {f : Act}
theorem dost_bad (h : (s.good && inR q.op 0 8) = false) : doStore s q = (s, 11, 0) := by simp [doStore, h]
theorem dost_away (h : (s.good && inR q.op 0 8) = true) (h2 : findId s.shards q.id = -1) : doStore s q = (s, 8, 0) := by simp [doStore, h, h2]
theorem dost_at (h : (s.good && inR q.op 0 8) = true) (h2 : findId s.shards q.id = (i : Int)) : doStore s q =
    bif refuse (Shard.at_ s.shards i) q == 0 then ({ s with shards := s.shards.set i (doShard (Shard.at_ s.shards i) q) }, (doBook (Shard.at_ s.shards i).book.list q).2, doVal (doBook (Shard.at_ s.shards i).book.list q) q.id) else (s, refuse (Shard.at_ s.shards i) q, 0) := by
  simp [doStore, h, h2]
theorem btx_bad (h : tx < 1) : bookTx xs id tx f = (xs, 1) := by simp [bookTx, h]
theorem btx_do (h : ¬ tx < 1) : bookTx xs id tx f = bookDo xs id f := by simp [bookTx, h]
theorem btx_len : (bookTx xs id tx f).1.length ≤ xs.length := by
  by_cases h : tx < 1
  · rw [btx_bad h]; exact Nat.le_refl _
  · rw [btx_do h]; exact do_len
theorem doBook_len : (doBook xs q).1.length ≤ xs.length + 1 := by
  unfold doBook
  have h1 := fun f => do_len (xs := xs) (id := q.id) (f := f)
  have h2 := fun f => btx_len (xs := xs) (id := q.id) (tx := q.tx) (f := f)
  have h3 := openBook_len (xs := xs) (id := q.id)
  cases (q.op == 0) <;> simp only [cond_true, cond_false]
  case true => omega
  cases (q.op == 1) <;> simp only [cond_true, cond_false]
  case true => have := h1 closeF; omega
  cases (q.op == 2) <;> simp only [cond_true, cond_false]
  case true => have := h1 (depF q.amount); omega
  cases (q.op == 3) <;> simp only [cond_true, cond_false]
  case true => have := h1 (witF q.amount); omega
  cases (q.op == 4) <;> simp only [cond_true, cond_false]
  case true => have := h2 (lockDF q.amount q.tx); omega
  cases (q.op == 5) <;> simp only [cond_true, cond_false]
  case true => have := h2 (lockCF q.amount q.tx); omega
  cases (q.op == 6) <;> simp only [cond_true, cond_false]
  case true => have := h2 (settleF q.id q.tx); omega
  cases (q.op == 7) <;> simp only [cond_true, cond_false]
  case true => have := h2 (releaseF q.id q.tx); omega
  omega
theorem val_cases {r : List Account × Int} {a : Int} (hs : Srt r.1) : (¬ r.2 = 0 ∧ doVal r a = 0) ∨ (r.2 = 0 ∧ accIs r.1 a = false ∧ accAt r.1 a = -1 ∧ doVal r a = 0) ∨
    (r.2 = 0 ∧ ∃ i : Nat, accIs r.1 a = true ∧ accGo r.1 a = i ∧ accAt r.1 a = (i : Int) ∧ i < r.1.length ∧ doVal r a = (Account.at_ r.1 i).bal) := by
  by_cases h : r.2 = 0
  · right
    rcases acc_foundS hs a with ⟨h1, h2⟩ | ⟨i, h1, h2, h3, h4, _⟩
    · exact .inl ⟨h, h2, h1, by simp [doVal, h1]⟩
    · exact .inr ⟨h, i, h2, h3, h1, h4, by simp [doVal, h, h1]⟩
  · have : (r.2 == 0) = false := by simpa using h
    exact .inl ⟨h, by simp [doVal, this]⟩
end
end Go.Proofs.YtahkgghifaodoaaGreat.A
namespace Go.Proofs.YtahkgghifaodoaaGreat.A
open Go
set_option linter.unusedSimpArgs false
set_option linter.unusedVariables false
section
variable {F : Nat → Option RF} {Z : CallF} {h : Heap} {x : Cell} {xs : List Account} {fp : List Nat}
theorem loadP_other {g : Heap} {id k : Nat} (R : List (List Cell)) (hne : id ≠ k) (i j n : Nat) : loadP (g.put k R) id i j n = loadP g id i j n := by simp [loadP, rowOf, put_ne R hne]
theorem caps2 {g : Heap} {r r' : List Cell} (o : On ((h.push [r]).push [r']) g) : (∀ j n, loadP g h.next 0 j n = cut? r j n) ∧ ∀ j n, loadP g (h.next + 1) 0 j n = cut? r' j n := by
  constructor
  · intro j n
    refine loadP_row (rows := [r]) ?_ rfl j n
    rw [o.ext.2 h.next (by rw [push_next, push_next]; omega), push_ne _ (by rw [push_next]; omega)]
    exact push_get _ _
  · intro j n
    refine loadP_row (rows := [r']) ?_ rfl j n
    rw [o.ext.2 (h.next + 1) (by rw [push_next, push_next]; omega)]
    exact push_get _ _
theorem fine_le {a : Account} (ok : a.Ok) (h : a.fine = true) : 0 ≤ a.bal ∧ 0 ≤ a.hold ∧ 0 ≤ a.due ∧ a.bal + a.hold + a.due ≤ 18446744073709551615 := by
  simp only [Account.fine, Bool.and_eq_true, decide_eq_true_eq] at h
  exact ⟨ok.bal.1, ok.hold.1, ok.due.1, h.1⟩
theorem lockD_does (hI10 : Has F tI10) {m tx : Int} (hm : 0 ≤ m ∧ m ≤ 18446744073709551615) : Does F Z 402 [(h.next, 0, 0), (h.next + 1, 0, 0)] (lockDF m tx) ((h.push [[.int .u64 m]]).push [[.int .i64 tx]]) := by
  intro g o y xs fp w nd own i hi ok fine
  obtain ⟨hc1, hc2⟩ := caps2 o
  obtain ⟨r, f, rows, hR, hs, hld, hself, hst, hl2, fin⟩ := w.putRow (Fl.ok _) nd (fun id hid => (own id hid).1) hi
  obtain ⟨rfl, rfl⟩ := hR
  have hsl := (own _ hs).2
  rw [push_next, push_next] at hsl
  have hd1 := fun R j n => (loadP_other (g := g) (id := h.next) (k := y.sid) R (by omega) 0 j n).trans (hc1 j n)
  have hd2 := fun R j n => (loadP_other (g := g) (id := h.next + 1) (k := y.sid) R (by omega) 0 j n).trans (hc2 j n)
  have hst' := hst xs[i].enc
  rw [hself] at hst'
  have hq := fin { xs[i] with bal := xs[i].bal - m, hold := m, tx := tx }.enc { xs[i] with bal := xs[i].bal - m, hold := m, tx := tx } ⟨rfl, rfl⟩
  clear hself
  have hbal := ok.bal
  have hfl := fine_le ok fine
  generalize xs[i] = a at *
  simp only [capV_cons, capV_nil]
  rw [call_run F Z (hI10.lk (g := 402) rfl) _ _ rfl]
  simp only [Account.enc] at hld hst' hq
  by_cases c1 : a.tx = 0
  · have c1' : (a.tx != 0) = false := by simpa using c1
    by_cases c2 : m ≤ a.bal
    · have hd : lockDF m tx a = (0, { a with bal := a.bal - m, hold := m, tx := tx }) := by simp [lockDF, c1, c2]
      have hw : IntKind.u64.wrap (a.bal - m) = a.bal - m := wrapU _ (by omega) (by omega)
      have c3 : ¬ a.bal < m := by omega
      rw [hd]
      simp only [rn, RO.dst, lk, drop, Nat.reduceBEq, Nat.reduceAdd, Nat.reduceLeDiff, ↓reduceIte, reduceCtorEq, hld, hc1, hc2, hd1, hd2, c1', hw, c3, hst', putM_s, hst, hl2]
      exact ⟨_, rfl, hq.2, fun _ => hq.1⟩
    · have hd : lockDF m tx a = (4, a) := by simp [lockDF, c1, c2]
      have c3 : a.bal < m := by omega
      rw [hd]
      simp only [rn, RO.dst, lk, drop, Nat.reduceBEq, Nat.reduceAdd, Nat.reduceLeDiff, ↓reduceIte, reduceCtorEq, hld, hc1, hc2, c1', c3]
      exact ⟨_, rfl, Mk.refl _ _, fun hc => by simp at hc⟩
  · have c1' : (a.tx != 0) = true := by simpa using c1
    have hd : lockDF m tx a = (6, a) := by simp [lockDF, c1]
    rw [hd]
    simp only [rn, RO.dst, lk, drop, Nat.reduceBEq, Nat.reduceAdd, Nat.reduceLeDiff, ↓reduceIte, reduceCtorEq, hld, hc1, hc2, c1']
    exact ⟨_, rfl, Mk.refl _ _, fun hc => by simp at hc⟩
theorem lockC_does (hI10 : Has F tI10) {m tx : Int} (hm : 0 ≤ m ∧ m ≤ 18446744073709551615) : Does F Z 403 [(h.next, 0, 0), (h.next + 1, 0, 0)] (lockCF m tx) ((h.push [[.int .u64 m]]).push [[.int .i64 tx]]) := by
  intro g o y xs fp w nd own i hi ok fine
  obtain ⟨hc1, hc2⟩ := caps2 o
  obtain ⟨r, f, rows, hR, hs, hld, hself, hst, hl2, fin⟩ := w.putRow (Fl.ok _) nd (fun id hid => (own id hid).1) hi
  obtain ⟨rfl, rfl⟩ := hR
  have hsl := (own _ hs).2
  rw [push_next, push_next] at hsl
  have hd1 := fun R j n => (loadP_other (g := g) (id := h.next) (k := y.sid) R (by omega) 0 j n).trans (hc1 j n)
  have hd2 := fun R j n => (loadP_other (g := g) (id := h.next + 1) (k := y.sid) R (by omega) 0 j n).trans (hc2 j n)
  have hst' := hst xs[i].enc
  rw [hself] at hst'
  have hq := fin { xs[i] with due := m, tx := tx }.enc { xs[i] with due := m, tx := tx } ⟨rfl, rfl⟩
  clear hself
  have hbal := ok.bal
  have hfl := fine_le ok fine
  generalize xs[i] = a at *
  simp only [capV_cons, capV_nil]
  rw [call_run F Z (hI10.lk (g := 403) rfl) _ _ rfl]
  simp only [Account.enc] at hld hst' hq
  by_cases c1 : a.tx = 0
  · have c1' : (a.tx != 0) = false := by simpa using c1
    by_cases c2 : a.bal + m ≤ 18446744073709551615
    · have hd : lockCF m tx a = (0, { a with due := m, tx := tx }) := by simp [lockCF, c1, c2]
      have hw : IntKind.u64.wrap (a.bal + m) = a.bal + m := wrapU _ (by omega) (by omega)
      have c3 : ¬ a.bal + m < a.bal := by omega
      rw [hd]
      simp only [rn, RO.dst, lk, drop, Nat.reduceBEq, Nat.reduceAdd, Nat.reduceLeDiff, ↓reduceIte, reduceCtorEq, hld, hc1, hc2, hd1, hd2, c1', hw, c3, hst', putM_s, hst, hl2]
      exact ⟨_, rfl, hq.2, fun _ => hq.1⟩
    · have hd : lockCF m tx a = (5, a) := by simp [lockCF, c1, c2]
      have hw := wrapOver a.bal m hbal hm c2
      have c3 : a.bal + m - 18446744073709551616 < a.bal := by omega
      rw [hd]
      simp only [rn, RO.dst, lk, drop, Nat.reduceBEq, Nat.reduceAdd, Nat.reduceLeDiff, ↓reduceIte, reduceCtorEq, hld, hc1, hc2, c1', hw, c3]
      exact ⟨_, rfl, Mk.refl _ _, fun hc => by simp at hc⟩
  · have c1' : (a.tx != 0) = true := by simpa using c1
    have hd : lockCF m tx a = (6, a) := by simp [lockCF, c1]
    rw [hd]
    simp only [rn, RO.dst, lk, drop, Nat.reduceBEq, Nat.reduceAdd, Nat.reduceLeDiff, ↓reduceIte, reduceCtorEq, hld, hc1, hc2, c1']
    exact ⟨_, rfl, Mk.refl _ _, fun hc => by simp at hc⟩
theorem settle_does (hI10 : Has F tI10) {id tx : Int} : Does F Z 404 [(h.next + 1, 0, 0), (h.next, 0, 0)] (settleF id tx) ((h.push [[.int .u64 id]]).push [[.int .i64 tx]]) := by
  intro g o y xs fp w nd own i hi ok fine
  obtain ⟨hc1, hc2⟩ := caps2 o
  obtain ⟨r, f, rows, hR, hs, hld, hself, hst, hl2, fin⟩ := w.putRow (Fl.ok _) nd (fun id hid => (own id hid).1) hi
  obtain ⟨rfl, rfl⟩ := hR
  have hsl := (own _ hs).2
  rw [push_next, push_next] at hsl
  have hd1 := fun R j n => (loadP_other (g := g) (id := h.next) (k := y.sid) R (by omega) 0 j n).trans (hc1 j n)
  have hd2 := fun R j n => (loadP_other (g := g) (id := h.next + 1) (k := y.sid) R (by omega) 0 j n).trans (hc2 j n)
  have hst' := hst xs[i].enc
  rw [hself] at hst'
  have hq := fin (⟨id, xs[i].bal + xs[i].due, 0, 0, 0⟩ : Account).enc (⟨id, xs[i].bal + xs[i].due, 0, 0, 0⟩ : Account) ⟨rfl, rfl⟩
  clear hself
  have hbal := ok.bal
  have hfl := fine_le ok fine
  generalize xs[i] = a at *
  simp only [capV_cons, capV_nil]
  rw [call_run F Z (hI10.lk (g := 404) rfl) _ _ rfl]
  simp only [Account.enc] at hld hst' hq
  have hw : IntKind.u64.wrap (a.bal + a.due) = a.bal + a.due := wrapU _ (by omega) (by omega)
  by_cases c1 : a.tx = tx
  · have c1' : (a.tx != tx) = false := by simpa using c1
    have hd : settleF id tx a = (0, ⟨id, a.bal + a.due, 0, 0, 0⟩) := by simp [settleF, c1]
    rw [hd]
    simp only [rn, RO.dst, lk, drop, Nat.reduceBEq, Nat.reduceAdd, Nat.reduceLeDiff, ↓reduceIte, reduceCtorEq, hld, hc1, hc2, hd1, hd2, c1', hw, hst', putM_s, hst, hl2]
    exact ⟨_, rfl, hq.2, fun _ => hq.1⟩
  · have c1' : (a.tx != tx) = true := by simpa using c1
    have hd : settleF id tx a = (7, a) := by simp [settleF, c1]
    rw [hd]
    simp only [rn, RO.dst, lk, drop, Nat.reduceBEq, Nat.reduceAdd, Nat.reduceLeDiff, ↓reduceIte, reduceCtorEq, hld, hc1, hc2, c1']
    exact ⟨_, rfl, Mk.refl _ _, fun hc => by simp at hc⟩
theorem release_does (hI10 : Has F tI10) {id tx : Int} : Does F Z 405 [(h.next + 1, 0, 0), (h.next, 0, 0)] (releaseF id tx) ((h.push [[.int .u64 id]]).push [[.int .i64 tx]]) := by
  intro g o y xs fp w nd own i hi ok fine
  obtain ⟨hc1, hc2⟩ := caps2 o
  obtain ⟨r, f, rows, hR, hs, hld, hself, hst, hl2, fin⟩ := w.putRow (Fl.ok _) nd (fun id hid => (own id hid).1) hi
  obtain ⟨rfl, rfl⟩ := hR
  have hsl := (own _ hs).2
  rw [push_next, push_next] at hsl
  have hd1 := fun R j n => (loadP_other (g := g) (id := h.next) (k := y.sid) R (by omega) 0 j n).trans (hc1 j n)
  have hd2 := fun R j n => (loadP_other (g := g) (id := h.next + 1) (k := y.sid) R (by omega) 0 j n).trans (hc2 j n)
  have hst' := hst xs[i].enc
  rw [hself] at hst'
  have hq := fin (⟨id, xs[i].bal + xs[i].hold, 0, 0, 0⟩ : Account).enc (⟨id, xs[i].bal + xs[i].hold, 0, 0, 0⟩ : Account) ⟨rfl, rfl⟩
  clear hself
  have hbal := ok.bal
  have hfl := fine_le ok fine
  generalize xs[i] = a at *
  simp only [capV_cons, capV_nil]
  rw [call_run F Z (hI10.lk (g := 405) rfl) _ _ rfl]
  simp only [Account.enc] at hld hst' hq
  have hw : IntKind.u64.wrap (a.bal + a.hold) = a.bal + a.hold := wrapU _ (by omega) (by omega)
  by_cases c1 : a.tx = tx
  · have c1' : (a.tx != tx) = false := by simpa using c1
    have hd : releaseF id tx a = (0, ⟨id, a.bal + a.hold, 0, 0, 0⟩) := by simp [releaseF, c1]
    rw [hd]
    simp only [rn, RO.dst, lk, drop, Nat.reduceBEq, Nat.reduceAdd, Nat.reduceLeDiff, ↓reduceIte, reduceCtorEq, hld, hc1, hc2, hd1, hd2, c1', hw, hst', putM_s, hst, hl2]
    exact ⟨_, rfl, hq.2, fun _ => hq.1⟩
  · have c1' : (a.tx != tx) = true := by simpa using c1
    have hd : releaseF id tx a = (7, a) := by simp [releaseF, c1]
    rw [hd]
    simp only [rn, RO.dst, lk, drop, Nat.reduceBEq, Nat.reduceAdd, Nat.reduceLeDiff, ↓reduceIte, reduceCtorEq, hld, hc1, hc2, c1']
    exact ⟨_, rfl, Mk.refl _ _, fun hc => by simp at hc⟩
theorem LockDebit_c (hI10 : Has F tI10) (pr : PrimAt F Z 348 (delF 11)) (hf : h.floor ≤ h.next) (w : SlR 11 (Fl Account.enc) h x xs fp) (id m tx : Int) (hm : 0 ≤ m ∧ m ≤ 18446744073709551615) (hok : ∀ t, t ∈ xs → t.Ok) (sm : xs.length ≤ 1048576) :
    ∃ y h' fq, call F Z 398 [.agg [x], .c (.int .u64 id), .c (.int .u64 m), .c (.int .i64 tx)] h = some (.tup [.agg [y], .c (.int .i64 (bookTx xs id tx (lockDF m tx)).2)], h') ∧ On h h' ∧ SlR 11 (Fl Account.enc) h' y (bookTx xs id tx (lockDF m tx)).1 fq ∧ Fre h fq := by
  have o0 := (On.push h [[.int .u64 m]]).trans (On.push (h.push [[.int .u64 m]]) [[.int .i64 tx]])
  have hn1 : ∀ j n, loadP ((h.push [[.int .u64 m]]).push [[.int .i64 tx]]) (h.next + 1) 0 j n = cut? [.int .i64 tx] j n := (caps2 (On.refl _)).2
  have hn0 := (caps2 (On.refl ((h.push [[.int .u64 m]]).push [[.int .i64 tx]]))).1
  rw [call_run F Z (hI10.lk (g := 398) rfl) _ _ rfl]
  by_cases ht : tx < 1
  · obtain ⟨y, h', fq, e, o, u, f⟩ := copyBook_c (Z := Z) hI10 (o0.le hf) (w.on (Fl.ok _) o0) sm
    rw [btx_bad ht]
    simp only [rn, RO.dst, lk, drop, Nat.reduceBEq, Nat.reduceAdd, Nat.reduceLeDiff, ↓reduceIte, reduceCtorEq, push_next, hn1, ht, e]
    exact ⟨_, _, _, rfl, o0.trans o, u, ⟨fun id hid => Nat.le_trans o0.ext.1 (f.lo id hid), f.nd⟩⟩
  · obtain ⟨y, h', fq, e, o, u, f⟩ := change_c (Z := Z) hI10 pr (o0.le hf) (w.on (Fl.ok _) o0) id hok sm (lockD_does (h := h) hI10 hm)
    rw [btx_do ht]
    simp only [rn, RO.dst, lk, drop, Nat.reduceBEq, Nat.reduceAdd, Nat.reduceLeDiff, ↓reduceIte, reduceCtorEq, push_next, hn1, hn0, ht, evPtrs, e]
    exact ⟨_, _, _, rfl, o0.trans o, u, ⟨fun id hid => Nat.le_trans o0.ext.1 (f.lo id hid), f.nd⟩⟩
theorem LockCredit_c (hI10 : Has F tI10) (pr : PrimAt F Z 348 (delF 11)) (hf : h.floor ≤ h.next) (w : SlR 11 (Fl Account.enc) h x xs fp) (id m tx : Int) (hm : 0 ≤ m ∧ m ≤ 18446744073709551615) (hok : ∀ t, t ∈ xs → t.Ok) (sm : xs.length ≤ 1048576) :
    ∃ y h' fq, call F Z 399 [.agg [x], .c (.int .u64 id), .c (.int .u64 m), .c (.int .i64 tx)] h = some (.tup [.agg [y], .c (.int .i64 (bookTx xs id tx (lockCF m tx)).2)], h') ∧ On h h' ∧ SlR 11 (Fl Account.enc) h' y (bookTx xs id tx (lockCF m tx)).1 fq ∧ Fre h fq := by
  have o0 := (On.push h [[.int .u64 m]]).trans (On.push (h.push [[.int .u64 m]]) [[.int .i64 tx]])
  have hn1 : ∀ j n, loadP ((h.push [[.int .u64 m]]).push [[.int .i64 tx]]) (h.next + 1) 0 j n = cut? [.int .i64 tx] j n := (caps2 (On.refl _)).2
  have hn0 := (caps2 (On.refl ((h.push [[.int .u64 m]]).push [[.int .i64 tx]]))).1
  rw [call_run F Z (hI10.lk (g := 399) rfl) _ _ rfl]
  by_cases ht : tx < 1
  · obtain ⟨y, h', fq, e, o, u, f⟩ := copyBook_c (Z := Z) hI10 (o0.le hf) (w.on (Fl.ok _) o0) sm
    rw [btx_bad ht]
    simp only [rn, RO.dst, lk, drop, Nat.reduceBEq, Nat.reduceAdd, Nat.reduceLeDiff, ↓reduceIte, reduceCtorEq, push_next, hn1, ht, e]
    exact ⟨_, _, _, rfl, o0.trans o, u, ⟨fun id hid => Nat.le_trans o0.ext.1 (f.lo id hid), f.nd⟩⟩
  · obtain ⟨y, h', fq, e, o, u, f⟩ := change_c (Z := Z) hI10 pr (o0.le hf) (w.on (Fl.ok _) o0) id hok sm (lockC_does (h := h) hI10 hm)
    rw [btx_do ht]
    simp only [rn, RO.dst, lk, drop, Nat.reduceBEq, Nat.reduceAdd, Nat.reduceLeDiff, ↓reduceIte, reduceCtorEq, push_next, hn1, hn0, ht, evPtrs, e]
    exact ⟨_, _, _, rfl, o0.trans o, u, ⟨fun id hid => Nat.le_trans o0.ext.1 (f.lo id hid), f.nd⟩⟩
theorem SettleHold_c (hI10 : Has F tI10) (pr : PrimAt F Z 348 (delF 11)) (hf : h.floor ≤ h.next) (w : SlR 11 (Fl Account.enc) h x xs fp) (id tx : Int) (hok : ∀ t, t ∈ xs → t.Ok) (sm : xs.length ≤ 1048576) :
    ∃ y h' fq, call F Z 400 [.agg [x], .c (.int .u64 id), .c (.int .i64 tx)] h = some (.tup [.agg [y], .c (.int .i64 (bookTx xs id tx (settleF id tx)).2)], h') ∧ On h h' ∧ SlR 11 (Fl Account.enc) h' y (bookTx xs id tx (settleF id tx)).1 fq ∧ Fre h fq := by
  have o0 := (On.push h [[.int .u64 id]]).trans (On.push (h.push [[.int .u64 id]]) [[.int .i64 tx]])
  have hn1 : ∀ j n, loadP ((h.push [[.int .u64 id]]).push [[.int .i64 tx]]) (h.next + 1) 0 j n = cut? [.int .i64 tx] j n := (caps2 (On.refl _)).2
  have hn0 := (caps2 (On.refl ((h.push [[.int .u64 id]]).push [[.int .i64 tx]]))).1
  rw [call_run F Z (hI10.lk (g := 400) rfl) _ _ rfl]
  by_cases ht : tx < 1
  · obtain ⟨y, h', fq, e, o, u, f⟩ := copyBook_c (Z := Z) hI10 (o0.le hf) (w.on (Fl.ok _) o0) sm
    rw [btx_bad ht]
    simp only [rn, RO.dst, lk, drop, Nat.reduceBEq, Nat.reduceAdd, Nat.reduceLeDiff, ↓reduceIte, reduceCtorEq, push_next, hn1, ht, e]
    exact ⟨_, _, _, rfl, o0.trans o, u, ⟨fun id hid => Nat.le_trans o0.ext.1 (f.lo id hid), f.nd⟩⟩
  · obtain ⟨y, h', fq, e, o, u, f⟩ := change_c (Z := Z) hI10 pr (o0.le hf) (w.on (Fl.ok _) o0) id hok sm (settle_does (h := h) hI10)
    rw [btx_do ht]
    simp only [rn, RO.dst, lk, drop, Nat.reduceBEq, Nat.reduceAdd, Nat.reduceLeDiff, ↓reduceIte, reduceCtorEq, push_next, hn1, hn0, ht, evPtrs, e]
    exact ⟨_, _, _, rfl, o0.trans o, u, ⟨fun id hid => Nat.le_trans o0.ext.1 (f.lo id hid), f.nd⟩⟩
theorem ReleaseHold_c (hI10 : Has F tI10) (pr : PrimAt F Z 348 (delF 11)) (hf : h.floor ≤ h.next) (w : SlR 11 (Fl Account.enc) h x xs fp) (id tx : Int) (hok : ∀ t, t ∈ xs → t.Ok) (sm : xs.length ≤ 1048576) :
    ∃ y h' fq, call F Z 401 [.agg [x], .c (.int .u64 id), .c (.int .i64 tx)] h = some (.tup [.agg [y], .c (.int .i64 (bookTx xs id tx (releaseF id tx)).2)], h') ∧ On h h' ∧ SlR 11 (Fl Account.enc) h' y (bookTx xs id tx (releaseF id tx)).1 fq ∧ Fre h fq := by
  have o0 := (On.push h [[.int .u64 id]]).trans (On.push (h.push [[.int .u64 id]]) [[.int .i64 tx]])
  have hn1 : ∀ j n, loadP ((h.push [[.int .u64 id]]).push [[.int .i64 tx]]) (h.next + 1) 0 j n = cut? [.int .i64 tx] j n := (caps2 (On.refl _)).2
  have hn0 := (caps2 (On.refl ((h.push [[.int .u64 id]]).push [[.int .i64 tx]]))).1
  rw [call_run F Z (hI10.lk (g := 401) rfl) _ _ rfl]
  by_cases ht : tx < 1
  · obtain ⟨y, h', fq, e, o, u, f⟩ := copyBook_c (Z := Z) hI10 (o0.le hf) (w.on (Fl.ok _) o0) sm
    rw [btx_bad ht]
    simp only [rn, RO.dst, lk, drop, Nat.reduceBEq, Nat.reduceAdd, Nat.reduceLeDiff, ↓reduceIte, reduceCtorEq, push_next, hn1, ht, e]
    exact ⟨_, _, _, rfl, o0.trans o, u, ⟨fun id hid => Nat.le_trans o0.ext.1 (f.lo id hid), f.nd⟩⟩
  · obtain ⟨y, h', fq, e, o, u, f⟩ := change_c (Z := Z) hI10 pr (o0.le hf) (w.on (Fl.ok _) o0) id hok sm (release_does (h := h) hI10)
    rw [btx_do ht]
    simp only [rn, RO.dst, lk, drop, Nat.reduceBEq, Nat.reduceAdd, Nat.reduceLeDiff, ↓reduceIte, reduceCtorEq, push_next, hn1, hn0, ht, evPtrs, e]
    exact ⟨_, _, _, rfl, o0.trans o, u, ⟨fun id hid => Nat.le_trans o0.ext.1 (f.lo id hid), f.nd⟩⟩
end
end Go.Proofs.YtahkgghifaodoaaGreat.A
namespace Go.Proofs.YtahkgghifaodoaaGreat.A
open Go
set_option linter.unusedSimpArgs false
set_option linter.unusedVariables false
section
variable {F : Nat → Option RF} {Z : CallF} {h : Heap} {x : Cell} {xs : List Account} {fp : List Nat}
set_option maxHeartbeats 2000000 in
theorem doBook_c (hI10 : Has F tI10) (hI13 : Has F tI13) (pri : PrimAt F Z 343 (insF 11 40)) (prd : PrimAt F Z 348 (delF 11)) (hf : h.floor ≤ h.next) (w : SlR 11 (Fl Account.enc) h x xs fp) (q : Request) (okq : q.Ok) (hok : ∀ t, t ∈ xs → t.Ok) (sm : xs.length ≤ 1048576) (hb : bookOk xs = true) :
    ∃ y h' fq, call F Z 395 [.agg [x], .agg q.enc] h = some (.tup [.agg [y], .c (.int .i64 (doBook xs q).2)], h') ∧ On h h' ∧ SlR 11 (Fl Account.enc) h' y (doBook xs q).1 fq ∧ (Fre h fq ∨ (y = x ∧ fq = fp)) := by
  have hm := okq.amount
  have hid := okq.id
  rw [call_run F Z (hI13.lk (g := 395) rfl) _ _ rfl]
  simp only [Request.enc]
  cases c0 : (q.op == 0) with
  | true =>
    have hd : doBook xs q = openBook xs q.id := by simp only [doBook, c0, cond_true, cond_false]
    rw [hd]
    obtain ⟨y, h', fq, e, o, u, f⟩ := OpenAccount_c (Z := Z) hI10 pri hf w q.id hok sm
    simp only [rn, RO.dst, lk, drop, Nat.reduceBEq, Nat.reduceAdd, Nat.reduceLeDiff, ↓reduceIte, reduceCtorEq, c0, e]
    exact ⟨_, _, _, rfl, o, u, .inl f⟩
  | false =>
  cases c1 : (q.op == 1) with
  | true =>
    have hd : doBook xs q = bookDo xs q.id closeF := by simp only [doBook, c0, c1, cond_true, cond_false]
    rw [hd]
    obtain ⟨y, h', fq, e, o, u, f⟩ := CloseAccount_c (Z := Z) hI10 prd hf w q.id hok sm
    simp only [rn, RO.dst, lk, drop, Nat.reduceBEq, Nat.reduceAdd, Nat.reduceLeDiff, ↓reduceIte, reduceCtorEq, c0, c1, e]
    exact ⟨_, _, _, rfl, o, u, .inl f⟩
  | false =>
  cases c2 : (q.op == 2) with
  | true =>
    have hd : doBook xs q = bookDo xs q.id (depF q.amount) := by simp only [doBook, c0, c1, c2, cond_true, cond_false]
    rw [hd]
    obtain ⟨y, h', fq, e, o, u, f⟩ := Deposit_c (Z := Z) hI10 prd hf w q.id q.amount hm hok sm
    simp only [rn, RO.dst, lk, drop, Nat.reduceBEq, Nat.reduceAdd, Nat.reduceLeDiff, ↓reduceIte, reduceCtorEq, c0, c1, c2, e]
    exact ⟨_, _, _, rfl, o, u, .inl f⟩
  | false =>
  cases c3 : (q.op == 3) with
  | true =>
    have hd : doBook xs q = bookDo xs q.id (witF q.amount) := by simp only [doBook, c0, c1, c2, c3, cond_true, cond_false]
    rw [hd]
    obtain ⟨y, h', fq, e, o, u, f⟩ := Withdraw_c (Z := Z) hI10 prd hf w q.id q.amount hm hok sm
    simp only [rn, RO.dst, lk, drop, Nat.reduceBEq, Nat.reduceAdd, Nat.reduceLeDiff, ↓reduceIte, reduceCtorEq, c0, c1, c2, c3, e]
    exact ⟨_, _, _, rfl, o, u, .inl f⟩
  | false =>
  cases c4 : (q.op == 4) with
  | true =>
    have hd : doBook xs q = bookTx xs q.id q.tx (lockDF q.amount q.tx) := by simp only [doBook, c0, c1, c2, c3, c4, cond_true, cond_false]
    rw [hd]
    obtain ⟨y, h', fq, e, o, u, f⟩ := LockDebit_c (Z := Z) hI10 prd hf w q.id q.amount q.tx hm hok sm
    simp only [rn, RO.dst, lk, drop, Nat.reduceBEq, Nat.reduceAdd, Nat.reduceLeDiff, ↓reduceIte, reduceCtorEq, c0, c1, c2, c3, c4, e]
    exact ⟨_, _, _, rfl, o, u, .inl f⟩
  | false =>
  cases c5 : (q.op == 5) with
  | true =>
    have hd : doBook xs q = bookTx xs q.id q.tx (lockCF q.amount q.tx) := by simp only [doBook, c0, c1, c2, c3, c4, c5, cond_true, cond_false]
    rw [hd]
    obtain ⟨y, h', fq, e, o, u, f⟩ := LockCredit_c (Z := Z) hI10 prd hf w q.id q.amount q.tx hm hok sm
    simp only [rn, RO.dst, lk, drop, Nat.reduceBEq, Nat.reduceAdd, Nat.reduceLeDiff, ↓reduceIte, reduceCtorEq, c0, c1, c2, c3, c4, c5, e]
    exact ⟨_, _, _, rfl, o, u, .inl f⟩
  | false =>
  cases c6 : (q.op == 6) with
  | true =>
    have hd : doBook xs q = bookTx xs q.id q.tx (settleF q.id q.tx) := by simp only [doBook, c0, c1, c2, c3, c4, c5, c6, cond_true, cond_false]
    rw [hd]
    obtain ⟨y, h', fq, e, o, u, f⟩ := SettleHold_c (Z := Z) hI10 prd hf w q.id q.tx hok sm
    simp only [rn, RO.dst, lk, drop, Nat.reduceBEq, Nat.reduceAdd, Nat.reduceLeDiff, ↓reduceIte, reduceCtorEq, c0, c1, c2, c3, c4, c5, c6, e]
    exact ⟨_, _, _, rfl, o, u, .inl f⟩
  | false =>
  cases c7 : (q.op == 7) with
  | true =>
    have hd : doBook xs q = bookTx xs q.id q.tx (releaseF q.id q.tx) := by simp only [doBook, c0, c1, c2, c3, c4, c5, c6, c7, cond_true, cond_false]
    rw [hd]
    obtain ⟨y, h', fq, e, o, u, f⟩ := ReleaseHold_c (Z := Z) hI10 prd hf w q.id q.tx hok sm
    simp only [rn, RO.dst, lk, drop, Nat.reduceBEq, Nat.reduceAdd, Nat.reduceLeDiff, ↓reduceIte, reduceCtorEq, c0, c1, c2, c3, c4, c5, c6, c7, e]
    exact ⟨_, _, _, rfl, o, u, .inl f⟩
  | false =>
  have e := fun h' (w' : SlR 11 (Fl Account.enc) h' x xs fp) => accountOf_run (Z := Z) hI10 w' q.id
  have e1 := e h w
  rcases acc_found hb q.id with ⟨q1, q2⟩ | ⟨i, q1, q2, q3, hi, q5⟩
  · have hd : doBook xs q = (xs, 2) := by simp [doBook, c0, c1, c2, c3, c4, c5, c6, c7, q1]
    rw [hd]
    rw [q2] at e1
    simp only [rn, RO.dst, lk, drop, Nat.reduceBEq, Nat.reduceAdd, Nat.reduceLeDiff, ↓reduceIte, reduceCtorEq, c0, c1, c2, c3, c4, c5, c6, c7, e1]
    exact ⟨_, _, _, rfl, On.refl h, w, .inr ⟨rfl, rfl⟩⟩
  · have hd : doBook xs q = (xs, 0) := by simp [doBook, c0, c1, c2, c3, c4, c5, c6, c7, q1]
    rw [hd]
    rw [q2] at e1
    simp only [rn, RO.dst, lk, drop, Nat.reduceBEq, Nat.reduceAdd, Nat.reduceLeDiff, ↓reduceIte, reduceCtorEq, c0, c1, c2, c3, c4, c5, c6, c7, e1]
    exact ⟨_, _, _, rfl, On.refl h, w, .inr ⟨rfl, rfl⟩⟩
end
end Go.Proofs.YtahkgghifaodoaaGreat.A
namespace Go.Proofs.YtahkgghifaodoaaGreat.A
open Go
set_option linter.unusedSimpArgs false
set_option linter.unusedVariables false
section
variable {F : Nat → Option RF} {Z : CallF} {h : Heap} {x : Cell} {xs : List Shard} {fp fq : List Nat} {cs : List Cell} {s : Store} {t : Shard}
end
end Go.Proofs.YtahkgghifaodoaaGreat.A
namespace Go.Proofs.YtahkgghifaodoaaGreat.A
open Go
set_option linter.unusedSimpArgs false
set_option linter.unusedVariables false
section
variable {F : Nat → Option RF} {Z : CallF} {h : Heap} {x : Cell} {xs : List Shard} {fp fq : List Nat} {cs : List Cell} {s : Store} {t : Shard}
end
end Go.Proofs.YtahkgghifaodoaaGreat.A
namespace Go.Proofs.YtahkgghifaodoaaGreat.A
open Go
set_option linter.unusedSimpArgs false
set_option linter.unusedVariables false
theorem Store.fit_at {s : Store} (g : s.good = true) {j : Nat} (hj : j < s.shards.length) : s.fits j = true := by
  simp only [Store.good, Bool.and_eq_true, List.all_eq_true, List.mem_range] at g
  exact g.2.2.2 j hj
def Shard.over (x t : Shard) : Bool := decide (t.lo ≤ x.hi) && decide (x.lo ≤ t.hi)
def Shard.left (x t : Shard) : Bool := decide (t.lo < x.lo)
end Go.Proofs.YtahkgghifaodoaaGreat.A
namespace Go.Proofs.YtahkgghifaodoaaGreat.A
open Go
set_option linter.unusedSimpArgs false
set_option linter.unusedVariables false
end Go.Proofs.YtahkgghifaodoaaGreat.A
namespace Go.Proofs.YtahkgghifaodoaaGreat.A
open Go
set_option linter.unusedSimpArgs false
set_option linter.unusedVariables false
section
variable {α : Type} {R : Rel α} {tag : Nat} {h0 h g : Heap} {x y : Cell} {xs ys : List α} {fp fq : List Nat}
theorem AllR.turnF (ok : RelOk R) {h' : Heap} (hn : h.next ≤ h'.next) {r' : List Cell} {t' : α} {f' : List Nat} : ∀ {rows : List (List Cell)} {xs : List α} {fps : List (List Nat)}, AllR R h rows xs fps → ∀ (i : Nat) (f : List Nat), fps[i]? = some f → fps.flatten.Nodup →
    (∀ id, id ∈ fps.flatten → id ∉ f → h'.get id = h.get id) → R h' r' t' f' → AllR R h' (rows.set i r') (xs.set i t') (fps.set i f')
  | [], [], [], _, i, f, e, _, _, _ => by simp at e
  | r :: rs, a :: bs, g :: gs, ⟨w0, w⟩, 0, f, e, nd, hg, v => by
    simp only [List.getElem?_cons_zero, Option.some.injEq] at e
    subst e
    rw [List.flatten_cons] at nd
    obtain ⟨n1, n2, n3⟩ := List.nodup_append.1 nd
    exact ⟨v, w.mv ok hn fun id hid => hg id (by rw [List.flatten_cons, List.mem_append]; exact .inr hid) fun hf => n3 id hf id hid rfl⟩
  | r :: rs, a :: bs, g :: gs, ⟨w0, w⟩, i + 1, f, e, nd, hg, v => by
    simp only [List.getElem?_cons_succ] at e
    rw [List.flatten_cons] at nd
    obtain ⟨n1, n2, n3⟩ := List.nodup_append.1 nd
    exact ⟨ok.mv w0 hn fun id hid => hg id (by rw [List.flatten_cons, List.mem_append]; exact .inl hid) fun hf => n3 id hid id (List.mem_flatten.2 ⟨f, List.mem_of_getElem? e, hf⟩) rfl,
      AllR.turnF ok hn w i f e n2 (fun id hid hf => hg id (by rw [List.flatten_cons, List.mem_append]; exact .inr hid) hf) v⟩
  | [], [], _ :: _, w, _, _, _, _, _, _ => w.elim
  | [], _ :: _, _, w, _, _, _, _, _, _ => w.elim
  | _ :: _, [], _, w, _, _, _, _, _, _ => w.elim
  | _ :: _, _ :: _, [], w, _, _, _, _, _, _ => w.elim
theorem flat_apart {f f2 : List Nat} : ∀ (fps : List (List Nat)) (i k : Nat), fps[i]? = some f → fps[k]? = some f2 → k ≠ i → fps.flatten.Nodup → ∀ id, id ∈ f2 → id ∉ f
  | [], i, k, h, _, _, _, _, _, _ => by simp at h
  | g :: r, 0, 0, _, _, hne, _, _, _, _ => absurd rfl hne
  | g :: r, 0, k + 1, h, h2, _, nd, id, h3, h4 => by
    simp only [List.getElem?_cons_zero, Option.some.injEq] at h
    subst h
    rw [List.flatten_cons] at nd
    exact (List.nodup_append.1 nd).2.2 id h4 id (List.mem_flatten.2 ⟨f2, List.mem_of_getElem? (by simpa using h2), h3⟩) rfl
  | g :: r, i + 1, 0, h, h2, _, nd, id, h3, h4 => by
    simp only [List.getElem?_cons_zero, Option.some.injEq] at h2
    subst h2
    rw [List.flatten_cons] at nd
    exact (List.nodup_append.1 nd).2.2 id h3 id (List.mem_flatten.2 ⟨f, List.mem_of_getElem? (by simpa using h), h4⟩) rfl
  | g :: r, i + 1, k + 1, h, h2, hne, nd, id, h3, h4 => by
    rw [List.flatten_cons] at nd
    exact flat_apart r i k (by simpa using h) (by simpa using h2) (by omega) (List.nodup_append.1 nd).2.1 id h3 h4
theorem SlR.turnF (ok : RelOk R) (w : SlR tag R h x xs fp) (nd : fp.Nodup) {i : Nat} (hi : i < xs.length) :
    ∃ r f, ∃ rows : List (List Cell), R h r xs[i] f ∧ (∀ id, id ∈ f → id ∈ fp) ∧ f.Nodup ∧ x.sid ∈ fp ∧ x.sid ∉ f ∧ x.sid < h.next ∧ h.get x.sid = some rows ∧ rows[i]? = some r ∧ i < rows.length ∧
      (∀ k (hk : k < xs.length), k ≠ i → ∃ r2 f2, R h r2 xs[k] f2 ∧ rows[k]? = some r2 ∧ ∀ id, id ∈ f2 → id ∈ fp ∧ id ∉ f ∧ id ≠ x.sid) ∧
      ∀ h' r' t' f', h.next ≤ h'.next → (∀ id, id ∈ fp → id ≠ x.sid → id ∉ f → h'.get id = h.get id) → h'.get x.sid = some (rows.set i r') → R h' r' t' f' → f'.Nodup → (∀ id, id ∈ f' → id ∈ f ∨ id ∉ fp) →
        ∃ fp', SlR tag R h' x (xs.set i t') fp' ∧ fp'.Nodup ∧ ∀ id, id ∈ fp' → id ∈ fp ∨ id ∈ f' := by
  rcases w with ⟨hl, ⟨rfl, rfl, rfl⟩ | ⟨id, rows, fps, rfl, q1, q2, rfl, q3⟩⟩
  · exact absurd hi (Nat.not_lt_zero _)
  obtain ⟨r, f, e1, e2, v⟩ := q3.at i hi
  have hn := List.nodup_cons.1 nd
  have hin : ∀ j, j ∈ f → j ∈ fps.flatten := fun j hj => List.mem_flatten.2 ⟨f, List.mem_of_getElem? e2, hj⟩
  refine ⟨r, f, rows, v, fun j hj => List.mem_cons_of_mem _ (hin j hj), flat_at_nodup fps i e2 hn.2, by simp [Cell.sid], fun hc => hn.1 (hin _ hc), q2, q1, e1, by rw [q3.len]; exact hi, fun k hk hne => ?_, fun h' r' t' f' hn' hg hg' v' nf hd => ?_⟩
  · obtain ⟨r2, f2, e3, e4, v2⟩ := q3.at k hk
    have h2 : ∀ j, j ∈ f2 → j ∈ fps.flatten := fun j hj => List.mem_flatten.2 ⟨f2, List.mem_of_getElem? e4, hj⟩
    exact ⟨r2, f2, v2, e3, fun j hj => ⟨List.mem_cons_of_mem _ (h2 j hj), flat_apart fps i k e2 e4 hne hn.2 j hj, fun e => hn.1 (by simp only [Cell.sid] at e; exact e ▸ h2 j hj)⟩⟩
  · have hne : ∀ j, j ∈ f' → j ≠ id := fun j hj e => by
      rcases hd j hj with h1 | h1
      · exact hn.1 (e ▸ hin j h1)
      · exact h1 (by rw [e]; simp)
    refine ⟨id :: (fps.set i f').flatten, ⟨by simpa using hl, .inr ⟨id, rows.set i r', fps.set i f', by simp, hg', Nat.lt_of_lt_of_le q2 hn', rfl, ?_⟩⟩, ?_, ?_⟩
    · exact q3.turnF ok hn' i f e2 hn.2 (fun j hj hf => hg j (List.mem_cons_of_mem _ hj) (fun e => hn.1 (by simp only [Cell.sid] at e; exact e ▸ hj)) hf) v'
    · rw [List.nodup_cons]
      refine ⟨fun hc => ?_, flat_set_nodup nf fps i f e2 hn.2 fun j hj => ?_⟩
      · rcases flat_set_mem _ _ hc with hc | hc
        · exact hn.1 hc
        · exact hne _ hc rfl
      · rcases hd j hj with h1 | h1
        · exact .inl h1
        · exact .inr fun hc => h1 (List.mem_cons_of_mem _ hc)
    · intro j hj
      rcases List.mem_cons.1 hj with rfl | hj
      · exact .inl (by simp)
      · rcases flat_set_mem _ _ hj with hj | hj
        · exact .inl (List.mem_cons_of_mem _ hj)
        · exact .inr hj
theorem SlR.cat {enc : α → List Cell} (w : SlR tag (Fl enc) h x xs fp) (u : SlR tag (Fl enc) h y ys fq) (own : ∀ id, id ∈ fp → h.floor ≤ id) {bytes : Nat} (hb : (xs.length + ys.length) * bytes ≤ 140737488355328) (hl : xs.length + ys.length ≤ maxLen) :
    ∃ x' g f', appF h tag bytes x y = some (x', g) ∧ SlR tag (Fl enc) g x' (xs ++ ys) f' ∧ Re h g fp f' := by
  have hy := u.rows
  have ht : A.isTag tag y = true := by
    rcases u.flat with ⟨rfl, _⟩ | ⟨q, _⟩
    · rfl
    · rw [q]; simp [A.isTag]
  have hp : h.get h.next ≠ none → True := fun _ => trivial
  rcases w.flat with ⟨rfl, rfl, rfl⟩ | ⟨hx, hg, hn, rfl⟩
  · by_cases h0 : ys = []
    · subst h0
      refine ⟨.nil, h, [], ?_, SlR.nil _ _ _, ⟨Nat.le_refl _, rfl, fun _ _ _ => rfl, List.nodup_nil, fun _ h => nomatch h⟩⟩
      simp [appF, ht, hy]
    · have hl0 : ys.length ≠ 0 := fun hc => h0 (List.eq_nil_of_length_eq_zero hc)
      refine ⟨.sl tag h.next 0 ys.length, h.push (ys.map enc), [h.next], ?_, SlR.ofFlat (by simpa using hl) (push_get _ _) (Nat.lt_succ_self _), ⟨Nat.le_succ _, rfl, fun id h1 _ => push_ne _ (by omega), by simp, fun id hid => by simp at hid; exact .inr (by omega)⟩⟩
      simp only [List.length_nil, Nat.zero_add] at hb
      simp only [appF, ht, hy, if_true, Option.bind_some, List.length_map]
      rw [if_neg hl0, if_pos hb]
  · have hf := own _ (List.mem_singleton_self _)
    generalize x.sid = k at *
    subst hx
    refine ⟨.sl tag h.next 0 (xs.length + ys.length), (h.kill k).push ((xs ++ ys).map enc), [h.next], ?_, ?_, ⟨Nat.le_succ _, rfl, fun id h1 h2 => ?_, by simp, fun id hid => by simp at hid; exact .inr (by omega)⟩⟩
    · simp only [appF, ht, hy, if_true, Option.bind_some, hg, List.length_map, List.map_append]
      rw [if_pos ⟨trivial, trivial, trivial, hf, hb⟩]
    · have := SlR.ofFlat (tag := tag) (enc := enc) (h := (h.kill k).push ((xs ++ ys).map enc)) (xs := xs ++ ys) (by simpa using hl) (id := h.next) (by simp [Heap.push, Heap.kill]) (Nat.lt_succ_self _)
      simpa using this
    · simp only [List.mem_singleton] at h2
      show (if id = h.next then some _ else (if id = k then none else h.get id)) = h.get id
      rw [if_neg (by omega), if_neg h2]
end
section
variable {α : Type} {tag : Nat} {g : Heap} {y : Cell} {xs : List α} {f : List Nat}
theorem SlR.snoc1 {enc : α → List Cell} (w : SlR tag (Fl enc) g y xs f) (nd : f.Nodup) (own : ∀ id, id ∈ f → g.floor ≤ id) (hg : g.floor ≤ g.next) {bytes : Nat} (hb : (xs.length + 1) * bytes ≤ 140737488355328) (hl : xs.length + 1 ≤ 140737488355328) (t : α) :
    ∃ y' g' f', appF (g.push [enc t]) tag bytes y (.sl tag g.next 0 1) = some (y', g') ∧ SlR tag (Fl enc) g' y' (xs ++ [t]) f' ∧ Re g g' f f' := by
  have a : AccM (Fl enc) tag ⟨g.floor, g.floor, g.get⟩ g y xs f := ⟨⟨⟨hg, fun _ _ => rfl⟩, rfl⟩, w, ⟨own, nd⟩⟩
  obtain ⟨y', g', f', e, a', h1, h2, h3⟩ := a.one (Fl.ok enc) (Nat.le_refl _) hb hl (On.refl g) (cs := enc t) (t := t) (fq := []) ⟨rfl, rfl⟩ (Fre.nil _) (fun _ h => nomatch h)
  exact ⟨y', g', f', e, a'.sh, ⟨h1, a'.on.fl, h3, a'.fr.nd, fun id hid => by
    rcases h2 id hid with h | h | h
    · exact .inl h
    · cases h
    · exact .inr h⟩⟩
end
end Go.Proofs.YtahkgghifaodoaaGreat.A
namespace Go.Proofs.YtahkgghifaodoaaGreat.A
open Go
set_option linter.unusedSimpArgs false
set_option linter.unusedVariables false
section
variable {F : Nat → Option RF} {Z : CallF} {h : Heap} {cs : List Cell} {fp : List Nat} {s : Store}
theorem SlR.sort {x : Cell} {xs : List Fin} (w : SlR 9 (Fl Fin.enc) h x xs fp) (own : ∀ id, id ∈ fp → h.floor ≤ id) (hl : xs.length < 4611686018427387904) :
    ∃ g, sortF 9 267 [.c x, .c (.fn 267 [])] h = some (.tup [], g) ∧ SlR 9 (Fl Fin.enc) g x (sortFins xs) fp ∧ Mk h g fp := by
  rcases w.flat with ⟨rfl, rfl, rfl⟩ | ⟨hx, hg, hn, rfl⟩
  · refine ⟨h, ?_, by simpa [sortFins, sort2] using SlR.nil 9 (Fl Fin.enc) h, ⟨rfl, rfl, fun _ _ => rfl⟩⟩
    simp [sortF]
  · have hf := own _ (List.mem_singleton_self _)
    generalize x.sid = k at *
    subst hx
    refine ⟨h.put k ((sortFins xs).map Fin.enc), ?_, ?_, Mk.put _ _ _⟩
    · simp only [sortF, and_self, if_true, hg, Option.bind_some, List.length_map]
      rw [if_pos ⟨trivial, hf, hl⟩, decs_fins, Option.bind_some, sortFins_cells]
    · have := SlR.ofFlat (tag := 9) (enc := Fin.enc) (h := h.put k ((sortFins xs).map Fin.enc)) (xs := sortFins xs) (by rw [sortFins_len]; exact w.le) (id := k) (by simp [Heap.put]) hn
      rwa [sortFins_len] at this
end
end Go.Proofs.YtahkgghifaodoaaGreat.A
