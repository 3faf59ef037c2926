/- The functions that the statement reaches, part 1: bodies and what they compute. No condition. -/
import Derived.Test.YteagcdhkobeanaaA1
import Derived.Test.YteagcdhkobeanaaB8
import Derived.Test.YteagcdhkobeanaaB6
import Derived.Test.YteagcdhkobeanaaB5
import Derived.Test.YteagcdhkobeanaaD
namespace Go.Proofs.Yteagcdhkobeanaa.A
open Go
def r260:RF:=
 ⟨1,[.cell 2 1 true],
 .seq (.reg [⟨none,.locb 1 (.t 0)⟩,
 ⟨none,.loc 2 [.nil]⟩])
 (.seq (.reg [⟨none,.lit 3 11 0 [.int .u64 0,.int .u64 0,.int .u64 0,.int .u64 0,.int .i64 0] []⟩,
 ⟨none,.fad 4 1 0⟩,
 ⟨none,.load 5 4 1 false⟩,
 ⟨none,.app 6 11 40 (.t 3) (.t 5)⟩,
 ⟨none,.build 7 [.nil] [(0,1,(.t 6))]⟩,
 ⟨none,.store 2 1 (.t 7)⟩])
 (.ret))⟩
def r265L0:RC:=
 .seq (.reg [⟨none,.bin 13 .lss (.t 12) (.t 11)⟩])
 (.seq (.cond (.t 13)
 (.skip)
 (.exit 0))
 (.seq (.block 1 (.seq (.reg [⟨none,.mov 14 (.t 12)⟩,
 ⟨none,.idx 15 11 (.t 10) (.t 12)⟩,
 ⟨none,.load 16 15 5 true⟩,
 ⟨none,.loc 4 [.int .u64 0,.int .u64 0,.int .u64 0,.int .u64 0,.int .i64 0]⟩,
 ⟨none,.mov 3 (.t 14)⟩,
 ⟨none,.store 4 5 (.t 16)⟩])
 (.seq (.reg [⟨none,.fad 18 4 1⟩,
 ⟨none,.load 19 18 1 false⟩,
 ⟨none,.fad 20 4 2⟩,
 ⟨none,.load 21 20 1 false⟩,
 ⟨none,.add 22 (.t 19) (.t 21) (.k (.int .u64 0))⟩,
 ⟨none,.mov 17 (.t 22)⟩,
 ⟨none,.ext 23 (.t 17) 0⟩,
 ⟨none,.ext 24 (.t 17) 1⟩,
 ⟨none,.mov 5 (.t 23)⟩,
 ⟨none,.mov 6 (.t 24)⟩])
 (.seq (.reg [⟨none,.fad 26 4 1⟩,
 ⟨none,.load 27 26 1 false⟩,
 ⟨none,.fad 28 4 2⟩,
 ⟨none,.load 29 28 1 false⟩,
 ⟨none,.bin 30 .add (.t 27) (.t 29)⟩,
 ⟨none,.fad 31 4 3⟩,
 ⟨none,.load 32 31 1 false⟩,
 ⟨none,.add 33 (.t 30) (.t 32) (.k (.int .u64 0))⟩,
 ⟨none,.mov 25 (.t 33)⟩,
 ⟨none,.ext 34 (.t 25) 0⟩,
 ⟨none,.ext 35 (.t 25) 1⟩,
 ⟨none,.mov 7 (.t 34)⟩,
 ⟨none,.mov 8 (.t 35)⟩])
 (.seq (.reg [⟨none,.chk []⟩,
 ⟨none,.mov 36 (.t 6)⟩,
 ⟨none,.mov 37 (.t 8)⟩,
 ⟨none,.bin 38 .add (.t 36) (.t 37)⟩,
 ⟨none,.bin 39 .gtr (.t 38) (.k (.int .u64 0))⟩,
 ⟨none,.mov 40 (.t 39)⟩,
 ⟨some (40,false),.fad 41 4 4⟩,
 ⟨some (40,false),.load 42 41 1 false⟩,
 ⟨some (40,false),.bin 43 .lss (.t 42) (.k (.int .i64 0))⟩,
 ⟨none,.pick 44 (.t 40) (.k (.bool true)) (.t 43)⟩,
 ⟨none,.mov 45 (.t 44)⟩,
 ⟨some (45,false),.fad 46 4 4⟩,
 ⟨some (45,false),.load 47 46 1 false⟩,
 ⟨some (45,false),.bin 48 .eql (.t 47) (.k (.int .i64 0))⟩,
 ⟨some (45,false),.mov 49 (.t 48)⟩,
 ⟨some (49,true),.fad 50 4 2⟩,
 ⟨some (49,true),.load 51 50 1 false⟩,
 ⟨some (49,true),.bin 52 .neq (.t 51) (.k (.int .u64 0))⟩,
 ⟨some (49,true),.mov 53 (.t 52)⟩,
 ⟨some (53,false),.fad 54 4 3⟩,
 ⟨some (53,false),.load 55 54 1 false⟩,
 ⟨some (53,false),.bin 56 .neq (.t 55) (.k (.int .u64 0))⟩,
 ⟨some (49,true),.pick 57 (.t 53) (.k (.bool true)) (.t 56)⟩,
 ⟨some (45,false),.pick 58 (.t 49) (.t 57) (.k (.bool false))⟩,
 ⟨none,.pick 59 (.t 45) (.k (.bool true)) (.t 58)⟩,
 ⟨none,.mov 60 (.t 59)⟩,
 ⟨some (60,false),.mov 61 (.t 3)⟩,
 ⟨some (60,false),.bin 62 .gtr (.t 61) (.k (.int .i64 0))⟩,
 ⟨some (60,false),.mov 63 (.t 62)⟩,
 ⟨some (63,true),.mov 66 (.t 3)⟩,
 ⟨some (63,true),.bin 67 .sub (.t 66) (.k (.int .i64 1))⟩,
 ⟨some (63,true),.fad 64 1 0⟩,
 ⟨some (63,true),.load 65 64 1 false⟩,
 ⟨some (63,true),.idx 68 11 (.t 65) (.t 67)⟩,
 ⟨some (63,true),.fad 69 68 0⟩,
 ⟨some (63,true),.load 70 69 1 false⟩,
 ⟨some (63,true),.fad 71 4 0⟩,
 ⟨some (63,true),.load 72 71 1 false⟩,
 ⟨some (63,true),.bin 73 .geq (.t 70) (.t 72)⟩,
 ⟨some (60,false),.pick 74 (.t 63) (.t 73) (.k (.bool false))⟩,
 ⟨none,.pick 75 (.t 60) (.k (.bool true)) (.t 74)⟩])
 (.cond (.t 75)
 (.seq (.reg [⟨none,.mov 2 (.k (.bool false))⟩])
 (.ret))
 (.skip)))))))
 (.reg [⟨none,.bin 76 .add (.t 12) (.k (.int .i64 1))⟩,
 ⟨none,.mov 12 (.t 76)⟩])))
def r265:RF:=
 ⟨1,[.tmp 2],
 .seq (.reg [⟨none,.locb 1 (.t 0)⟩,
 ⟨none,.mov 2 (.k (.bool false))⟩])
 (.seq (.seq (.reg [⟨none,.fad 9 1 0⟩,
 ⟨none,.load 10 9 1 false⟩,
 ⟨none,.len 11 (.t 10)⟩,
 ⟨none,.mov 12 (.k (.int .i64 0))⟩])
 (.block 0 (.loop [1,10,11,12]
 r265L0)))
 (.seq (.reg [⟨none,.fad 77 1 0⟩,
 ⟨none,.load 78 77 1 false⟩,
 ⟨none,.len 79 (.t 78)⟩,
 ⟨none,.bin 80 .leq (.t 79) (.k (.int .i64 40))⟩,
 ⟨none,.mov 2 (.t 80)⟩])
 (.ret)))⟩
def tI10:List (Nat×RF):=[(260,r260),(265,r265)]
end Go.Proofs.Yteagcdhkobeanaa.A
namespace Go.Proofs.Yteagcdhkobeanaa.A
open Go
def r7:RF:=
 ⟨1,[.tmp 2],
 .seq (.reg [⟨none,.mov 2 (.k (.bool false))⟩])
 (.seq (.reg [⟨none,.mov 3 (.t 0)⟩,
 ⟨none,.bin 4 .geq (.t 3) (.k (.int .i64 0))⟩,
 ⟨none,.mov 5 (.t 4)⟩,
 ⟨some (5,true),.mov 6 (.t 0)⟩,
 ⟨some (5,true),.bin 7 .leq (.t 6) (.k (.int .i64 99))⟩,
 ⟨none,.pick 8 (.t 5) (.t 7) (.k (.bool false))⟩,
 ⟨none,.mov 2 (.t 8)⟩])
 (.ret))⟩
def tI11:List (Nat×RF):=[(7,r7)]
end Go.Proofs.Yteagcdhkobeanaa.A
namespace Go.Proofs.Yteagcdhkobeanaa.A
open Go
def r206L0:RC:=
 .seq (.reg [⟨none,.bin 29 .lss (.t 28) (.t 27)⟩])
 (.seq (.cond (.t 29)
 (.skip)
 (.exit 0))
 (.seq (.block 1 (.seq (.reg [⟨none,.mov 30 (.t 28)⟩,
 ⟨none,.idx 31 16 (.t 26) (.t 28)⟩,
 ⟨none,.load 32 31 6 true⟩,
 ⟨none,.loc 4 [.int .u64 0,.int .u64 0,.int .i64 0,.int .i64 0,.nil,.nil]⟩,
 ⟨none,.mov 3 (.t 30)⟩,
 ⟨none,.store 4 6 (.t 32)⟩])
 (.seq (.reg [⟨none,.chk []⟩,
 ⟨none,.load 33 4 6 true⟩,
 ⟨none,.call (some 34) 244 [(.t 33)] true⟩,
 ⟨none,.not 35 (.t 34)⟩,
 ⟨none,.mov 36 (.t 35)⟩,
 ⟨some (36,false),.fad 37 4 3⟩,
 ⟨some (36,false),.load 38 37 1 false⟩,
 ⟨some (36,false),.fad 39 1 1⟩,
 ⟨some (36,false),.load 40 39 1 false⟩,
 ⟨some (36,false),.bin 41 .gtr (.t 38) (.t 40)⟩,
 ⟨none,.pick 42 (.t 36) (.k (.bool true)) (.t 41)⟩,
 ⟨none,.mov 43 (.t 42)⟩,
 ⟨some (43,false),.mov 44 (.t 3)⟩,
 ⟨some (43,false),.bin 45 .gtr (.t 44) (.k (.int .i64 0))⟩,
 ⟨some (43,false),.mov 46 (.t 45)⟩,
 ⟨some (46,true),.mov 49 (.t 3)⟩,
 ⟨some (46,true),.bin 50 .sub (.t 49) (.k (.int .i64 1))⟩,
 ⟨some (46,true),.fad 47 1 2⟩,
 ⟨some (46,true),.load 48 47 1 false⟩,
 ⟨some (46,true),.idx 51 16 (.t 48) (.t 50)⟩,
 ⟨some (46,true),.fad 52 51 1⟩,
 ⟨some (46,true),.load 53 52 1 false⟩,
 ⟨some (46,true),.fad 54 4 0⟩,
 ⟨some (46,true),.load 55 54 1 false⟩,
 ⟨some (46,true),.bin 56 .geq (.t 53) (.t 55)⟩,
 ⟨some (43,false),.pick 57 (.t 46) (.t 56) (.k (.bool false))⟩,
 ⟨none,.pick 58 (.t 43) (.k (.bool true)) (.t 57)⟩])
 (.cond (.t 58)
 (.seq (.reg [⟨none,.mov 2 (.k (.bool false))⟩])
 (.ret))
 (.skip)))))
 (.reg [⟨none,.bin 59 .add (.t 28) (.k (.int .i64 1))⟩,
 ⟨none,.mov 28 (.t 59)⟩])))
def r206:RF:=
 ⟨1,[.tmp 2],
 .seq (.reg [⟨none,.locb 1 (.t 0)⟩,
 ⟨none,.mov 2 (.k (.bool false))⟩])
 (.seq (.seq (.reg [⟨none,.fad 5 1 0⟩,
 ⟨none,.load 6 5 1 false⟩,
 ⟨none,.call (some 7) 7 [(.t 6)] false⟩,
 ⟨none,.not 8 (.t 7)⟩,
 ⟨none,.mov 9 (.t 8)⟩,
 ⟨some (9,false),.fad 10 1 1⟩,
 ⟨some (9,false),.load 11 10 1 false⟩,
 ⟨some (9,false),.bin 12 .lss (.t 11) (.k (.int .i64 0))⟩,
 ⟨none,.pick 13 (.t 9) (.k (.bool true)) (.t 12)⟩,
 ⟨none,.mov 14 (.t 13)⟩,
 ⟨some (14,false),.fad 15 1 1⟩,
 ⟨some (14,false),.load 16 15 1 false⟩,
 ⟨some (14,false),.bin 17 .gtr (.t 16) (.k (.int .i64 1000000))⟩,
 ⟨none,.pick 18 (.t 14) (.k (.bool true)) (.t 17)⟩,
 ⟨none,.mov 19 (.t 18)⟩,
 ⟨some (19,false),.fad 20 1 2⟩,
 ⟨some (19,false),.load 21 20 1 false⟩,
 ⟨some (19,false),.len 22 (.t 21)⟩,
 ⟨some (19,false),.bin 23 .gtr (.t 22) (.k (.int .i64 8))⟩,
 ⟨none,.pick 24 (.t 19) (.k (.bool true)) (.t 23)⟩])
 (.cond (.t 24)
 (.seq (.reg [⟨none,.mov 2 (.k (.bool false))⟩])
 (.ret))
 (.skip)))
 (.seq (.seq (.reg [⟨none,.fad 25 1 2⟩,
 ⟨none,.load 26 25 1 false⟩,
 ⟨none,.len 27 (.t 26)⟩,
 ⟨none,.mov 28 (.k (.int .i64 0))⟩])
 (.block 0 (.loop [1,26,27,28]
 r206L0)))
 (.seq (.reg [⟨none,.mov 2 (.k (.bool true))⟩])
 (.ret))))⟩
def r213:RF:=
 ⟨3,[.tmp 6],
 .seq (.reg [⟨none,.locb 3 (.t 0)⟩,
 ⟨none,.newb 4 (.t 1)⟩,
 ⟨none,.newb 5 (.t 2)⟩,
 ⟨none,.mov 6 (.k (.int .i64 0))⟩])
 (.seq (.reg [⟨none,.fad 7 3 2⟩,
 ⟨none,.load 8 7 1 false⟩,
 ⟨none,.mkf 9 249 [4,5]⟩,
 ⟨none,.call (some 10) 248 [(.t 8),(.t 9)] false⟩,
 ⟨none,.mov 6 (.t 10)⟩])
 (.ret))⟩
def r229:RF:=
 ⟨1,[.cell 2 6 true],
 .seq (.reg [⟨none,.locb 1 (.t 0)⟩,
 ⟨none,.loc 2 [.int .u64 0,.int .u64 0,.int .i64 0,.int .i64 0,.nil,.nil]⟩])
 (.seq (.reg [⟨none,.fad 3 1 4⟩,
 ⟨none,.load 4 3 1 true⟩,
 ⟨none,.call (some 5) 260 [(.t 4)] false⟩,
 ⟨none,.fad 6 1 4⟩,
 ⟨none,.store 6 1 (.t 5)⟩])
 (.seq (.reg [⟨none,.lit 7 9 0 [.int .i64 0,.int .u64 0] []⟩,
 ⟨none,.fad 8 1 5⟩,
 ⟨none,.load 9 8 1 false⟩,
 ⟨none,.app 10 9 16 (.t 7) (.t 9)⟩,
 ⟨none,.fad 11 1 5⟩,
 ⟨none,.store 11 1 (.t 10)⟩])
 (.seq (.reg [⟨none,.load 12 1 6 true⟩,
 ⟨none,.store 2 6 (.t 12)⟩])
 (.ret))))⟩
def r244L0:RC:=
 .seq (.reg [⟨none,.bin 79 .lss (.t 78) (.t 77)⟩])
 (.seq (.cond (.t 79)
 (.skip)
 (.exit 2))
 (.seq (.block 3 (.seq (.reg [⟨none,.mov 80 (.t 78)⟩,
 ⟨none,.idx 81 9 (.t 76) (.t 78)⟩,
 ⟨none,.load 82 81 2 true⟩,
 ⟨none,.loc 6 [.int .i64 0,.int .u64 0]⟩,
 ⟨none,.mov 5 (.t 80)⟩,
 ⟨none,.store 6 2 (.t 82)⟩])
 (.seq (.reg [⟨none,.chk []⟩,
 ⟨none,.fad 83 6 0⟩,
 ⟨none,.load 84 83 1 false⟩,
 ⟨none,.bin 85 .lss (.t 84) (.k (.int .i64 1))⟩,
 ⟨none,.mov 86 (.t 85)⟩,
 ⟨some (86,false),.fad 87 6 1⟩,
 ⟨some (86,false),.load 88 87 1 false⟩,
 ⟨some (86,false),.fad 89 1 0⟩,
 ⟨some (86,false),.load 90 89 1 false⟩,
 ⟨some (86,false),.bin 91 .lss (.t 88) (.t 90)⟩,
 ⟨none,.pick 92 (.t 86) (.k (.bool true)) (.t 91)⟩,
 ⟨none,.mov 93 (.t 92)⟩,
 ⟨some (93,false),.fad 94 6 1⟩,
 ⟨some (93,false),.load 95 94 1 false⟩,
 ⟨some (93,false),.fad 96 1 1⟩,
 ⟨some (93,false),.load 97 96 1 false⟩,
 ⟨some (93,false),.bin 98 .gtr (.t 95) (.t 97)⟩,
 ⟨none,.pick 99 (.t 93) (.k (.bool true)) (.t 98)⟩,
 ⟨none,.mov 100 (.t 99)⟩,
 ⟨some (100,false),.mov 101 (.t 5)⟩,
 ⟨some (100,false),.bin 102 .gtr (.t 101) (.k (.int .i64 0))⟩,
 ⟨some (100,false),.mov 103 (.t 102)⟩,
 ⟨some (103,true),.mov 106 (.t 5)⟩,
 ⟨some (103,true),.bin 107 .sub (.t 106) (.k (.int .i64 1))⟩,
 ⟨some (103,true),.fad 104 1 5⟩,
 ⟨some (103,true),.load 105 104 1 false⟩,
 ⟨some (103,true),.idx 108 9 (.t 105) (.t 107)⟩,
 ⟨some (103,true),.load 109 108 2 true⟩,
 ⟨some (103,true),.load 110 6 2 true⟩,
 ⟨some (103,true),.call (some 111) 267 [(.t 109),(.t 110)] true⟩,
 ⟨some (103,true),.bin 112 .geq (.t 111) (.k (.int .i64 0))⟩,
 ⟨some (100,false),.pick 113 (.t 103) (.t 112) (.k (.bool false))⟩,
 ⟨none,.pick 114 (.t 100) (.k (.bool true)) (.t 113)⟩])
 (.cond (.t 114)
 (.seq (.reg [⟨none,.mov 2 (.k (.bool false))⟩])
 (.ret))
 (.skip)))))
 (.reg [⟨none,.bin 115 .add (.t 78) (.k (.int .i64 1))⟩,
 ⟨none,.mov 78 (.t 115)⟩])))
def r244L1:RC:=
 .seq (.reg [⟨none,.bin 49 .lss (.t 48) (.t 47)⟩])
 (.seq (.cond (.t 49)
 (.skip)
 (.exit 0))
 (.seq (.block 1 (.seq (.reg [⟨none,.idx 50 11 (.t 46) (.t 48)⟩,
 ⟨none,.load 51 50 5 true⟩,
 ⟨none,.loc 4 [.int .u64 0,.int .u64 0,.int .u64 0,.int .u64 0,.int .i64 0]⟩,
 ⟨none,.store 4 5 (.t 51)⟩])
 (.seq (.reg [⟨none,.fad 52 4 0⟩,
 ⟨none,.load 53 52 1 false⟩,
 ⟨none,.fad 54 1 0⟩,
 ⟨none,.load 55 54 1 false⟩,
 ⟨none,.bin 56 .lss (.t 53) (.t 55)⟩,
 ⟨none,.mov 57 (.t 56)⟩,
 ⟨some (57,false),.fad 58 4 0⟩,
 ⟨some (57,false),.load 59 58 1 false⟩,
 ⟨some (57,false),.fad 60 1 1⟩,
 ⟨some (57,false),.load 61 60 1 false⟩,
 ⟨some (57,false),.bin 62 .gtr (.t 59) (.t 61)⟩,
 ⟨none,.pick 63 (.t 57) (.k (.bool true)) (.t 62)⟩,
 ⟨none,.mov 64 (.t 63)⟩,
 ⟨some (64,false),.fad 65 1 5⟩,
 ⟨some (64,false),.load 66 65 1 false⟩,
 ⟨some (64,false),.fad 67 4 4⟩,
 ⟨some (64,false),.load 68 67 1 false⟩,
 ⟨some (64,false),.fad 69 4 0⟩,
 ⟨some (64,false),.load 70 69 1 false⟩,
 ⟨some (64,false),.build 71 [.int .i64 0,.int .u64 0] [(0,1,(.t 68)),(1,1,(.t 70))]⟩,
 ⟨some (64,false),.call (some 72) 266 [(.t 66),(.t 71)] false⟩,
 ⟨none,.pick 73 (.t 64) (.k (.bool true)) (.t 72)⟩])
 (.cond (.t 73)
 (.seq (.reg [⟨none,.mov 2 (.k (.bool false))⟩])
 (.ret))
 (.skip)))))
 (.reg [⟨none,.bin 74 .add (.t 48) (.k (.int .i64 1))⟩,
 ⟨none,.mov 48 (.t 74)⟩])))
def r244:RF:=
 ⟨1,[.tmp 2],
 .seq (.reg [⟨none,.locb 1 (.t 0)⟩,
 ⟨none,.mov 2 (.k (.bool false))⟩])
 (.seq (.seq (.reg [⟨none,.fad 7 1 0⟩,
 ⟨none,.load 8 7 1 false⟩,
 ⟨none,.fad 9 1 1⟩,
 ⟨none,.load 10 9 1 false⟩,
 ⟨none,.bin 11 .gtr (.t 8) (.t 10)⟩,
 ⟨none,.mov 12 (.t 11)⟩,
 ⟨some (12,false),.fad 13 1 2⟩,
 ⟨some (12,false),.load 14 13 1 false⟩,
 ⟨some (12,false),.bin 15 .neq (.t 14) (.k (.int .i64 0))⟩,
 ⟨some (12,false),.mov 16 (.t 15)⟩,
 ⟨some (16,true),.fad 17 1 2⟩,
 ⟨some (16,true),.load 18 17 1 false⟩,
 ⟨some (16,true),.bin 19 .neq (.t 18) (.k (.int .i64 1))⟩,
 ⟨some (12,false),.pick 20 (.t 16) (.t 19) (.k (.bool false))⟩,
 ⟨none,.pick 21 (.t 12) (.k (.bool true)) (.t 20)⟩,
 ⟨none,.mov 22 (.t 21)⟩,
 ⟨some (22,false),.fad 23 1 3⟩,
 ⟨some (22,false),.load 24 23 1 false⟩,
 ⟨some (22,false),.bin 25 .lss (.t 24) (.k (.int .i64 1))⟩,
 ⟨none,.pick 26 (.t 22) (.k (.bool true)) (.t 25)⟩,
 ⟨none,.mov 27 (.t 26)⟩,
 ⟨some (27,false),.fad 28 1 3⟩,
 ⟨some (27,false),.load 29 28 1 false⟩,
 ⟨some (27,false),.bin 30 .gtr (.t 29) (.k (.int .i64 1000000))⟩,
 ⟨none,.pick 31 (.t 27) (.k (.bool true)) (.t 30)⟩,
 ⟨none,.mov 32 (.t 31)⟩,
 ⟨some (32,false),.fad 33 1 4⟩,
 ⟨some (32,false),.load 34 33 1 true⟩,
 ⟨some (32,false),.call (some 35) 265 [(.t 34)] false⟩,
 ⟨some (32,false),.not 36 (.t 35)⟩,
 ⟨none,.pick 37 (.t 32) (.k (.bool true)) (.t 36)⟩,
 ⟨none,.mov 38 (.t 37)⟩,
 ⟨some (38,false),.fad 39 1 5⟩,
 ⟨some (38,false),.load 40 39 1 false⟩,
 ⟨some (38,false),.len 41 (.t 40)⟩,
 ⟨some (38,false),.bin 42 .gtr (.t 41) (.k (.int .i64 60))⟩,
 ⟨none,.pick 43 (.t 38) (.k (.bool true)) (.t 42)⟩])
 (.cond (.t 43)
 (.seq (.reg [⟨none,.mov 2 (.k (.bool false))⟩])
 (.ret))
 (.skip)))
 (.seq (.seq (.reg [⟨none,.fad 44 1 4⟩,
 ⟨none,.fad 45 44 0⟩,
 ⟨none,.load 46 45 1 false⟩,
 ⟨none,.len 47 (.t 46)⟩,
 ⟨none,.mov 48 (.k (.int .i64 0))⟩])
 (.block 0 (.loop [1,46,47,48]
 r244L1)))
 (.seq (.seq (.reg [⟨none,.fad 75 1 5⟩,
 ⟨none,.load 76 75 1 false⟩,
 ⟨none,.len 77 (.t 76)⟩,
 ⟨none,.mov 78 (.k (.int .i64 0))⟩])
 (.block 2 (.loop [1,76,77,78]
 r244L0)))
 (.seq (.reg [⟨none,.mov 2 (.k (.bool true))⟩])
 (.ret)))))⟩
def r249:RF:=
 ⟨3,[.tmp 4],
 .seq (.reg [⟨none,.locb 3 (.t 0)⟩,
 ⟨none,.mov 4 (.k (.bool false))⟩])
 (.seq (.reg [⟨none,.fad 5 3 0⟩,
 ⟨none,.load 6 5 1 false⟩,
 ⟨none,.load 7 1 1 false⟩,
 ⟨none,.bin 8 .eql (.t 6) (.t 7)⟩,
 ⟨none,.mov 9 (.t 8)⟩,
 ⟨some (9,true),.fad 10 3 2⟩,
 ⟨some (9,true),.load 11 10 1 false⟩,
 ⟨some (9,true),.load 12 2 1 false⟩,
 ⟨some (9,true),.bin 13 .eql (.t 11) (.t 12)⟩,
 ⟨none,.pick 14 (.t 9) (.t 13) (.k (.bool false))⟩,
 ⟨none,.mov 4 (.t 14)⟩])
 (.ret))⟩
def r267:RF:=
 ⟨2,[.tmp 4],
 .seq (.reg [⟨none,.locb 2 (.t 0)⟩,
 ⟨none,.locb 3 (.t 1)⟩,
 ⟨none,.mov 4 (.k (.int .i64 0))⟩])
 (.seq (.reg [⟨none,.chk []⟩,
 ⟨none,.fad 5 2 0⟩,
 ⟨none,.load 6 5 1 false⟩,
 ⟨none,.fad 7 3 0⟩,
 ⟨none,.load 8 7 1 false⟩,
 ⟨none,.fad 10 2 1⟩,
 ⟨none,.load 11 10 1 false⟩,
 ⟨none,.fad 12 3 1⟩,
 ⟨none,.load 13 12 1 false⟩,
 ⟨none,.call (some 9) 273 [(.t 6),(.t 8)] true⟩,
 ⟨none,.call (some 14) 274 [(.t 11),(.t 13)] true⟩,
 ⟨none,.lit 15 15 2 [.int .i64 0] [(0,(.t 9)),(1,(.t 14))]⟩,
 ⟨none,.call (some 16) 275 [(.t 15)] true⟩,
 ⟨none,.mov 4 (.t 16)⟩])
 (.ret))⟩
def r298:RF:=
 ⟨3,[.cell 6 3 true,.tmp 7],
 .seq (.reg [⟨none,.locb 3 (.t 0)⟩,
 ⟨none,.loc 6 [.int .i64 0,.int .i64 0,.nil]⟩,
 ⟨none,.mov 7 (.k (.bool false))⟩])
 (.seq (.reg [⟨none,.load 10 3 3 true⟩,
 ⟨none,.call (some 11) 320 [(.t 10)] false⟩,
 ⟨none,.loc 8 [.int .i64 0,.int .i64 0,.nil]⟩,
 ⟨none,.store 8 3 (.t 11)⟩])
 (.seq (.reg [⟨none,.load 12 3 3 true⟩,
 ⟨none,.mov 13 (.t 1)⟩,
 ⟨none,.call (some 14) 213 [(.t 12),(.t 13),(.k (.int .i64 1))] false⟩,
 ⟨none,.mov 9 (.t 14)⟩])
 (.seq (.seq (.reg [⟨none,.load 15 3 3 true⟩,
 ⟨none,.call (some 16) 206 [(.t 15)] false⟩,
 ⟨none,.not 17 (.t 16)⟩,
 ⟨none,.mov 18 (.t 17)⟩,
 ⟨some (18,false),.mov 19 (.t 9)⟩,
 ⟨some (18,false),.bin 20 .lss (.t 19) (.k (.int .i64 0))⟩,
 ⟨none,.pick 21 (.t 18) (.k (.bool true)) (.t 20)⟩,
 ⟨none,.mov 22 (.t 21)⟩,
 ⟨some (22,false),.fad 23 3 2⟩,
 ⟨some (22,false),.load 24 23 1 false⟩,
 ⟨some (22,false),.mov 25 (.t 9)⟩,
 ⟨some (22,false),.idx 26 16 (.t 24) (.t 25)⟩,
 ⟨some (22,false),.fad 27 26 3⟩,
 ⟨some (22,false),.load 28 27 1 false⟩,
 ⟨some (22,false),.mov 29 (.t 2)⟩,
 ⟨some (22,false),.bin 30 .neq (.t 28) (.t 29)⟩,
 ⟨none,.pick 31 (.t 22) (.k (.bool true)) (.t 30)⟩])
 (.cond (.t 31)
 (.seq (.reg [⟨none,.load 32 8 3 true⟩,
 ⟨none,.store 6 3 (.t 32)⟩,
 ⟨none,.mov 7 (.k (.bool false))⟩])
 (.ret))
 (.skip)))
 (.seq (.reg [⟨none,.fad 33 8 2⟩,
 ⟨none,.load 34 33 1 false⟩,
 ⟨none,.mov 35 (.t 9)⟩,
 ⟨none,.mov 36 (.t 9)⟩,
 ⟨none,.bin 37 .add (.t 36) (.k (.int .i64 1))⟩,
 ⟨none,.call (some 38) 330 [(.t 34),(.t 35),(.t 37)] false⟩,
 ⟨none,.fad 39 8 2⟩,
 ⟨none,.store 39 1 (.t 38)⟩])
 (.seq (.reg [⟨none,.load 40 8 3 true⟩,
 ⟨none,.store 6 3 (.t 40)⟩,
 ⟨none,.mov 7 (.k (.bool true))⟩])
 (.ret))))))⟩
def r301:RF:=
 ⟨3,[.cell 6 3 true,.tmp 7],
 .seq (.reg [⟨none,.locb 3 (.t 0)⟩,
 ⟨none,.loc 6 [.int .i64 0,.int .i64 0,.nil]⟩,
 ⟨none,.mov 7 (.k (.bool false))⟩])
 (.seq (.reg [⟨none,.load 10 3 3 true⟩,
 ⟨none,.call (some 11) 320 [(.t 10)] false⟩,
 ⟨none,.loc 8 [.int .i64 0,.int .i64 0,.nil]⟩,
 ⟨none,.store 8 3 (.t 11)⟩])
 (.seq (.reg [⟨none,.load 12 3 3 true⟩,
 ⟨none,.mov 13 (.t 1)⟩,
 ⟨none,.call (some 14) 213 [(.t 12),(.t 13),(.k (.int .i64 0))] false⟩,
 ⟨none,.mov 9 (.t 14)⟩])
 (.seq (.seq (.reg [⟨none,.load 15 3 3 true⟩,
 ⟨none,.mov 16 (.t 2)⟩,
 ⟨none,.call (some 17) 319 [(.t 15),(.t 16)] false⟩,
 ⟨none,.not 18 (.t 17)⟩,
 ⟨none,.mov 19 (.t 18)⟩,
 ⟨some (19,false),.mov 20 (.t 9)⟩,
 ⟨some (19,false),.bin 21 .lss (.t 20) (.k (.int .i64 0))⟩,
 ⟨none,.pick 22 (.t 19) (.k (.bool true)) (.t 21)⟩])
 (.cond (.t 22)
 (.seq (.reg [⟨none,.load 23 8 3 true⟩,
 ⟨none,.store 6 3 (.t 23)⟩,
 ⟨none,.mov 7 (.k (.bool false))⟩])
 (.ret))
 (.skip)))
 (.seq (.reg [⟨none,.fad 24 8 2⟩,
 ⟨none,.load 25 24 1 false⟩,
 ⟨none,.mov 26 (.t 9)⟩,
 ⟨none,.idx 27 16 (.t 25) (.t 26)⟩,
 ⟨none,.fad 28 27 2⟩,
 ⟨none,.store 28 1 (.k (.int .i64 1))⟩])
 (.seq (.reg [⟨none,.fad 29 8 2⟩,
 ⟨none,.load 30 29 1 false⟩,
 ⟨none,.mov 31 (.t 9)⟩,
 ⟨none,.mov 32 (.t 2)⟩,
 ⟨none,.idx 33 16 (.t 30) (.t 31)⟩,
 ⟨none,.fad 34 33 3⟩,
 ⟨none,.store 34 1 (.t 32)⟩])
 (.seq (.reg [⟨none,.load 35 8 3 true⟩,
 ⟨none,.mov 36 (.t 2)⟩,
 ⟨none,.call (some 37) 321 [(.t 35),(.t 36)] false⟩,
 ⟨none,.store 6 3 (.t 37)⟩,
 ⟨none,.mov 7 (.k (.bool true))⟩])
 (.ret)))))))⟩
def r309L0:RC:=
 .seq (.reg [⟨none,.bin 45 .lss (.t 44) (.t 43)⟩])
 (.seq (.cond (.t 45)
 (.skip)
 (.exit 0))
 (.seq (.block 1 (.seq (.reg [⟨none,.idx 46 16 (.t 42) (.t 44)⟩,
 ⟨none,.load 47 46 6 true⟩,
 ⟨none,.loc 11 [.int .u64 0,.int .u64 0,.int .i64 0,.int .i64 0,.nil,.nil]⟩,
 ⟨none,.store 11 6 (.t 47)⟩])
 (.seq (.seq (.reg [⟨none,.fad 48 11 0⟩,
 ⟨none,.load 49 48 1 false⟩,
 ⟨none,.fad 50 4 1⟩,
 ⟨none,.load 51 50 1 false⟩,
 ⟨none,.bin 52 .leq (.t 49) (.t 51)⟩,
 ⟨none,.mov 53 (.t 52)⟩,
 ⟨some (53,true),.fad 54 4 0⟩,
 ⟨some (53,true),.load 55 54 1 false⟩,
 ⟨some (53,true),.fad 56 11 1⟩,
 ⟨some (53,true),.load 57 56 1 false⟩,
 ⟨some (53,true),.bin 58 .leq (.t 55) (.t 57)⟩,
 ⟨none,.pick 59 (.t 53) (.t 58) (.k (.bool false))⟩])
 (.cond (.t 59)
 (.seq (.reg [⟨none,.load 60 8 3 true⟩,
 ⟨none,.store 6 3 (.t 60)⟩,
 ⟨none,.mov 7 (.k (.bool false))⟩])
 (.ret))
 (.skip)))
 (.seq (.reg [⟨none,.fad 61 11 0⟩,
 ⟨none,.load 62 61 1 false⟩,
 ⟨none,.fad 63 4 0⟩,
 ⟨none,.load 64 63 1 false⟩,
 ⟨none,.bin 65 .lss (.t 62) (.t 64)⟩])
 (.cond (.t 65)
 (.reg [⟨none,.mov 66 (.t 9)⟩,
 ⟨none,.bin 67 .add (.t 66) (.k (.int .i64 1))⟩,
 ⟨none,.mov 9 (.t 67)⟩])
 (.skip))))))
 (.reg [⟨none,.bin 68 .add (.t 44) (.k (.int .i64 1))⟩,
 ⟨none,.mov 44 (.t 68)⟩])))
def r309:RF:=
 ⟨3,[.cell 6 3 true,.tmp 7],
 .seq (.reg [⟨none,.locb 3 (.t 0)⟩,
 ⟨none,.locb 4 (.t 1)⟩,
 ⟨none,.loc 6 [.int .i64 0,.int .i64 0,.nil]⟩,
 ⟨none,.mov 7 (.k (.bool false))⟩])
 (.seq (.reg [⟨none,.load 12 3 3 true⟩,
 ⟨none,.call (some 13) 320 [(.t 12)] false⟩,
 ⟨none,.loc 8 [.int .i64 0,.int .i64 0,.nil]⟩,
 ⟨none,.store 8 3 (.t 13)⟩])
 (.seq (.seq (.reg [⟨none,.load 14 3 3 true⟩,
 ⟨none,.mov 15 (.t 2)⟩,
 ⟨none,.call (some 16) 319 [(.t 14),(.t 15)] false⟩,
 ⟨none,.not 17 (.t 16)⟩,
 ⟨none,.mov 18 (.t 17)⟩,
 ⟨some (18,false),.load 19 4 6 true⟩,
 ⟨some (18,false),.call (some 20) 244 [(.t 19)] false⟩,
 ⟨some (18,false),.not 21 (.t 20)⟩,
 ⟨none,.pick 22 (.t 18) (.k (.bool true)) (.t 21)⟩,
 ⟨none,.mov 23 (.t 22)⟩,
 ⟨some (23,false),.fad 24 4 2⟩,
 ⟨some (23,false),.load 25 24 1 false⟩,
 ⟨some (23,false),.bin 26 .neq (.t 25) (.k (.int .i64 1))⟩,
 ⟨none,.pick 27 (.t 23) (.k (.bool true)) (.t 26)⟩,
 ⟨none,.mov 28 (.t 27)⟩,
 ⟨some (28,false),.mov 29 (.t 2)⟩,
 ⟨some (28,false),.fad 30 4 3⟩,
 ⟨some (28,false),.load 31 30 1 false⟩,
 ⟨some (28,false),.bin 32 .leq (.t 29) (.t 31)⟩,
 ⟨none,.pick 33 (.t 28) (.k (.bool true)) (.t 32)⟩,
 ⟨none,.mov 34 (.t 33)⟩,
 ⟨some (34,false),.fad 35 3 2⟩,
 ⟨some (34,false),.load 36 35 1 false⟩,
 ⟨some (34,false),.len 37 (.t 36)⟩,
 ⟨some (34,false),.bin 38 .eql (.t 37) (.k (.int .i64 8))⟩,
 ⟨none,.pick 39 (.t 34) (.k (.bool true)) (.t 38)⟩])
 (.cond (.t 39)
 (.seq (.reg [⟨none,.load 40 8 3 true⟩,
 ⟨none,.store 6 3 (.t 40)⟩,
 ⟨none,.mov 7 (.k (.bool false))⟩])
 (.ret))
 (.skip)))
 (.seq (.reg [⟨none,.mov 9 (.k (.int .i64 0))⟩])
 (.seq (.seq (.reg [⟨none,.fad 41 3 2⟩,
 ⟨none,.load 42 41 1 false⟩,
 ⟨none,.len 43 (.t 42)⟩,
 ⟨none,.mov 44 (.k (.int .i64 0))⟩])
 (.block 0 (.loop [2,4,6,8,9,42,43,44]
 r309L0)))
 (.seq (.reg [⟨none,.load 69 4 6 true⟩,
 ⟨none,.call (some 70) 229 [(.t 69)] false⟩,
 ⟨none,.store 4 6 (.t 70)⟩])
 (.seq (.reg [⟨none,.fad 71 4 2⟩,
 ⟨none,.store 71 1 (.k (.int .i64 0))⟩])
 (.seq (.reg [⟨none,.fad 72 8 2⟩,
 ⟨none,.load 73 72 1 false⟩,
 ⟨none,.mov 74 (.t 9)⟩,
 ⟨none,.load 75 4 6 true⟩,
 ⟨none,.lit 76 16 1 [.int .u64 0,.int .u64 0,.int .i64 0,.int .i64 0,.nil,.nil] [(0,(.t 75))]⟩,
 ⟨none,.call (some 77) 332 [(.t 73),(.t 74),(.t 76)] false⟩,
 ⟨none,.fad 78 8 2⟩,
 ⟨none,.store 78 1 (.t 77)⟩])
 (.seq (.reg [⟨none,.load 79 8 3 true⟩,
 ⟨none,.mov 80 (.t 2)⟩,
 ⟨none,.call (some 81) 321 [(.t 79),(.t 80)] false⟩,
 ⟨none,.store 6 3 (.t 81)⟩,
 ⟨none,.mov 7 (.k (.bool true))⟩])
 (.ret)))))))))⟩
def r319:RF:=
 ⟨2,[.tmp 4],
 .seq (.reg [⟨none,.locb 2 (.t 0)⟩,
 ⟨none,.mov 4 (.k (.bool false))⟩])
 (.seq (.reg [⟨none,.load 5 2 3 true⟩,
 ⟨none,.call (some 6) 206 [(.t 5)] false⟩,
 ⟨none,.mov 7 (.t 6)⟩,
 ⟨some (7,true),.mov 8 (.t 1)⟩,
 ⟨some (7,true),.fad 9 2 1⟩,
 ⟨some (7,true),.load 10 9 1 false⟩,
 ⟨some (7,true),.bin 11 .gtr (.t 8) (.t 10)⟩,
 ⟨none,.pick 12 (.t 7) (.t 11) (.k (.bool false))⟩,
 ⟨none,.mov 13 (.t 12)⟩,
 ⟨some (13,true),.mov 14 (.t 1)⟩,
 ⟨some (13,true),.bin 15 .leq (.t 14) (.k (.int .i64 1000000))⟩,
 ⟨none,.pick 16 (.t 13) (.t 15) (.k (.bool false))⟩,
 ⟨none,.mov 4 (.t 16)⟩])
 (.ret))⟩
def r320L0:RC:=
 .seq (.reg [⟨none,.bin 15 .lss (.t 14) (.t 13)⟩])
 (.seq (.cond (.t 15)
 (.skip)
 (.exit 0))
 (.seq (.block 1 (.seq (.reg [⟨none,.idx 16 16 (.t 12) (.t 14)⟩,
 ⟨none,.load 17 16 6 true⟩,
 ⟨none,.loc 5 [.int .u64 0,.int .u64 0,.int .i64 0,.int .i64 0,.nil,.nil]⟩,
 ⟨none,.store 5 6 (.t 17)⟩])
 (.reg [⟨none,.chk []⟩,
 ⟨none,.fad 18 3 2⟩,
 ⟨none,.load 19 18 1 false⟩,
 ⟨none,.load 20 5 6 true⟩,
 ⟨none,.call (some 21) 229 [(.t 20)] true⟩,
 ⟨none,.lit 22 16 1 [.int .u64 0,.int .u64 0,.int .i64 0,.int .i64 0,.nil,.nil] [(0,(.t 21))]⟩,
 ⟨none,.app 23 16 80 (.t 19) (.t 22)⟩,
 ⟨none,.fad 24 3 2⟩,
 ⟨none,.store 24 1 (.t 23)⟩])))
 (.reg [⟨none,.bin 25 .add (.t 14) (.k (.int .i64 1))⟩,
 ⟨none,.mov 14 (.t 25)⟩])))
def r320:RF:=
 ⟨1,[.cell 2 3 true],
 .seq (.reg [⟨none,.locb 1 (.t 0)⟩,
 ⟨none,.loc 2 [.int .i64 0,.int .i64 0,.nil]⟩])
 (.seq (.reg [⟨none,.fad 6 1 0⟩,
 ⟨none,.load 7 6 1 false⟩,
 ⟨none,.fad 8 1 1⟩,
 ⟨none,.load 9 8 1 false⟩,
 ⟨none,.build 10 [.int .i64 0,.int .i64 0,.nil] [(0,1,(.t 7)),(1,1,(.t 9))]⟩,
 ⟨none,.loc 3 [.int .i64 0,.int .i64 0,.nil]⟩,
 ⟨none,.store 3 3 (.t 10)⟩])
 (.seq (.seq (.reg [⟨none,.fad 11 1 2⟩,
 ⟨none,.load 12 11 1 false⟩,
 ⟨none,.len 13 (.t 12)⟩,
 ⟨none,.mov 14 (.k (.int .i64 0))⟩])
 (.block 0 (.loop [2,3,12,13,14]
 r320L0)))
 (.seq (.reg [⟨none,.load 26 3 3 true⟩,
 ⟨none,.store 2 3 (.t 26)⟩])
 (.ret))))⟩
def r321L0:RC:=
 .seq (.reg [⟨none,.bin 12 .lss (.t 11) (.t 10)⟩])
 (.seq (.cond (.t 12)
 (.skip)
 (.exit 0))
 (.seq (.block 1 (.seq (.reg [⟨none,.mov 13 (.t 11)⟩,
 ⟨none,.mov 5 (.t 13)⟩])
 (.seq (.reg [⟨none,.fad 14 2 2⟩,
 ⟨none,.load 15 14 1 false⟩,
 ⟨none,.mov 16 (.t 5)⟩,
 ⟨none,.idx 17 16 (.t 15) (.t 16)⟩,
 ⟨none,.fad 18 17 2⟩,
 ⟨none,.load 19 18 1 false⟩,
 ⟨none,.bin 20 .eql (.t 19) (.k (.int .i64 0))⟩])
 (.cond (.t 20)
 (.reg [⟨none,.fad 21 2 2⟩,
 ⟨none,.load 22 21 1 false⟩,
 ⟨none,.mov 23 (.t 5)⟩,
 ⟨none,.mov 24 (.t 1)⟩,
 ⟨none,.idx 25 16 (.t 22) (.t 23)⟩,
 ⟨none,.fad 26 25 3⟩,
 ⟨none,.store 26 1 (.t 24)⟩])
 (.skip)))))
 (.reg [⟨none,.bin 27 .add (.t 11) (.k (.int .i64 1))⟩,
 ⟨none,.mov 11 (.t 27)⟩])))
def r321:RF:=
 ⟨2,[.cell 4 3 true],
 .seq (.reg [⟨none,.locb 2 (.t 0)⟩,
 ⟨none,.loc 4 [.int .i64 0,.int .i64 0,.nil]⟩])
 (.seq (.reg [⟨none,.mov 6 (.t 1)⟩,
 ⟨none,.fad 7 2 1⟩,
 ⟨none,.store 7 1 (.t 6)⟩])
 (.seq (.seq (.reg [⟨none,.fad 8 2 2⟩,
 ⟨none,.load 9 8 1 false⟩,
 ⟨none,.len 10 (.t 9)⟩,
 ⟨none,.mov 11 (.k (.int .i64 0))⟩])
 (.block 0 (.loop [1,2,4,10,11]
 r321L0)))
 (.seq (.reg [⟨none,.load 28 2 3 true⟩,
 ⟨none,.store 4 3 (.t 28)⟩])
 (.ret))))⟩
def tI13:List (Nat×RF):=[(206,r206),(213,r213),(229,r229),(244,r244),(249,r249),(267,r267),(298,r298),(301,r301),(309,r309),(319,r319),(320,r320),(321,r321)]
end Go.Proofs.Yteagcdhkobeanaa.A
namespace Go.Proofs.Yteagcdhkobeanaa.A
open Go
def r315:RF:=
 ⟨2,[.cell 4 3 true,.tmp 5],
 .seq (.reg [⟨none,.locb 2 (.t 0)⟩,
 ⟨none,.locb 3 (.t 1)⟩,
 ⟨none,.loc 4 [.int .i64 0,.int .i64 0,.nil]⟩,
 ⟨none,.mov 5 (.k (.bool false))⟩])
 (.seq (.reg [⟨none,.load 6 2 3 true⟩,
 ⟨none,.load 7 3 10 true⟩,
 ⟨none,.call (some 8) 334 [(.t 6),(.t 7)] false⟩,
 ⟨none,.ext 9 (.t 8) 0⟩,
 ⟨none,.ext 10 (.t 8) 1⟩,
 ⟨none,.store 4 3 (.t 9)⟩,
 ⟨none,.mov 5 (.t 10)⟩])
 (.ret))⟩
def r334:RF:=
 ⟨2,[.cell 4 3 true,.tmp 5],
 .seq (.reg [⟨none,.locb 2 (.t 0)⟩,
 ⟨none,.locb 3 (.t 1)⟩,
 ⟨none,.loc 4 [.int .i64 0,.int .i64 0,.nil]⟩,
 ⟨none,.mov 5 (.k (.bool false))⟩])
 (.seq (.seq (.reg [⟨none,.fad 6 3 2⟩,
 ⟨none,.load 7 6 1 false⟩,
 ⟨none,.fad 8 2 0⟩,
 ⟨none,.load 9 8 1 false⟩,
 ⟨none,.bin 10 .neq (.t 7) (.t 9)⟩])
 (.cond (.t 10)
 (.seq (.reg [⟨none,.load 11 2 3 true⟩,
 ⟨none,.call (some 12) 320 [(.t 11)] false⟩,
 ⟨none,.store 4 3 (.t 12)⟩,
 ⟨none,.mov 5 (.k (.bool false))⟩])
 (.ret))
 (.skip)))
 (.seq (.seq (.reg [⟨none,.fad 13 3 0⟩,
 ⟨none,.load 14 13 1 false⟩])
 (.block 0 (.seq (.reg [⟨none,.bin 16 .eql (.t 14) (.k (.int .i64 0))⟩,
 ⟨none,.mov 15 (.t 16)⟩])
 (.cond (.t 15)
 (.seq (.reg [⟨none,.load 17 2 3 true⟩,
 ⟨none,.fad 18 3 1⟩,
 ⟨none,.load 19 18 1 false⟩,
 ⟨none,.fad 20 3 3⟩,
 ⟨none,.load 21 20 1 false⟩,
 ⟨none,.call (some 22) 301 [(.t 17),(.t 19),(.t 21)] false⟩,
 ⟨none,.ext 23 (.t 22) 0⟩,
 ⟨none,.ext 24 (.t 22) 1⟩,
 ⟨none,.store 4 3 (.t 23)⟩,
 ⟨none,.mov 5 (.t 24)⟩])
 (.ret))
 (.seq (.reg [⟨none,.bin 26 .eql (.t 14) (.k (.int .i64 1))⟩,
 ⟨none,.mov 25 (.t 26)⟩])
 (.cond (.t 25)
 (.seq (.reg [⟨none,.load 27 2 3 true⟩,
 ⟨none,.fad 28 3 4⟩,
 ⟨none,.load 29 28 6 true⟩,
 ⟨none,.fad 30 3 3⟩,
 ⟨none,.load 31 30 1 false⟩,
 ⟨none,.call (some 32) 309 [(.t 27),(.t 29),(.t 31)] false⟩,
 ⟨none,.ext 33 (.t 32) 0⟩,
 ⟨none,.ext 34 (.t 32) 1⟩,
 ⟨none,.store 4 3 (.t 33)⟩,
 ⟨none,.mov 5 (.t 34)⟩])
 (.ret))
 (.seq (.reg [⟨none,.bin 36 .eql (.t 14) (.k (.int .i64 2))⟩,
 ⟨none,.mov 35 (.t 36)⟩])
 (.cond (.t 35)
 (.seq (.reg [⟨none,.load 37 2 3 true⟩,
 ⟨none,.fad 38 3 1⟩,
 ⟨none,.load 39 38 1 false⟩,
 ⟨none,.fad 40 3 3⟩,
 ⟨none,.load 41 40 1 false⟩,
 ⟨none,.call (some 42) 298 [(.t 37),(.t 39),(.t 41)] false⟩,
 ⟨none,.ext 43 (.t 42) 0⟩,
 ⟨none,.ext 44 (.t 42) 1⟩,
 ⟨none,.store 4 3 (.t 43)⟩,
 ⟨none,.mov 5 (.t 44)⟩])
 (.ret))
 (.skip)))))))))
 (.seq (.reg [⟨none,.load 45 2 3 true⟩,
 ⟨none,.call (some 46) 320 [(.t 45)] false⟩,
 ⟨none,.store 4 3 (.t 46)⟩,
 ⟨none,.mov 5 (.k (.bool false))⟩])
 (.ret))))⟩
def tI15:List (Nat×RF):=[(315,r315),(334,r334)]
end Go.Proofs.Yteagcdhkobeanaa.A
namespace Go.Proofs.Yteagcdhkobeanaa.A
open Go
def r136:RF:=
 ⟨2,[.tmp 4],
 .seq (.reg [⟨none,.mov 4 (.k (.int .i64 0))⟩])
 (.seq (.reg [⟨none,.mov 5 (.t 1)⟩,
 ⟨none,.mov 6 (.t 0)⟩,
 ⟨none,.len 7 (.t 6)⟩,
 ⟨none,.bin 8 .sub (.t 5) (.t 7)⟩,
 ⟨none,.mov 1 (.t 8)⟩])
 (.seq (.seq (.reg [⟨none,.mov 9 (.t 1)⟩,
 ⟨none,.bin 10 .lss (.t 9) (.k (.int .i64 0))⟩])
 (.cond (.t 10)
 (.seq (.reg [⟨none,.mov 4 (.k (.int .i64 (-1)))⟩])
 (.ret))
 (.skip)))
 (.seq (.reg [⟨none,.mov 11 (.t 1)⟩,
 ⟨none,.mov 4 (.t 11)⟩])
 (.ret))))⟩
def r137L0:RC:=
 .seq (.seq (.reg [⟨none,.mov 8 (.t 4)⟩,
 ⟨none,.mov 9 (.t 0)⟩,
 ⟨none,.len 10 (.t 9)⟩,
 ⟨none,.bin 11 .lss (.t 8) (.t 10)⟩])
 (.cond (.t 11)
 (.skip)
 (.exit 0)))
 (.seq (.block 1 (.reg [⟨none,.mov 14 (.t 3)⟩,
 ⟨none,.mov 15 (.t 4)⟩,
 ⟨none,.mov 16 (.t 0)⟩,
 ⟨none,.mov 17 (.t 4)⟩,
 ⟨none,.idx 18 12 (.t 16) (.t 17)⟩,
 ⟨none,.load 19 18 5 true⟩,
 ⟨none,.call (some 20) 141 [(.t 19)] false⟩,
 ⟨none,.idx 21 11 (.t 14) (.t 15)⟩,
 ⟨none,.store 21 5 (.t 20)⟩]))
 (.reg [⟨none,.mov 12 (.t 4)⟩,
 ⟨none,.bin 13 .add (.t 12) (.k (.int .i64 1))⟩,
 ⟨none,.mov 4 (.t 13)⟩]))
def r137:RF:=
 ⟨1,[.tmp 2],
 .seq (.reg [⟨none,.mov 2 (.k (.nil))⟩])
 (.seq (.reg [⟨none,.mov 5 (.t 0)⟩,
 ⟨none,.len 6 (.t 5)⟩,
 ⟨none,.mks 7 11 40 [.int .u64 0,.int .u64 0,.int .u64 0,.int .u64 0,.int .i64 0] (.t 6) (.t 6)⟩,
 ⟨none,.mov 3 (.t 7)⟩])
 (.seq (.seq (.reg [⟨none,.mov 4 (.k (.int .i64 0))⟩])
 (.block 0 (.loop [0,3,4]
 r137L0)))
 (.seq (.reg [⟨none,.mov 22 (.t 3)⟩,
 ⟨none,.mov 2 (.t 22)⟩])
 (.ret))))⟩
def r139L0:RC:=
 .seq (.seq (.reg [⟨none,.mov 11 (.t 5)⟩,
 ⟨none,.mov 12 (.t 0)⟩,
 ⟨none,.len 13 (.t 12)⟩,
 ⟨none,.bin 14 .lss (.t 11) (.t 13)⟩])
 (.cond (.t 14)
 (.skip)
 (.exit 0)))
 (.seq (.block 1 (.seq (.reg [⟨none,.chk []⟩,
 ⟨none,.mov 17 (.t 0)⟩,
 ⟨none,.mov 18 (.t 5)⟩,
 ⟨none,.idx 19 11 (.t 17) (.t 18)⟩,
 ⟨none,.mov 21 (.t 1)⟩,
 ⟨none,.mov 22 (.t 5)⟩,
 ⟨none,.idx 23 11 (.t 21) (.t 22)⟩,
 ⟨none,.load 20 19 5 true⟩,
 ⟨none,.load 24 23 5 true⟩,
 ⟨none,.call (some 25) 142 [(.t 20),(.t 24)] true⟩,
 ⟨none,.not 26 (.t 25)⟩])
 (.cond (.t 26)
 (.seq (.reg [⟨none,.mov 4 (.k (.bool false))⟩])
 (.ret))
 (.skip))))
 (.reg [⟨none,.mov 15 (.t 5)⟩,
 ⟨none,.bin 16 .add (.t 15) (.k (.int .i64 1))⟩,
 ⟨none,.mov 5 (.t 16)⟩]))
def r139:RF:=
 ⟨2,[.tmp 4],
 .seq (.reg [⟨none,.mov 4 (.k (.bool false))⟩])
 (.seq (.seq (.reg [⟨none,.mov 6 (.t 0)⟩,
 ⟨none,.len 7 (.t 6)⟩,
 ⟨none,.mov 8 (.t 1)⟩,
 ⟨none,.len 9 (.t 8)⟩,
 ⟨none,.bin 10 .neq (.t 7) (.t 9)⟩])
 (.cond (.t 10)
 (.seq (.reg [⟨none,.mov 4 (.k (.bool false))⟩])
 (.ret))
 (.skip)))
 (.seq (.seq (.reg [⟨none,.mov 5 (.k (.int .i64 0))⟩])
 (.block 0 (.loop [0,1,5]
 r139L0)))
 (.seq (.reg [⟨none,.mov 4 (.k (.bool true))⟩])
 (.ret))))⟩
def r141:RF:=
 ⟨1,[.cell 2 5 true],
 .seq (.reg [⟨none,.locb 1 (.t 0)⟩,
 ⟨none,.loc 2 [.int .u64 0,.int .u64 0,.int .u64 0,.int .u64 0,.int .i64 0]⟩])
 (.seq (.reg [⟨none,.loc 3 [.int .u64 0,.int .u64 0,.int .u64 0,.int .u64 0,.int .i64 0]⟩])
 (.seq (.reg [⟨none,.fad 4 1 0⟩,
 ⟨none,.load 5 4 1 false⟩,
 ⟨none,.fad 6 3 0⟩,
 ⟨none,.store 6 1 (.t 5)⟩])
 (.seq (.reg [⟨none,.fad 7 1 1⟩,
 ⟨none,.load 8 7 1 false⟩,
 ⟨none,.fad 9 3 1⟩,
 ⟨none,.store 9 1 (.t 8)⟩])
 (.seq (.reg [⟨none,.fad 10 1 2⟩,
 ⟨none,.load 11 10 1 false⟩,
 ⟨none,.fad 12 3 2⟩,
 ⟨none,.store 12 1 (.t 11)⟩])
 (.seq (.reg [⟨none,.fad 13 1 3⟩,
 ⟨none,.load 14 13 1 false⟩,
 ⟨none,.fad 15 3 3⟩,
 ⟨none,.store 15 1 (.t 14)⟩])
 (.seq (.reg [⟨none,.fad 16 1 4⟩,
 ⟨none,.load 17 16 1 false⟩,
 ⟨none,.fad 18 3 4⟩,
 ⟨none,.store 18 1 (.t 17)⟩])
 (.seq (.reg [⟨none,.load 19 3 5 true⟩,
 ⟨none,.store 2 5 (.t 19)⟩])
 (.ret))))))))⟩
def r142:RF:=
 ⟨2,[.tmp 4],
 .seq (.reg [⟨none,.locb 2 (.t 0)⟩,
 ⟨none,.locb 3 (.t 1)⟩,
 ⟨none,.mov 4 (.k (.bool false))⟩])
 (.seq (.seq (.reg [⟨none,.fad 5 2 0⟩,
 ⟨none,.load 6 5 1 false⟩,
 ⟨none,.fad 7 3 0⟩,
 ⟨none,.load 8 7 1 false⟩,
 ⟨none,.bin 9 .neq (.t 6) (.t 8)⟩])
 (.cond (.t 9)
 (.seq (.reg [⟨none,.mov 4 (.k (.bool false))⟩])
 (.ret))
 (.skip)))
 (.seq (.seq (.reg [⟨none,.fad 10 2 1⟩,
 ⟨none,.load 11 10 1 false⟩,
 ⟨none,.fad 12 3 1⟩,
 ⟨none,.load 13 12 1 false⟩,
 ⟨none,.bin 14 .neq (.t 11) (.t 13)⟩])
 (.cond (.t 14)
 (.seq (.reg [⟨none,.mov 4 (.k (.bool false))⟩])
 (.ret))
 (.skip)))
 (.seq (.seq (.reg [⟨none,.fad 15 2 2⟩,
 ⟨none,.load 16 15 1 false⟩,
 ⟨none,.fad 17 3 2⟩,
 ⟨none,.load 18 17 1 false⟩,
 ⟨none,.bin 19 .neq (.t 16) (.t 18)⟩])
 (.cond (.t 19)
 (.seq (.reg [⟨none,.mov 4 (.k (.bool false))⟩])
 (.ret))
 (.skip)))
 (.seq (.seq (.reg [⟨none,.fad 20 2 3⟩,
 ⟨none,.load 21 20 1 false⟩,
 ⟨none,.fad 22 3 3⟩,
 ⟨none,.load 23 22 1 false⟩,
 ⟨none,.bin 24 .neq (.t 21) (.t 23)⟩])
 (.cond (.t 24)
 (.seq (.reg [⟨none,.mov 4 (.k (.bool false))⟩])
 (.ret))
 (.skip)))
 (.seq (.seq (.reg [⟨none,.fad 25 2 4⟩,
 ⟨none,.load 26 25 1 false⟩,
 ⟨none,.fad 27 3 4⟩,
 ⟨none,.load 28 27 1 false⟩,
 ⟨none,.bin 29 .neq (.t 26) (.t 28)⟩])
 (.cond (.t 29)
 (.seq (.reg [⟨none,.mov 4 (.k (.bool false))⟩])
 (.ret))
 (.skip)))
 (.seq (.reg [⟨none,.mov 4 (.k (.bool true))⟩])
 (.ret)))))))⟩
def r261L0:RC:=
 .seq (.seq (.reg [⟨none,.mov 6 (.t 5)⟩,
 ⟨none,.mov 7 (.t 0)⟩,
 ⟨none,.len 8 (.t 7)⟩,
 ⟨none,.bin 9 .lss (.t 6) (.t 8)⟩])
 (.cond (.t 9)
 (.skip)
 (.exit 0)))
 (.seq (.block 1 (.seq (.reg [⟨none,.mov 12 (.t 0)⟩,
 ⟨none,.mov 13 (.t 5)⟩,
 ⟨none,.mov 14 (.t 1)⟩,
 ⟨none,.conv 15 .u64 (.t 14)⟩,
 ⟨none,.idx 16 11 (.t 12) (.t 13)⟩,
 ⟨none,.fad 17 16 0⟩,
 ⟨none,.store 17 1 (.t 15)⟩])
 (.seq (.reg [⟨none,.mov 18 (.t 1)⟩,
 ⟨none,.bin 19 .add (.t 18) (.k (.int .i64 1))⟩,
 ⟨none,.mov 1 (.t 19)⟩])
 (.seq (.reg [⟨none,.mov 20 (.t 0)⟩,
 ⟨none,.mov 21 (.t 5)⟩,
 ⟨none,.mov 22 (.t 1)⟩,
 ⟨none,.conv 23 .u64 (.t 22)⟩,
 ⟨none,.idx 24 11 (.t 20) (.t 21)⟩,
 ⟨none,.fad 25 24 1⟩,
 ⟨none,.store 25 1 (.t 23)⟩])
 (.seq (.reg [⟨none,.mov 26 (.t 1)⟩,
 ⟨none,.bin 27 .add (.t 26) (.k (.int .i64 1))⟩,
 ⟨none,.mov 1 (.t 27)⟩])
 (.seq (.reg [⟨none,.mov 28 (.t 0)⟩,
 ⟨none,.mov 29 (.t 5)⟩,
 ⟨none,.mov 30 (.t 1)⟩,
 ⟨none,.conv 31 .u64 (.t 30)⟩,
 ⟨none,.idx 32 11 (.t 28) (.t 29)⟩,
 ⟨none,.fad 33 32 2⟩,
 ⟨none,.store 33 1 (.t 31)⟩])
 (.seq (.reg [⟨none,.mov 34 (.t 1)⟩,
 ⟨none,.bin 35 .add (.t 34) (.k (.int .i64 1))⟩,
 ⟨none,.mov 1 (.t 35)⟩])
 (.seq (.reg [⟨none,.mov 36 (.t 0)⟩,
 ⟨none,.mov 37 (.t 5)⟩,
 ⟨none,.mov 38 (.t 1)⟩,
 ⟨none,.conv 39 .u64 (.t 38)⟩,
 ⟨none,.idx 40 11 (.t 36) (.t 37)⟩,
 ⟨none,.fad 41 40 3⟩,
 ⟨none,.store 41 1 (.t 39)⟩])
 (.seq (.reg [⟨none,.mov 42 (.t 1)⟩,
 ⟨none,.bin 43 .add (.t 42) (.k (.int .i64 1))⟩,
 ⟨none,.mov 1 (.t 43)⟩])
 (.seq (.reg [⟨none,.mov 44 (.t 0)⟩,
 ⟨none,.mov 45 (.t 5)⟩,
 ⟨none,.mov 46 (.t 1)⟩,
 ⟨none,.idx 47 11 (.t 44) (.t 45)⟩,
 ⟨none,.fad 48 47 4⟩,
 ⟨none,.store 48 1 (.t 46)⟩])
 (.reg [⟨none,.mov 49 (.t 1)⟩,
 ⟨none,.bin 50 .add (.t 49) (.k (.int .i64 1))⟩,
 ⟨none,.mov 1 (.t 50)⟩])))))))))))
 (.reg [⟨none,.mov 10 (.t 5)⟩,
 ⟨none,.bin 11 .add (.t 10) (.k (.int .i64 1))⟩,
 ⟨none,.mov 5 (.t 11)⟩]))
def r261:RF:=
 ⟨2,[.tmp 4],
 .seq (.reg [⟨none,.mov 4 (.k (.int .i64 0))⟩])
 (.seq (.seq (.reg [⟨none,.mov 5 (.k (.int .i64 0))⟩])
 (.block 0 (.loop [0,1,5]
 r261L0)))
 (.seq (.reg [⟨none,.mov 51 (.t 1)⟩,
 ⟨none,.mov 4 (.t 51)⟩])
 (.ret)))⟩
def r262L0:RC:=
 .seq (.seq (.reg [⟨none,.mov 6 (.t 5)⟩,
 ⟨none,.mov 7 (.t 0)⟩,
 ⟨none,.len 8 (.t 7)⟩,
 ⟨none,.bin 9 .lss (.t 6) (.t 8)⟩])
 (.cond (.t 9)
 (.skip)
 (.exit 0)))
 (.seq (.block 1 (.seq (.seq (.reg [⟨none,.mov 12 (.t 0)⟩,
 ⟨none,.mov 13 (.t 5)⟩,
 ⟨none,.idx 14 11 (.t 12) (.t 13)⟩,
 ⟨none,.fad 15 14 0⟩,
 ⟨none,.load 16 15 1 false⟩,
 ⟨none,.mov 17 (.t 1)⟩,
 ⟨none,.conv 18 .u64 (.t 17)⟩,
 ⟨none,.bin 19 .neq (.t 16) (.t 18)⟩])
 (.cond (.t 19)
 (.seq (.reg [⟨none,.mov 4 (.k (.int .i64 (-1)))⟩])
 (.ret))
 (.skip)))
 (.seq (.reg [⟨none,.mov 20 (.t 1)⟩,
 ⟨none,.bin 21 .add (.t 20) (.k (.int .i64 1))⟩,
 ⟨none,.mov 1 (.t 21)⟩])
 (.seq (.seq (.reg [⟨none,.mov 22 (.t 0)⟩,
 ⟨none,.mov 23 (.t 5)⟩,
 ⟨none,.idx 24 11 (.t 22) (.t 23)⟩,
 ⟨none,.fad 25 24 1⟩,
 ⟨none,.load 26 25 1 false⟩,
 ⟨none,.mov 27 (.t 1)⟩,
 ⟨none,.conv 28 .u64 (.t 27)⟩,
 ⟨none,.bin 29 .neq (.t 26) (.t 28)⟩])
 (.cond (.t 29)
 (.seq (.reg [⟨none,.mov 4 (.k (.int .i64 (-1)))⟩])
 (.ret))
 (.skip)))
 (.seq (.reg [⟨none,.mov 30 (.t 1)⟩,
 ⟨none,.bin 31 .add (.t 30) (.k (.int .i64 1))⟩,
 ⟨none,.mov 1 (.t 31)⟩])
 (.seq (.seq (.reg [⟨none,.mov 32 (.t 0)⟩,
 ⟨none,.mov 33 (.t 5)⟩,
 ⟨none,.idx 34 11 (.t 32) (.t 33)⟩,
 ⟨none,.fad 35 34 2⟩,
 ⟨none,.load 36 35 1 false⟩,
 ⟨none,.mov 37 (.t 1)⟩,
 ⟨none,.conv 38 .u64 (.t 37)⟩,
 ⟨none,.bin 39 .neq (.t 36) (.t 38)⟩])
 (.cond (.t 39)
 (.seq (.reg [⟨none,.mov 4 (.k (.int .i64 (-1)))⟩])
 (.ret))
 (.skip)))
 (.seq (.reg [⟨none,.mov 40 (.t 1)⟩,
 ⟨none,.bin 41 .add (.t 40) (.k (.int .i64 1))⟩,
 ⟨none,.mov 1 (.t 41)⟩])
 (.seq (.seq (.reg [⟨none,.mov 42 (.t 0)⟩,
 ⟨none,.mov 43 (.t 5)⟩,
 ⟨none,.idx 44 11 (.t 42) (.t 43)⟩,
 ⟨none,.fad 45 44 3⟩,
 ⟨none,.load 46 45 1 false⟩,
 ⟨none,.mov 47 (.t 1)⟩,
 ⟨none,.conv 48 .u64 (.t 47)⟩,
 ⟨none,.bin 49 .neq (.t 46) (.t 48)⟩])
 (.cond (.t 49)
 (.seq (.reg [⟨none,.mov 4 (.k (.int .i64 (-1)))⟩])
 (.ret))
 (.skip)))
 (.seq (.reg [⟨none,.mov 50 (.t 1)⟩,
 ⟨none,.bin 51 .add (.t 50) (.k (.int .i64 1))⟩,
 ⟨none,.mov 1 (.t 51)⟩])
 (.seq (.seq (.reg [⟨none,.mov 52 (.t 0)⟩,
 ⟨none,.mov 53 (.t 5)⟩,
 ⟨none,.idx 54 11 (.t 52) (.t 53)⟩,
 ⟨none,.fad 55 54 4⟩,
 ⟨none,.load 56 55 1 false⟩,
 ⟨none,.mov 57 (.t 1)⟩,
 ⟨none,.bin 58 .neq (.t 56) (.t 57)⟩])
 (.cond (.t 58)
 (.seq (.reg [⟨none,.mov 4 (.k (.int .i64 (-1)))⟩])
 (.ret))
 (.skip)))
 (.reg [⟨none,.mov 59 (.t 1)⟩,
 ⟨none,.bin 60 .add (.t 59) (.k (.int .i64 1))⟩,
 ⟨none,.mov 1 (.t 60)⟩])))))))))))
 (.reg [⟨none,.mov 10 (.t 5)⟩,
 ⟨none,.bin 11 .add (.t 10) (.k (.int .i64 1))⟩,
 ⟨none,.mov 5 (.t 11)⟩]))
def r262:RF:=
 ⟨2,[.tmp 4],
 .seq (.reg [⟨none,.mov 4 (.k (.int .i64 0))⟩])
 (.seq (.seq (.reg [⟨none,.mov 5 (.k (.int .i64 0))⟩])
 (.block 0 (.loop [0,1,5]
 r262L0)))
 (.seq (.reg [⟨none,.mov 61 (.t 1)⟩,
 ⟨none,.mov 4 (.t 61)⟩])
 (.ret)))⟩
def tLAccount:List (Nat×RF):=[(136,r136),(137,r137),(139,r139),(141,r141),(142,r142),(261,r261),(262,r262)]
end Go.Proofs.Yteagcdhkobeanaa.A
namespace Go.Proofs.Yteagcdhkobeanaa.A
open Go
def r128:RF:=
 ⟨2,[.tmp 4],
 .seq (.reg [⟨none,.locb 2 (.t 0)⟩,
 ⟨none,.mov 4 (.k (.int .i64 0))⟩])
 (.seq (.reg [⟨none,.fad 5 2 0⟩,
 ⟨none,.load 6 5 1 false⟩,
 ⟨none,.mov 7 (.t 1)⟩,
 ⟨none,.call (some 8) 136 [(.t 6),(.t 7)] false⟩,
 ⟨none,.mov 1 (.t 8)⟩])
 (.seq (.seq (.reg [⟨none,.mov 9 (.t 1)⟩,
 ⟨none,.bin 10 .lss (.t 9) (.k (.int .i64 0))⟩])
 (.cond (.t 10)
 (.seq (.reg [⟨none,.mov 4 (.k (.int .i64 (-1)))⟩])
 (.ret))
 (.skip)))
 (.seq (.reg [⟨none,.mov 11 (.t 1)⟩,
 ⟨none,.mov 4 (.t 11)⟩])
 (.ret))))⟩
def r130:RF:=
 ⟨1,[.cell 2 1 true],
 .seq (.reg [⟨none,.locb 1 (.t 0)⟩,
 ⟨none,.loc 2 [.nil]⟩])
 (.seq (.reg [⟨none,.loc 3 [.nil]⟩])
 (.seq (.reg [⟨none,.fad 4 1 0⟩,
 ⟨none,.load 5 4 1 false⟩,
 ⟨none,.call (some 6) 137 [(.t 5)] false⟩,
 ⟨none,.fad 7 3 0⟩,
 ⟨none,.store 7 1 (.t 6)⟩])
 (.seq (.reg [⟨none,.load 8 3 1 true⟩,
 ⟨none,.store 2 1 (.t 8)⟩])
 (.ret))))⟩
def r133:RF:=
 ⟨2,[.tmp 4],
 .seq (.reg [⟨none,.locb 2 (.t 0)⟩,
 ⟨none,.locb 3 (.t 1)⟩,
 ⟨none,.mov 4 (.k (.bool false))⟩])
 (.seq (.seq (.reg [⟨none,.fad 5 2 0⟩,
 ⟨none,.load 6 5 1 false⟩,
 ⟨none,.fad 7 3 0⟩,
 ⟨none,.load 8 7 1 false⟩,
 ⟨none,.call (some 9) 139 [(.t 6),(.t 8)] false⟩,
 ⟨none,.not 10 (.t 9)⟩])
 (.cond (.t 10)
 (.seq (.reg [⟨none,.mov 4 (.k (.bool false))⟩])
 (.ret))
 (.skip)))
 (.seq (.reg [⟨none,.mov 4 (.k (.bool true))⟩])
 (.ret)))⟩
def r231:RF:=
 ⟨2,[.tmp 4],
 .seq (.reg [⟨none,.locb 2 (.t 0)⟩,
 ⟨none,.mov 4 (.k (.int .i64 0))⟩])
 (.seq (.reg [⟨none,.fad 5 2 0⟩,
 ⟨none,.load 6 5 1 false⟩,
 ⟨none,.mov 7 (.t 1)⟩,
 ⟨none,.call (some 8) 261 [(.t 6),(.t 7)] false⟩,
 ⟨none,.mov 1 (.t 8)⟩])
 (.seq (.reg [⟨none,.mov 9 (.t 1)⟩,
 ⟨none,.mov 4 (.t 9)⟩])
 (.ret)))⟩
def tLBook:List (Nat×RF):=[(128,r128),(130,r130),(133,r133),(231,r231)]
end Go.Proofs.Yteagcdhkobeanaa.A
namespace Go.Proofs.Yteagcdhkobeanaa.A
open Go
def r129:RF:=
 ⟨2,[.tmp 4],
 .seq (.reg [⟨none,.mov 4 (.k (.int .i64 0))⟩])
 (.seq (.reg [⟨none,.mov 5 (.t 1)⟩,
 ⟨none,.mov 6 (.t 0)⟩,
 ⟨none,.len 7 (.t 6)⟩,
 ⟨none,.bin 8 .sub (.t 5) (.t 7)⟩,
 ⟨none,.mov 1 (.t 8)⟩])
 (.seq (.seq (.reg [⟨none,.mov 9 (.t 1)⟩,
 ⟨none,.bin 10 .lss (.t 9) (.k (.int .i64 0))⟩])
 (.cond (.t 10)
 (.seq (.reg [⟨none,.mov 4 (.k (.int .i64 (-1)))⟩])
 (.ret))
 (.skip)))
 (.seq (.reg [⟨none,.mov 11 (.t 1)⟩,
 ⟨none,.mov 4 (.t 11)⟩])
 (.ret))))⟩
def r131L0:RC:=
 .seq (.seq (.reg [⟨none,.mov 8 (.t 4)⟩,
 ⟨none,.mov 9 (.t 0)⟩,
 ⟨none,.len 10 (.t 9)⟩,
 ⟨none,.bin 11 .lss (.t 8) (.t 10)⟩])
 (.cond (.t 11)
 (.skip)
 (.exit 0)))
 (.seq (.block 1 (.reg [⟨none,.mov 14 (.t 3)⟩,
 ⟨none,.mov 15 (.t 4)⟩,
 ⟨none,.mov 16 (.t 0)⟩,
 ⟨none,.mov 17 (.t 4)⟩,
 ⟨none,.idx 18 10 (.t 16) (.t 17)⟩,
 ⟨none,.load 19 18 2 true⟩,
 ⟨none,.call (some 20) 138 [(.t 19)] false⟩,
 ⟨none,.idx 21 9 (.t 14) (.t 15)⟩,
 ⟨none,.store 21 2 (.t 20)⟩]))
 (.reg [⟨none,.mov 12 (.t 4)⟩,
 ⟨none,.bin 13 .add (.t 12) (.k (.int .i64 1))⟩,
 ⟨none,.mov 4 (.t 13)⟩]))
def r131:RF:=
 ⟨1,[.tmp 2],
 .seq (.reg [⟨none,.mov 2 (.k (.nil))⟩])
 (.seq (.reg [⟨none,.mov 5 (.t 0)⟩,
 ⟨none,.len 6 (.t 5)⟩,
 ⟨none,.mks 7 9 16 [.int .i64 0,.int .u64 0] (.t 6) (.t 6)⟩,
 ⟨none,.mov 3 (.t 7)⟩])
 (.seq (.seq (.reg [⟨none,.mov 4 (.k (.int .i64 0))⟩])
 (.block 0 (.loop [0,3,4]
 r131L0)))
 (.seq (.reg [⟨none,.mov 22 (.t 3)⟩,
 ⟨none,.mov 2 (.t 22)⟩])
 (.ret))))⟩
def r134L0:RC:=
 .seq (.seq (.reg [⟨none,.mov 11 (.t 5)⟩,
 ⟨none,.mov 12 (.t 0)⟩,
 ⟨none,.len 13 (.t 12)⟩,
 ⟨none,.bin 14 .lss (.t 11) (.t 13)⟩])
 (.cond (.t 14)
 (.skip)
 (.exit 0)))
 (.seq (.block 1 (.seq (.reg [⟨none,.chk []⟩,
 ⟨none,.mov 17 (.t 0)⟩,
 ⟨none,.mov 18 (.t 5)⟩,
 ⟨none,.idx 19 9 (.t 17) (.t 18)⟩,
 ⟨none,.mov 21 (.t 1)⟩,
 ⟨none,.mov 22 (.t 5)⟩,
 ⟨none,.idx 23 9 (.t 21) (.t 22)⟩,
 ⟨none,.load 20 19 2 true⟩,
 ⟨none,.load 24 23 2 true⟩,
 ⟨none,.call (some 25) 140 [(.t 20),(.t 24)] true⟩,
 ⟨none,.not 26 (.t 25)⟩])
 (.cond (.t 26)
 (.seq (.reg [⟨none,.mov 4 (.k (.bool false))⟩])
 (.ret))
 (.skip))))
 (.reg [⟨none,.mov 15 (.t 5)⟩,
 ⟨none,.bin 16 .add (.t 15) (.k (.int .i64 1))⟩,
 ⟨none,.mov 5 (.t 16)⟩]))
def r134:RF:=
 ⟨2,[.tmp 4],
 .seq (.reg [⟨none,.mov 4 (.k (.bool false))⟩])
 (.seq (.seq (.reg [⟨none,.mov 6 (.t 0)⟩,
 ⟨none,.len 7 (.t 6)⟩,
 ⟨none,.mov 8 (.t 1)⟩,
 ⟨none,.len 9 (.t 8)⟩,
 ⟨none,.bin 10 .neq (.t 7) (.t 9)⟩])
 (.cond (.t 10)
 (.seq (.reg [⟨none,.mov 4 (.k (.bool false))⟩])
 (.ret))
 (.skip)))
 (.seq (.seq (.reg [⟨none,.mov 5 (.k (.int .i64 0))⟩])
 (.block 0 (.loop [0,1,5]
 r134L0)))
 (.seq (.reg [⟨none,.mov 4 (.k (.bool true))⟩])
 (.ret))))⟩
def r138:RF:=
 ⟨1,[.cell 2 2 true],
 .seq (.reg [⟨none,.locb 1 (.t 0)⟩,
 ⟨none,.loc 2 [.int .i64 0,.int .u64 0]⟩])
 (.seq (.reg [⟨none,.loc 3 [.int .i64 0,.int .u64 0]⟩])
 (.seq (.reg [⟨none,.fad 4 1 0⟩,
 ⟨none,.load 5 4 1 false⟩,
 ⟨none,.fad 6 3 0⟩,
 ⟨none,.store 6 1 (.t 5)⟩])
 (.seq (.reg [⟨none,.fad 7 1 1⟩,
 ⟨none,.load 8 7 1 false⟩,
 ⟨none,.fad 9 3 1⟩,
 ⟨none,.store 9 1 (.t 8)⟩])
 (.seq (.reg [⟨none,.load 10 3 2 true⟩,
 ⟨none,.store 2 2 (.t 10)⟩])
 (.ret)))))⟩
def r140:RF:=
 ⟨2,[.tmp 4],
 .seq (.reg [⟨none,.locb 2 (.t 0)⟩,
 ⟨none,.locb 3 (.t 1)⟩,
 ⟨none,.mov 4 (.k (.bool false))⟩])
 (.seq (.seq (.reg [⟨none,.fad 5 2 0⟩,
 ⟨none,.load 6 5 1 false⟩,
 ⟨none,.fad 7 3 0⟩,
 ⟨none,.load 8 7 1 false⟩,
 ⟨none,.bin 9 .neq (.t 6) (.t 8)⟩])
 (.cond (.t 9)
 (.seq (.reg [⟨none,.mov 4 (.k (.bool false))⟩])
 (.ret))
 (.skip)))
 (.seq (.seq (.reg [⟨none,.fad 10 2 1⟩,
 ⟨none,.load 11 10 1 false⟩,
 ⟨none,.fad 12 3 1⟩,
 ⟨none,.load 13 12 1 false⟩,
 ⟨none,.bin 14 .neq (.t 11) (.t 13)⟩])
 (.cond (.t 14)
 (.seq (.reg [⟨none,.mov 4 (.k (.bool false))⟩])
 (.ret))
 (.skip)))
 (.seq (.reg [⟨none,.mov 4 (.k (.bool true))⟩])
 (.ret))))⟩
def r232L0:RC:=
 .seq (.seq (.reg [⟨none,.mov 6 (.t 5)⟩,
 ⟨none,.mov 7 (.t 0)⟩,
 ⟨none,.len 8 (.t 7)⟩,
 ⟨none,.bin 9 .lss (.t 6) (.t 8)⟩])
 (.cond (.t 9)
 (.skip)
 (.exit 0)))
 (.seq (.block 1 (.seq (.reg [⟨none,.mov 12 (.t 0)⟩,
 ⟨none,.mov 13 (.t 5)⟩,
 ⟨none,.mov 14 (.t 1)⟩,
 ⟨none,.idx 15 9 (.t 12) (.t 13)⟩,
 ⟨none,.fad 16 15 0⟩,
 ⟨none,.store 16 1 (.t 14)⟩])
 (.seq (.reg [⟨none,.mov 17 (.t 1)⟩,
 ⟨none,.bin 18 .add (.t 17) (.k (.int .i64 1))⟩,
 ⟨none,.mov 1 (.t 18)⟩])
 (.seq (.reg [⟨none,.mov 19 (.t 0)⟩,
 ⟨none,.mov 20 (.t 5)⟩,
 ⟨none,.mov 21 (.t 1)⟩,
 ⟨none,.conv 22 .u64 (.t 21)⟩,
 ⟨none,.idx 23 9 (.t 19) (.t 20)⟩,
 ⟨none,.fad 24 23 1⟩,
 ⟨none,.store 24 1 (.t 22)⟩])
 (.reg [⟨none,.mov 25 (.t 1)⟩,
 ⟨none,.bin 26 .add (.t 25) (.k (.int .i64 1))⟩,
 ⟨none,.mov 1 (.t 26)⟩])))))
 (.reg [⟨none,.mov 10 (.t 5)⟩,
 ⟨none,.bin 11 .add (.t 10) (.k (.int .i64 1))⟩,
 ⟨none,.mov 5 (.t 11)⟩]))
def r232:RF:=
 ⟨2,[.tmp 4],
 .seq (.reg [⟨none,.mov 4 (.k (.int .i64 0))⟩])
 (.seq (.seq (.reg [⟨none,.mov 5 (.k (.int .i64 0))⟩])
 (.block 0 (.loop [0,1,5]
 r232L0)))
 (.seq (.reg [⟨none,.mov 27 (.t 1)⟩,
 ⟨none,.mov 4 (.t 27)⟩])
 (.ret)))⟩
def r234L0:RC:=
 .seq (.seq (.reg [⟨none,.mov 6 (.t 5)⟩,
 ⟨none,.mov 7 (.t 0)⟩,
 ⟨none,.len 8 (.t 7)⟩,
 ⟨none,.bin 9 .lss (.t 6) (.t 8)⟩])
 (.cond (.t 9)
 (.skip)
 (.exit 0)))
 (.seq (.block 1 (.seq (.seq (.reg [⟨none,.mov 12 (.t 0)⟩,
 ⟨none,.mov 13 (.t 5)⟩,
 ⟨none,.idx 14 9 (.t 12) (.t 13)⟩,
 ⟨none,.fad 15 14 0⟩,
 ⟨none,.load 16 15 1 false⟩,
 ⟨none,.mov 17 (.t 1)⟩,
 ⟨none,.bin 18 .neq (.t 16) (.t 17)⟩])
 (.cond (.t 18)
 (.seq (.reg [⟨none,.mov 4 (.k (.int .i64 (-1)))⟩])
 (.ret))
 (.skip)))
 (.seq (.reg [⟨none,.mov 19 (.t 1)⟩,
 ⟨none,.bin 20 .add (.t 19) (.k (.int .i64 1))⟩,
 ⟨none,.mov 1 (.t 20)⟩])
 (.seq (.seq (.reg [⟨none,.mov 21 (.t 0)⟩,
 ⟨none,.mov 22 (.t 5)⟩,
 ⟨none,.idx 23 9 (.t 21) (.t 22)⟩,
 ⟨none,.fad 24 23 1⟩,
 ⟨none,.load 25 24 1 false⟩,
 ⟨none,.mov 26 (.t 1)⟩,
 ⟨none,.conv 27 .u64 (.t 26)⟩,
 ⟨none,.bin 28 .neq (.t 25) (.t 27)⟩])
 (.cond (.t 28)
 (.seq (.reg [⟨none,.mov 4 (.k (.int .i64 (-1)))⟩])
 (.ret))
 (.skip)))
 (.reg [⟨none,.mov 29 (.t 1)⟩,
 ⟨none,.bin 30 .add (.t 29) (.k (.int .i64 1))⟩,
 ⟨none,.mov 1 (.t 30)⟩])))))
 (.reg [⟨none,.mov 10 (.t 5)⟩,
 ⟨none,.bin 11 .add (.t 10) (.k (.int .i64 1))⟩,
 ⟨none,.mov 5 (.t 11)⟩]))
def r234:RF:=
 ⟨2,[.tmp 4],
 .seq (.reg [⟨none,.mov 4 (.k (.int .i64 0))⟩])
 (.seq (.seq (.reg [⟨none,.mov 5 (.k (.int .i64 0))⟩])
 (.block 0 (.loop [0,1,5]
 r234L0)))
 (.seq (.reg [⟨none,.mov 31 (.t 1)⟩,
 ⟨none,.mov 4 (.t 31)⟩])
 (.ret)))⟩
def tLFin:List (Nat×RF):=[(129,r129),(131,r131),(134,r134),(138,r138),(140,r140),(232,r232),(234,r234)]
end Go.Proofs.Yteagcdhkobeanaa.A
namespace Go.Proofs.Yteagcdhkobeanaa.A
open Go
def r82:RF:=
 ⟨2,[.tmp 4],
 .seq (.reg [⟨none,.locb 2 (.t 0)⟩,
 ⟨none,.mov 4 (.k (.int .i64 0))⟩])
 (.seq (.reg [⟨none,.fad 5 2 4⟩,
 ⟨none,.load 6 5 6 true⟩,
 ⟨none,.mov 7 (.t 1)⟩,
 ⟨none,.call (some 8) 111 [(.t 6),(.t 7)] false⟩,
 ⟨none,.mov 1 (.t 8)⟩])
 (.seq (.seq (.reg [⟨none,.mov 9 (.t 1)⟩,
 ⟨none,.bin 10 .lss (.t 9) (.k (.int .i64 0))⟩])
 (.cond (.t 10)
 (.seq (.reg [⟨none,.mov 4 (.k (.int .i64 (-1)))⟩])
 (.ret))
 (.skip)))
 (.seq (.reg [⟨none,.mov 11 (.t 1)⟩,
 ⟨none,.mov 4 (.t 11)⟩])
 (.ret))))⟩
def r83:RF:=
 ⟨1,[.cell 2 10 true],
 .seq (.reg [⟨none,.locb 1 (.t 0)⟩,
 ⟨none,.loc 2 [.int .i64 0,.int .u64 0,.int .i64 0,.int .i64 0,.int .u64 0,.int .u64 0,.int .i64 0,.int .i64 0,.nil,.nil]⟩])
 (.seq (.reg [⟨none,.loc 3 [.int .i64 0,.int .u64 0,.int .i64 0,.int .i64 0,.int .u64 0,.int .u64 0,.int .i64 0,.int .i64 0,.nil,.nil]⟩])
 (.seq (.reg [⟨none,.fad 4 1 0⟩,
 ⟨none,.load 5 4 1 false⟩,
 ⟨none,.fad 6 3 0⟩,
 ⟨none,.store 6 1 (.t 5)⟩])
 (.seq (.reg [⟨none,.fad 7 1 1⟩,
 ⟨none,.load 8 7 1 false⟩,
 ⟨none,.fad 9 3 1⟩,
 ⟨none,.store 9 1 (.t 8)⟩])
 (.seq (.reg [⟨none,.fad 10 1 2⟩,
 ⟨none,.load 11 10 1 false⟩,
 ⟨none,.fad 12 3 2⟩,
 ⟨none,.store 12 1 (.t 11)⟩])
 (.seq (.reg [⟨none,.fad 13 1 3⟩,
 ⟨none,.load 14 13 1 false⟩,
 ⟨none,.fad 15 3 3⟩,
 ⟨none,.store 15 1 (.t 14)⟩])
 (.seq (.reg [⟨none,.fad 16 1 4⟩,
 ⟨none,.load 17 16 6 true⟩,
 ⟨none,.call (some 18) 112 [(.t 17)] false⟩,
 ⟨none,.fad 19 3 4⟩,
 ⟨none,.store 19 6 (.t 18)⟩])
 (.seq (.reg [⟨none,.load 20 3 10 true⟩,
 ⟨none,.store 2 10 (.t 20)⟩])
 (.ret))))))))⟩
def r87:RF:=
 ⟨2,[.tmp 4],
 .seq (.reg [⟨none,.locb 2 (.t 0)⟩,
 ⟨none,.locb 3 (.t 1)⟩,
 ⟨none,.mov 4 (.k (.bool false))⟩])
 (.seq (.seq (.reg [⟨none,.fad 5 2 0⟩,
 ⟨none,.load 6 5 1 false⟩,
 ⟨none,.fad 7 3 0⟩,
 ⟨none,.load 8 7 1 false⟩,
 ⟨none,.bin 9 .neq (.t 6) (.t 8)⟩])
 (.cond (.t 9)
 (.seq (.reg [⟨none,.mov 4 (.k (.bool false))⟩])
 (.ret))
 (.skip)))
 (.seq (.seq (.reg [⟨none,.fad 10 2 1⟩,
 ⟨none,.load 11 10 1 false⟩,
 ⟨none,.fad 12 3 1⟩,
 ⟨none,.load 13 12 1 false⟩,
 ⟨none,.bin 14 .neq (.t 11) (.t 13)⟩])
 (.cond (.t 14)
 (.seq (.reg [⟨none,.mov 4 (.k (.bool false))⟩])
 (.ret))
 (.skip)))
 (.seq (.seq (.reg [⟨none,.fad 15 2 2⟩,
 ⟨none,.load 16 15 1 false⟩,
 ⟨none,.fad 17 3 2⟩,
 ⟨none,.load 18 17 1 false⟩,
 ⟨none,.bin 19 .neq (.t 16) (.t 18)⟩])
 (.cond (.t 19)
 (.seq (.reg [⟨none,.mov 4 (.k (.bool false))⟩])
 (.ret))
 (.skip)))
 (.seq (.seq (.reg [⟨none,.fad 20 2 3⟩,
 ⟨none,.load 21 20 1 false⟩,
 ⟨none,.fad 22 3 3⟩,
 ⟨none,.load 23 22 1 false⟩,
 ⟨none,.bin 24 .neq (.t 21) (.t 23)⟩])
 (.cond (.t 24)
 (.seq (.reg [⟨none,.mov 4 (.k (.bool false))⟩])
 (.ret))
 (.skip)))
 (.seq (.seq (.reg [⟨none,.fad 25 2 4⟩,
 ⟨none,.load 26 25 6 true⟩,
 ⟨none,.fad 27 3 4⟩,
 ⟨none,.load 28 27 6 true⟩,
 ⟨none,.call (some 29) 114 [(.t 26),(.t 28)] false⟩,
 ⟨none,.not 30 (.t 29)⟩])
 (.cond (.t 30)
 (.seq (.reg [⟨none,.mov 4 (.k (.bool false))⟩])
 (.ret))
 (.skip)))
 (.seq (.reg [⟨none,.mov 4 (.k (.bool true))⟩])
 (.ret)))))))⟩
def r305:RF:=
 ⟨2,[.tmp 4],
 .seq (.reg [⟨none,.locb 2 (.t 0)⟩,
 ⟨none,.mov 4 (.k (.int .i64 0))⟩])
 (.seq (.reg [⟨none,.fad 5 2 4⟩,
 ⟨none,.load 6 5 6 true⟩,
 ⟨none,.mov 7 (.t 1)⟩,
 ⟨none,.call (some 8) 192 [(.t 6),(.t 7)] false⟩,
 ⟨none,.mov 1 (.t 8)⟩])
 (.seq (.reg [⟨none,.mov 9 (.t 1)⟩,
 ⟨none,.mov 4 (.t 9)⟩])
 (.ret)))⟩
def tLHandMsg:List (Nat×RF):=[(82,r82),(83,r83),(87,r87),(305,r305)]
end Go.Proofs.Yteagcdhkobeanaa.A
namespace Go.Proofs.Yteagcdhkobeanaa.A
open Go
def r111:RF:=
 ⟨2,[.tmp 4],
 .seq (.reg [⟨none,.locb 2 (.t 0)⟩,
 ⟨none,.mov 4 (.k (.int .i64 0))⟩])
 (.seq (.reg [⟨none,.fad 5 2 4⟩,
 ⟨none,.load 6 5 1 true⟩,
 ⟨none,.mov 7 (.t 1)⟩,
 ⟨none,.call (some 8) 128 [(.t 6),(.t 7)] false⟩,
 ⟨none,.mov 1 (.t 8)⟩])
 (.seq (.seq (.reg [⟨none,.mov 9 (.t 1)⟩,
 ⟨none,.bin 10 .lss (.t 9) (.k (.int .i64 0))⟩])
 (.cond (.t 10)
 (.seq (.reg [⟨none,.mov 4 (.k (.int .i64 (-1)))⟩])
 (.ret))
 (.skip)))
 (.seq (.reg [⟨none,.fad 11 2 5⟩,
 ⟨none,.load 12 11 1 false⟩,
 ⟨none,.mov 13 (.t 1)⟩,
 ⟨none,.call (some 14) 129 [(.t 12),(.t 13)] false⟩,
 ⟨none,.mov 1 (.t 14)⟩])
 (.seq (.seq (.reg [⟨none,.mov 15 (.t 1)⟩,
 ⟨none,.bin 16 .lss (.t 15) (.k (.int .i64 0))⟩])
 (.cond (.t 16)
 (.seq (.reg [⟨none,.mov 4 (.k (.int .i64 (-1)))⟩])
 (.ret))
 (.skip)))
 (.seq (.reg [⟨none,.mov 17 (.t 1)⟩,
 ⟨none,.mov 4 (.t 17)⟩])
 (.ret))))))⟩
def r112:RF:=
 ⟨1,[.cell 2 6 true],
 .seq (.reg [⟨none,.locb 1 (.t 0)⟩,
 ⟨none,.loc 2 [.int .u64 0,.int .u64 0,.int .i64 0,.int .i64 0,.nil,.nil]⟩])
 (.seq (.reg [⟨none,.loc 3 [.int .u64 0,.int .u64 0,.int .i64 0,.int .i64 0,.nil,.nil]⟩])
 (.seq (.reg [⟨none,.fad 4 1 0⟩,
 ⟨none,.load 5 4 1 false⟩,
 ⟨none,.fad 6 3 0⟩,
 ⟨none,.store 6 1 (.t 5)⟩])
 (.seq (.reg [⟨none,.fad 7 1 1⟩,
 ⟨none,.load 8 7 1 false⟩,
 ⟨none,.fad 9 3 1⟩,
 ⟨none,.store 9 1 (.t 8)⟩])
 (.seq (.reg [⟨none,.fad 10 1 2⟩,
 ⟨none,.load 11 10 1 false⟩,
 ⟨none,.fad 12 3 2⟩,
 ⟨none,.store 12 1 (.t 11)⟩])
 (.seq (.reg [⟨none,.fad 13 1 3⟩,
 ⟨none,.load 14 13 1 false⟩,
 ⟨none,.fad 15 3 3⟩,
 ⟨none,.store 15 1 (.t 14)⟩])
 (.seq (.reg [⟨none,.fad 16 1 4⟩,
 ⟨none,.load 17 16 1 true⟩,
 ⟨none,.call (some 18) 130 [(.t 17)] false⟩,
 ⟨none,.fad 19 3 4⟩,
 ⟨none,.store 19 1 (.t 18)⟩])
 (.seq (.reg [⟨none,.fad 20 1 5⟩,
 ⟨none,.load 21 20 1 false⟩,
 ⟨none,.call (some 22) 131 [(.t 21)] false⟩,
 ⟨none,.fad 23 3 5⟩,
 ⟨none,.store 23 1 (.t 22)⟩])
 (.seq (.reg [⟨none,.load 24 3 6 true⟩,
 ⟨none,.store 2 6 (.t 24)⟩])
 (.ret)))))))))⟩
def r114:RF:=
 ⟨2,[.tmp 4],
 .seq (.reg [⟨none,.locb 2 (.t 0)⟩,
 ⟨none,.locb 3 (.t 1)⟩,
 ⟨none,.mov 4 (.k (.bool false))⟩])
 (.seq (.seq (.reg [⟨none,.fad 5 2 0⟩,
 ⟨none,.load 6 5 1 false⟩,
 ⟨none,.fad 7 3 0⟩,
 ⟨none,.load 8 7 1 false⟩,
 ⟨none,.bin 9 .neq (.t 6) (.t 8)⟩])
 (.cond (.t 9)
 (.seq (.reg [⟨none,.mov 4 (.k (.bool false))⟩])
 (.ret))
 (.skip)))
 (.seq (.seq (.reg [⟨none,.fad 10 2 1⟩,
 ⟨none,.load 11 10 1 false⟩,
 ⟨none,.fad 12 3 1⟩,
 ⟨none,.load 13 12 1 false⟩,
 ⟨none,.bin 14 .neq (.t 11) (.t 13)⟩])
 (.cond (.t 14)
 (.seq (.reg [⟨none,.mov 4 (.k (.bool false))⟩])
 (.ret))
 (.skip)))
 (.seq (.seq (.reg [⟨none,.fad 15 2 2⟩,
 ⟨none,.load 16 15 1 false⟩,
 ⟨none,.fad 17 3 2⟩,
 ⟨none,.load 18 17 1 false⟩,
 ⟨none,.bin 19 .neq (.t 16) (.t 18)⟩])
 (.cond (.t 19)
 (.seq (.reg [⟨none,.mov 4 (.k (.bool false))⟩])
 (.ret))
 (.skip)))
 (.seq (.seq (.reg [⟨none,.fad 20 2 3⟩,
 ⟨none,.load 21 20 1 false⟩,
 ⟨none,.fad 22 3 3⟩,
 ⟨none,.load 23 22 1 false⟩,
 ⟨none,.bin 24 .neq (.t 21) (.t 23)⟩])
 (.cond (.t 24)
 (.seq (.reg [⟨none,.mov 4 (.k (.bool false))⟩])
 (.ret))
 (.skip)))
 (.seq (.seq (.reg [⟨none,.fad 25 2 4⟩,
 ⟨none,.load 26 25 1 true⟩,
 ⟨none,.fad 27 3 4⟩,
 ⟨none,.load 28 27 1 true⟩,
 ⟨none,.call (some 29) 133 [(.t 26),(.t 28)] false⟩,
 ⟨none,.not 30 (.t 29)⟩])
 (.cond (.t 30)
 (.seq (.reg [⟨none,.mov 4 (.k (.bool false))⟩])
 (.ret))
 (.skip)))
 (.seq (.seq (.reg [⟨none,.fad 31 2 5⟩,
 ⟨none,.load 32 31 1 false⟩,
 ⟨none,.fad 33 3 5⟩,
 ⟨none,.load 34 33 1 false⟩,
 ⟨none,.call (some 35) 134 [(.t 32),(.t 34)] false⟩,
 ⟨none,.not 36 (.t 35)⟩])
 (.cond (.t 36)
 (.seq (.reg [⟨none,.mov 4 (.k (.bool false))⟩])
 (.ret))
 (.skip)))
 (.seq (.reg [⟨none,.mov 4 (.k (.bool true))⟩])
 (.ret))))))))⟩
def r192:RF:=
 ⟨2,[.tmp 4],
 .seq (.reg [⟨none,.locb 2 (.t 0)⟩,
 ⟨none,.mov 4 (.k (.int .i64 0))⟩])
 (.seq (.reg [⟨none,.fad 5 2 4⟩,
 ⟨none,.load 6 5 1 true⟩,
 ⟨none,.mov 7 (.t 1)⟩,
 ⟨none,.call (some 8) 231 [(.t 6),(.t 7)] false⟩,
 ⟨none,.mov 1 (.t 8)⟩])
 (.seq (.reg [⟨none,.fad 9 2 5⟩,
 ⟨none,.load 10 9 1 false⟩,
 ⟨none,.mov 11 (.t 1)⟩,
 ⟨none,.call (some 12) 232 [(.t 10),(.t 11)] false⟩,
 ⟨none,.mov 1 (.t 12)⟩])
 (.seq (.reg [⟨none,.mov 13 (.t 1)⟩,
 ⟨none,.mov 4 (.t 13)⟩])
 (.ret))))⟩
def r203L0:RC:=
 .seq (.seq (.reg [⟨none,.mov 12 (.t 5)⟩,
 ⟨none,.mov 13 (.t 0)⟩,
 ⟨none,.len 14 (.t 13)⟩,
 ⟨none,.bin 15 .lss (.t 12) (.t 14)⟩])
 (.cond (.t 15)
 (.skip)
 (.exit 0)))
 (.seq (.block 1 (.seq (.reg [⟨none,.mov 18 (.t 0)⟩,
 ⟨none,.mov 19 (.t 5)⟩,
 ⟨none,.idx 20 20 (.t 18) (.t 19)⟩,
 ⟨none,.load 21 20 6 true⟩,
 ⟨none,.mov 22 (.t 1)⟩,
 ⟨none,.call (some 23) 111 [(.t 21),(.t 22)] false⟩,
 ⟨none,.mov 1 (.t 23)⟩])
 (.seq (.reg [⟨none,.mov 24 (.t 1)⟩,
 ⟨none,.bin 25 .lss (.t 24) (.k (.int .i64 0))⟩])
 (.cond (.t 25)
 (.seq (.reg [⟨none,.mov 4 (.k (.int .i64 (-1)))⟩])
 (.ret))
 (.skip)))))
 (.reg [⟨none,.mov 16 (.t 5)⟩,
 ⟨none,.bin 17 .add (.t 16) (.k (.int .i64 1))⟩,
 ⟨none,.mov 5 (.t 17)⟩]))
def r203:RF:=
 ⟨2,[.tmp 4],
 .seq (.reg [⟨none,.mov 4 (.k (.int .i64 0))⟩])
 (.seq (.reg [⟨none,.mov 6 (.t 1)⟩,
 ⟨none,.mov 7 (.t 0)⟩,
 ⟨none,.len 8 (.t 7)⟩,
 ⟨none,.bin 9 .sub (.t 6) (.t 8)⟩,
 ⟨none,.mov 1 (.t 9)⟩])
 (.seq (.seq (.reg [⟨none,.mov 10 (.t 1)⟩,
 ⟨none,.bin 11 .lss (.t 10) (.k (.int .i64 0))⟩])
 (.cond (.t 11)
 (.seq (.reg [⟨none,.mov 4 (.k (.int .i64 (-1)))⟩])
 (.ret))
 (.skip)))
 (.seq (.seq (.reg [⟨none,.mov 5 (.k (.int .i64 0))⟩])
 (.block 0 (.loop [0,1,5]
 r203L0)))
 (.seq (.reg [⟨none,.mov 26 (.t 1)⟩,
 ⟨none,.mov 4 (.t 26)⟩])
 (.ret)))))⟩
def r205L0:RC:=
 .seq (.seq (.reg [⟨none,.mov 8 (.t 4)⟩,
 ⟨none,.mov 9 (.t 0)⟩,
 ⟨none,.len 10 (.t 9)⟩,
 ⟨none,.bin 11 .lss (.t 8) (.t 10)⟩])
 (.cond (.t 11)
 (.skip)
 (.exit 0)))
 (.seq (.block 1 (.reg [⟨none,.mov 14 (.t 3)⟩,
 ⟨none,.mov 15 (.t 4)⟩,
 ⟨none,.mov 16 (.t 0)⟩,
 ⟨none,.mov 17 (.t 4)⟩,
 ⟨none,.idx 18 20 (.t 16) (.t 17)⟩,
 ⟨none,.load 19 18 6 true⟩,
 ⟨none,.call (some 20) 112 [(.t 19)] false⟩,
 ⟨none,.idx 21 16 (.t 14) (.t 15)⟩,
 ⟨none,.store 21 6 (.t 20)⟩]))
 (.reg [⟨none,.mov 12 (.t 4)⟩,
 ⟨none,.bin 13 .add (.t 12) (.k (.int .i64 1))⟩,
 ⟨none,.mov 4 (.t 13)⟩]))
def r205:RF:=
 ⟨1,[.tmp 2],
 .seq (.reg [⟨none,.mov 2 (.k (.nil))⟩])
 (.seq (.reg [⟨none,.mov 5 (.t 0)⟩,
 ⟨none,.len 6 (.t 5)⟩,
 ⟨none,.mks 7 16 80 [.int .u64 0,.int .u64 0,.int .i64 0,.int .i64 0,.nil,.nil] (.t 6) (.t 6)⟩,
 ⟨none,.mov 3 (.t 7)⟩])
 (.seq (.seq (.reg [⟨none,.mov 4 (.k (.int .i64 0))⟩])
 (.block 0 (.loop [0,3,4]
 r205L0)))
 (.seq (.reg [⟨none,.mov 22 (.t 3)⟩,
 ⟨none,.mov 2 (.t 22)⟩])
 (.ret))))⟩
def r207L0:RC:=
 .seq (.seq (.reg [⟨none,.mov 11 (.t 5)⟩,
 ⟨none,.mov 12 (.t 0)⟩,
 ⟨none,.len 13 (.t 12)⟩,
 ⟨none,.bin 14 .lss (.t 11) (.t 13)⟩])
 (.cond (.t 14)
 (.skip)
 (.exit 0)))
 (.seq (.block 1 (.seq (.reg [⟨none,.chk []⟩,
 ⟨none,.mov 17 (.t 0)⟩,
 ⟨none,.mov 18 (.t 5)⟩,
 ⟨none,.idx 19 16 (.t 17) (.t 18)⟩,
 ⟨none,.mov 21 (.t 1)⟩,
 ⟨none,.mov 22 (.t 5)⟩,
 ⟨none,.idx 23 16 (.t 21) (.t 22)⟩,
 ⟨none,.load 20 19 6 true⟩,
 ⟨none,.load 24 23 6 true⟩,
 ⟨none,.call (some 25) 114 [(.t 20),(.t 24)] true⟩,
 ⟨none,.not 26 (.t 25)⟩])
 (.cond (.t 26)
 (.seq (.reg [⟨none,.mov 4 (.k (.bool false))⟩])
 (.ret))
 (.skip))))
 (.reg [⟨none,.mov 15 (.t 5)⟩,
 ⟨none,.bin 16 .add (.t 15) (.k (.int .i64 1))⟩,
 ⟨none,.mov 5 (.t 16)⟩]))
def r207:RF:=
 ⟨2,[.tmp 4],
 .seq (.reg [⟨none,.mov 4 (.k (.bool false))⟩])
 (.seq (.seq (.reg [⟨none,.mov 6 (.t 0)⟩,
 ⟨none,.len 7 (.t 6)⟩,
 ⟨none,.mov 8 (.t 1)⟩,
 ⟨none,.len 9 (.t 8)⟩,
 ⟨none,.bin 10 .neq (.t 7) (.t 9)⟩])
 (.cond (.t 10)
 (.seq (.reg [⟨none,.mov 4 (.k (.bool false))⟩])
 (.ret))
 (.skip)))
 (.seq (.seq (.reg [⟨none,.mov 5 (.k (.int .i64 0))⟩])
 (.block 0 (.loop [0,1,5]
 r207L0)))
 (.seq (.reg [⟨none,.mov 4 (.k (.bool true))⟩])
 (.ret))))⟩
def r230L0:RC:=
 .seq (.seq (.reg [⟨none,.mov 6 (.t 5)⟩,
 ⟨none,.mov 7 (.t 0)⟩,
 ⟨none,.len 8 (.t 7)⟩,
 ⟨none,.bin 9 .lss (.t 6) (.t 8)⟩])
 (.cond (.t 9)
 (.skip)
 (.exit 0)))
 (.seq (.block 1 (.seq (.reg [⟨none,.mov 12 (.t 0)⟩,
 ⟨none,.mov 13 (.t 5)⟩,
 ⟨none,.mov 14 (.t 1)⟩,
 ⟨none,.conv 15 .u64 (.t 14)⟩,
 ⟨none,.idx 16 16 (.t 12) (.t 13)⟩,
 ⟨none,.fad 17 16 0⟩,
 ⟨none,.store 17 1 (.t 15)⟩])
 (.seq (.reg [⟨none,.mov 18 (.t 1)⟩,
 ⟨none,.bin 19 .add (.t 18) (.k (.int .i64 1))⟩,
 ⟨none,.mov 1 (.t 19)⟩])
 (.seq (.reg [⟨none,.mov 20 (.t 0)⟩,
 ⟨none,.mov 21 (.t 5)⟩,
 ⟨none,.mov 22 (.t 1)⟩,
 ⟨none,.conv 23 .u64 (.t 22)⟩,
 ⟨none,.idx 24 16 (.t 20) (.t 21)⟩,
 ⟨none,.fad 25 24 1⟩,
 ⟨none,.store 25 1 (.t 23)⟩])
 (.seq (.reg [⟨none,.mov 26 (.t 1)⟩,
 ⟨none,.bin 27 .add (.t 26) (.k (.int .i64 1))⟩,
 ⟨none,.mov 1 (.t 27)⟩])
 (.seq (.reg [⟨none,.mov 28 (.t 0)⟩,
 ⟨none,.mov 29 (.t 5)⟩,
 ⟨none,.mov 30 (.t 1)⟩,
 ⟨none,.idx 31 16 (.t 28) (.t 29)⟩,
 ⟨none,.fad 32 31 2⟩,
 ⟨none,.store 32 1 (.t 30)⟩])
 (.seq (.reg [⟨none,.mov 33 (.t 1)⟩,
 ⟨none,.bin 34 .add (.t 33) (.k (.int .i64 1))⟩,
 ⟨none,.mov 1 (.t 34)⟩])
 (.seq (.reg [⟨none,.mov 35 (.t 0)⟩,
 ⟨none,.mov 36 (.t 5)⟩,
 ⟨none,.mov 37 (.t 1)⟩,
 ⟨none,.idx 38 16 (.t 35) (.t 36)⟩,
 ⟨none,.fad 39 38 3⟩,
 ⟨none,.store 39 1 (.t 37)⟩])
 (.seq (.reg [⟨none,.mov 40 (.t 1)⟩,
 ⟨none,.bin 41 .add (.t 40) (.k (.int .i64 1))⟩,
 ⟨none,.mov 1 (.t 41)⟩])
 (.seq (.reg [⟨none,.mov 42 (.t 0)⟩,
 ⟨none,.mov 43 (.t 5)⟩,
 ⟨none,.idx 44 16 (.t 42) (.t 43)⟩,
 ⟨none,.fad 45 44 4⟩,
 ⟨none,.fad 46 45 0⟩,
 ⟨none,.load 47 46 1 false⟩,
 ⟨none,.mov 48 (.t 1)⟩,
 ⟨none,.call (some 49) 261 [(.t 47),(.t 48)] false⟩,
 ⟨none,.mov 1 (.t 49)⟩])
 (.reg [⟨none,.mov 50 (.t 0)⟩,
 ⟨none,.mov 51 (.t 5)⟩,
 ⟨none,.idx 52 16 (.t 50) (.t 51)⟩,
 ⟨none,.fad 53 52 5⟩,
 ⟨none,.load 54 53 1 false⟩,
 ⟨none,.mov 55 (.t 1)⟩,
 ⟨none,.call (some 56) 232 [(.t 54),(.t 55)] false⟩,
 ⟨none,.mov 1 (.t 56)⟩])))))))))))
 (.reg [⟨none,.mov 10 (.t 5)⟩,
 ⟨none,.bin 11 .add (.t 10) (.k (.int .i64 1))⟩,
 ⟨none,.mov 5 (.t 11)⟩]))
def r230:RF:=
 ⟨2,[.tmp 4],
 .seq (.reg [⟨none,.mov 4 (.k (.int .i64 0))⟩])
 (.seq (.seq (.reg [⟨none,.mov 5 (.k (.int .i64 0))⟩])
 (.block 0 (.loop [0,1,5]
 r230L0)))
 (.seq (.reg [⟨none,.mov 57 (.t 1)⟩,
 ⟨none,.mov 4 (.t 57)⟩])
 (.ret)))⟩
def r322L0:RC:=
 .seq (.seq (.reg [⟨none,.mov 6 (.t 5)⟩,
 ⟨none,.mov 7 (.t 0)⟩,
 ⟨none,.len 8 (.t 7)⟩,
 ⟨none,.bin 9 .lss (.t 6) (.t 8)⟩])
 (.cond (.t 9)
 (.skip)
 (.exit 0)))
 (.seq (.block 1 (.seq (.seq (.reg [⟨none,.mov 12 (.t 0)⟩,
 ⟨none,.mov 13 (.t 5)⟩,
 ⟨none,.idx 14 16 (.t 12) (.t 13)⟩,
 ⟨none,.fad 15 14 0⟩,
 ⟨none,.load 16 15 1 false⟩,
 ⟨none,.mov 17 (.t 1)⟩,
 ⟨none,.conv 18 .u64 (.t 17)⟩,
 ⟨none,.bin 19 .neq (.t 16) (.t 18)⟩])
 (.cond (.t 19)
 (.seq (.reg [⟨none,.mov 4 (.k (.int .i64 (-1)))⟩])
 (.ret))
 (.skip)))
 (.seq (.reg [⟨none,.mov 20 (.t 1)⟩,
 ⟨none,.bin 21 .add (.t 20) (.k (.int .i64 1))⟩,
 ⟨none,.mov 1 (.t 21)⟩])
 (.seq (.seq (.reg [⟨none,.mov 22 (.t 0)⟩,
 ⟨none,.mov 23 (.t 5)⟩,
 ⟨none,.idx 24 16 (.t 22) (.t 23)⟩,
 ⟨none,.fad 25 24 1⟩,
 ⟨none,.load 26 25 1 false⟩,
 ⟨none,.mov 27 (.t 1)⟩,
 ⟨none,.conv 28 .u64 (.t 27)⟩,
 ⟨none,.bin 29 .neq (.t 26) (.t 28)⟩])
 (.cond (.t 29)
 (.seq (.reg [⟨none,.mov 4 (.k (.int .i64 (-1)))⟩])
 (.ret))
 (.skip)))
 (.seq (.reg [⟨none,.mov 30 (.t 1)⟩,
 ⟨none,.bin 31 .add (.t 30) (.k (.int .i64 1))⟩,
 ⟨none,.mov 1 (.t 31)⟩])
 (.seq (.seq (.reg [⟨none,.mov 32 (.t 0)⟩,
 ⟨none,.mov 33 (.t 5)⟩,
 ⟨none,.idx 34 16 (.t 32) (.t 33)⟩,
 ⟨none,.fad 35 34 2⟩,
 ⟨none,.load 36 35 1 false⟩,
 ⟨none,.mov 37 (.t 1)⟩,
 ⟨none,.bin 38 .neq (.t 36) (.t 37)⟩])
 (.cond (.t 38)
 (.seq (.reg [⟨none,.mov 4 (.k (.int .i64 (-1)))⟩])
 (.ret))
 (.skip)))
 (.seq (.reg [⟨none,.mov 39 (.t 1)⟩,
 ⟨none,.bin 40 .add (.t 39) (.k (.int .i64 1))⟩,
 ⟨none,.mov 1 (.t 40)⟩])
 (.seq (.seq (.reg [⟨none,.mov 41 (.t 0)⟩,
 ⟨none,.mov 42 (.t 5)⟩,
 ⟨none,.idx 43 16 (.t 41) (.t 42)⟩,
 ⟨none,.fad 44 43 3⟩,
 ⟨none,.load 45 44 1 false⟩,
 ⟨none,.mov 46 (.t 1)⟩,
 ⟨none,.bin 47 .neq (.t 45) (.t 46)⟩])
 (.cond (.t 47)
 (.seq (.reg [⟨none,.mov 4 (.k (.int .i64 (-1)))⟩])
 (.ret))
 (.skip)))
 (.seq (.reg [⟨none,.mov 48 (.t 1)⟩,
 ⟨none,.bin 49 .add (.t 48) (.k (.int .i64 1))⟩,
 ⟨none,.mov 1 (.t 49)⟩])
 (.seq (.reg [⟨none,.mov 50 (.t 0)⟩,
 ⟨none,.mov 51 (.t 5)⟩,
 ⟨none,.idx 52 16 (.t 50) (.t 51)⟩,
 ⟨none,.fad 53 52 4⟩,
 ⟨none,.fad 54 53 0⟩,
 ⟨none,.load 55 54 1 false⟩,
 ⟨none,.mov 56 (.t 1)⟩,
 ⟨none,.call (some 57) 262 [(.t 55),(.t 56)] false⟩,
 ⟨none,.mov 1 (.t 57)⟩])
 (.seq (.seq (.reg [⟨none,.mov 58 (.t 1)⟩,
 ⟨none,.bin 59 .lss (.t 58) (.k (.int .i64 0))⟩])
 (.cond (.t 59)
 (.seq (.reg [⟨none,.mov 4 (.k (.int .i64 (-1)))⟩])
 (.ret))
 (.skip)))
 (.seq (.reg [⟨none,.mov 60 (.t 0)⟩,
 ⟨none,.mov 61 (.t 5)⟩,
 ⟨none,.idx 62 16 (.t 60) (.t 61)⟩,
 ⟨none,.fad 63 62 5⟩,
 ⟨none,.load 64 63 1 false⟩,
 ⟨none,.mov 65 (.t 1)⟩,
 ⟨none,.call (some 66) 234 [(.t 64),(.t 65)] false⟩,
 ⟨none,.mov 1 (.t 66)⟩])
 (.seq (.reg [⟨none,.mov 67 (.t 1)⟩,
 ⟨none,.bin 68 .lss (.t 67) (.k (.int .i64 0))⟩])
 (.cond (.t 68)
 (.seq (.reg [⟨none,.mov 4 (.k (.int .i64 (-1)))⟩])
 (.ret))
 (.skip)))))))))))))))
 (.reg [⟨none,.mov 10 (.t 5)⟩,
 ⟨none,.bin 11 .add (.t 10) (.k (.int .i64 1))⟩,
 ⟨none,.mov 5 (.t 11)⟩]))
def r322:RF:=
 ⟨2,[.tmp 4],
 .seq (.reg [⟨none,.mov 4 (.k (.int .i64 0))⟩])
 (.seq (.seq (.reg [⟨none,.mov 5 (.k (.int .i64 0))⟩])
 (.block 0 (.loop [0,1,5]
 r322L0)))
 (.seq (.reg [⟨none,.mov 69 (.t 1)⟩,
 ⟨none,.mov 4 (.t 69)⟩])
 (.ret)))⟩
def tLShard:List (Nat×RF):=[(111,r111),(112,r112),(114,r114),(192,r192),(203,r203),(205,r205),(207,r207),(230,r230),(322,r322)]
end Go.Proofs.Yteagcdhkobeanaa.A
namespace Go.Proofs.Yteagcdhkobeanaa.A
open Go
def r154:RF:=
 ⟨2,[.tmp 4],
 .seq (.reg [⟨none,.locb 2 (.t 0)⟩,
 ⟨none,.mov 4 (.k (.int .i64 0))⟩])
 (.seq (.reg [⟨none,.fad 5 2 2⟩,
 ⟨none,.load 6 5 1 false⟩,
 ⟨none,.mov 7 (.t 1)⟩,
 ⟨none,.call (some 8) 203 [(.t 6),(.t 7)] false⟩,
 ⟨none,.mov 1 (.t 8)⟩])
 (.seq (.seq (.reg [⟨none,.mov 9 (.t 1)⟩,
 ⟨none,.bin 10 .lss (.t 9) (.k (.int .i64 0))⟩])
 (.cond (.t 10)
 (.seq (.reg [⟨none,.mov 4 (.k (.int .i64 (-1)))⟩])
 (.ret))
 (.skip)))
 (.seq (.reg [⟨none,.mov 11 (.t 1)⟩,
 ⟨none,.mov 4 (.t 11)⟩])
 (.ret))))⟩
def r155:RF:=
 ⟨1,[.cell 2 3 true],
 .seq (.reg [⟨none,.locb 1 (.t 0)⟩,
 ⟨none,.loc 2 [.int .i64 0,.int .i64 0,.nil]⟩])
 (.seq (.reg [⟨none,.loc 3 [.int .i64 0,.int .i64 0,.nil]⟩])
 (.seq (.reg [⟨none,.fad 4 1 0⟩,
 ⟨none,.load 5 4 1 false⟩,
 ⟨none,.fad 6 3 0⟩,
 ⟨none,.store 6 1 (.t 5)⟩])
 (.seq (.reg [⟨none,.fad 7 1 1⟩,
 ⟨none,.load 8 7 1 false⟩,
 ⟨none,.fad 9 3 1⟩,
 ⟨none,.store 9 1 (.t 8)⟩])
 (.seq (.reg [⟨none,.fad 10 1 2⟩,
 ⟨none,.load 11 10 1 false⟩,
 ⟨none,.call (some 12) 205 [(.t 11)] false⟩,
 ⟨none,.fad 13 3 2⟩,
 ⟨none,.store 13 1 (.t 12)⟩])
 (.seq (.reg [⟨none,.load 14 3 3 true⟩,
 ⟨none,.store 2 3 (.t 14)⟩])
 (.ret))))))⟩
def r158:RF:=
 ⟨2,[.tmp 4],
 .seq (.reg [⟨none,.locb 2 (.t 0)⟩,
 ⟨none,.locb 3 (.t 1)⟩,
 ⟨none,.mov 4 (.k (.bool false))⟩])
 (.seq (.seq (.reg [⟨none,.fad 5 2 0⟩,
 ⟨none,.load 6 5 1 false⟩,
 ⟨none,.fad 7 3 0⟩,
 ⟨none,.load 8 7 1 false⟩,
 ⟨none,.bin 9 .neq (.t 6) (.t 8)⟩])
 (.cond (.t 9)
 (.seq (.reg [⟨none,.mov 4 (.k (.bool false))⟩])
 (.ret))
 (.skip)))
 (.seq (.seq (.reg [⟨none,.fad 10 2 1⟩,
 ⟨none,.load 11 10 1 false⟩,
 ⟨none,.fad 12 3 1⟩,
 ⟨none,.load 13 12 1 false⟩,
 ⟨none,.bin 14 .neq (.t 11) (.t 13)⟩])
 (.cond (.t 14)
 (.seq (.reg [⟨none,.mov 4 (.k (.bool false))⟩])
 (.ret))
 (.skip)))
 (.seq (.seq (.reg [⟨none,.fad 15 2 2⟩,
 ⟨none,.load 16 15 1 false⟩,
 ⟨none,.fad 17 3 2⟩,
 ⟨none,.load 18 17 1 false⟩,
 ⟨none,.call (some 19) 207 [(.t 16),(.t 18)] false⟩,
 ⟨none,.not 20 (.t 19)⟩])
 (.cond (.t 20)
 (.seq (.reg [⟨none,.mov 4 (.k (.bool false))⟩])
 (.ret))
 (.skip)))
 (.seq (.reg [⟨none,.mov 4 (.k (.bool true))⟩])
 (.ret)))))⟩
def r191:RF:=
 ⟨2,[.tmp 4],
 .seq (.reg [⟨none,.locb 2 (.t 0)⟩,
 ⟨none,.mov 4 (.k (.int .i64 0))⟩])
 (.seq (.reg [⟨none,.fad 5 2 2⟩,
 ⟨none,.load 6 5 1 false⟩,
 ⟨none,.mov 7 (.t 1)⟩,
 ⟨none,.call (some 8) 230 [(.t 6),(.t 7)] false⟩,
 ⟨none,.mov 1 (.t 8)⟩])
 (.seq (.reg [⟨none,.mov 9 (.t 1)⟩,
 ⟨none,.mov 4 (.t 9)⟩])
 (.ret)))⟩
def r292:RF:=
 ⟨2,[.tmp 4],
 .seq (.reg [⟨none,.locb 2 (.t 0)⟩,
 ⟨none,.mov 4 (.k (.int .i64 0))⟩])
 (.seq (.reg [⟨none,.fad 5 2 2⟩,
 ⟨none,.load 6 5 1 false⟩,
 ⟨none,.mov 7 (.t 1)⟩,
 ⟨none,.call (some 8) 322 [(.t 6),(.t 7)] false⟩,
 ⟨none,.mov 1 (.t 8)⟩])
 (.seq (.seq (.reg [⟨none,.mov 9 (.t 1)⟩,
 ⟨none,.bin 10 .lss (.t 9) (.k (.int .i64 0))⟩])
 (.cond (.t 10)
 (.seq (.reg [⟨none,.mov 4 (.k (.int .i64 (-1)))⟩])
 (.ret))
 (.skip)))
 (.seq (.reg [⟨none,.mov 11 (.t 1)⟩,
 ⟨none,.mov 4 (.t 11)⟩])
 (.ret))))⟩
def tLStore:List (Nat×RF):=[(154,r154),(155,r155),(158,r158),(191,r191),(292,r292)]
end Go.Proofs.Yteagcdhkobeanaa.A
namespace Go.Proofs.Yteagcdhkobeanaa.A
open Go
def r273:RF:=
 ⟨2,[.tmp 4],
 .seq (.reg [⟨none,.mov 4 (.k (.int .i64 0))⟩])
 (.seq (.reg [⟨none,.mov 7 (.t 0)⟩,
 ⟨none,.call (some 8) 276 [(.t 7)] false⟩,
 ⟨none,.mov 5 (.t 8)⟩])
 (.seq (.reg [⟨none,.mov 9 (.t 1)⟩,
 ⟨none,.call (some 10) 276 [(.t 9)] false⟩,
 ⟨none,.mov 6 (.t 10)⟩])
 (.seq (.seq (.reg [⟨none,.mov 11 (.t 5)⟩])
 (.cond (.t 11)
 (.seq (.seq (.reg [⟨none,.mov 12 (.t 6)⟩])
 (.cond (.t 12)
 (.seq (.reg [⟨none,.mov 4 (.k (.int .i64 0))⟩])
 (.ret))
 (.skip)))
 (.seq (.reg [⟨none,.mov 4 (.k (.int .i64 (-1)))⟩])
 (.ret)))
 (.skip)))
 (.seq (.seq (.reg [⟨none,.mov 13 (.t 6)⟩])
 (.cond (.t 13)
 (.seq (.reg [⟨none,.mov 4 (.k (.int .i64 1))⟩])
 (.ret))
 (.skip)))
 (.seq (.seq (.reg [⟨none,.mov 14 (.t 0)⟩,
 ⟨none,.mov 15 (.t 1)⟩,
 ⟨none,.bin 16 .lss (.t 14) (.t 15)⟩])
 (.cond (.t 16)
 (.seq (.reg [⟨none,.mov 4 (.k (.int .i64 (-1)))⟩])
 (.ret))
 (.skip)))
 (.seq (.seq (.reg [⟨none,.mov 17 (.t 0)⟩,
 ⟨none,.mov 18 (.t 1)⟩,
 ⟨none,.bin 19 .gtr (.t 17) (.t 18)⟩])
 (.cond (.t 19)
 (.seq (.reg [⟨none,.mov 4 (.k (.int .i64 1))⟩])
 (.ret))
 (.skip)))
 (.seq (.reg [⟨none,.mov 4 (.k (.int .i64 0))⟩])
 (.ret))))))))⟩
def tLibcmpCompareint:List (Nat×RF):=[(273,r273)]
end Go.Proofs.Yteagcdhkobeanaa.A
namespace Go.Proofs.Yteagcdhkobeanaa.A
open Go
def r274:RF:=
 ⟨2,[.tmp 4],
 .seq (.reg [⟨none,.mov 4 (.k (.int .i64 0))⟩])
 (.seq (.reg [⟨none,.mov 7 (.t 0)⟩,
 ⟨none,.call (some 8) 277 [(.t 7)] false⟩,
 ⟨none,.mov 5 (.t 8)⟩])
 (.seq (.reg [⟨none,.mov 9 (.t 1)⟩,
 ⟨none,.call (some 10) 277 [(.t 9)] false⟩,
 ⟨none,.mov 6 (.t 10)⟩])
 (.seq (.seq (.reg [⟨none,.mov 11 (.t 5)⟩])
 (.cond (.t 11)
 (.seq (.seq (.reg [⟨none,.mov 12 (.t 6)⟩])
 (.cond (.t 12)
 (.seq (.reg [⟨none,.mov 4 (.k (.int .i64 0))⟩])
 (.ret))
 (.skip)))
 (.seq (.reg [⟨none,.mov 4 (.k (.int .i64 (-1)))⟩])
 (.ret)))
 (.skip)))
 (.seq (.seq (.reg [⟨none,.mov 13 (.t 6)⟩])
 (.cond (.t 13)
 (.seq (.reg [⟨none,.mov 4 (.k (.int .i64 1))⟩])
 (.ret))
 (.skip)))
 (.seq (.seq (.reg [⟨none,.mov 14 (.t 0)⟩,
 ⟨none,.mov 15 (.t 1)⟩,
 ⟨none,.bin 16 .lss (.t 14) (.t 15)⟩])
 (.cond (.t 16)
 (.seq (.reg [⟨none,.mov 4 (.k (.int .i64 (-1)))⟩])
 (.ret))
 (.skip)))
 (.seq (.seq (.reg [⟨none,.mov 17 (.t 0)⟩,
 ⟨none,.mov 18 (.t 1)⟩,
 ⟨none,.bin 19 .gtr (.t 17) (.t 18)⟩])
 (.cond (.t 19)
 (.seq (.reg [⟨none,.mov 4 (.k (.int .i64 1))⟩])
 (.ret))
 (.skip)))
 (.seq (.reg [⟨none,.mov 4 (.k (.int .i64 0))⟩])
 (.ret))))))))⟩
def tLibcmpCompareuint64:List (Nat×RF):=[(274,r274)]
end Go.Proofs.Yteagcdhkobeanaa.A
namespace Go.Proofs.Yteagcdhkobeanaa.A
open Go
def r275L0:RC:=
 .seq (.reg [⟨none,.bin 9 .lss (.t 8) (.t 7)⟩])
 (.seq (.cond (.t 9)
 (.skip)
 (.exit 0))
 (.seq (.block 1 (.seq (.reg [⟨none,.idx 10 15 (.t 6) (.t 8)⟩,
 ⟨none,.load 11 10 1 false⟩,
 ⟨none,.mov 5 (.t 11)⟩])
 (.seq (.reg [⟨none,.mov 12 (.t 5)⟩,
 ⟨none,.mov 13 (.t 3)⟩,
 ⟨none,.bin 14 .neq (.t 12) (.t 13)⟩])
 (.cond (.t 14)
 (.seq (.reg [⟨none,.mov 15 (.t 5)⟩,
 ⟨none,.mov 2 (.t 15)⟩])
 (.ret))
 (.skip)))))
 (.reg [⟨none,.bin 16 .add (.t 8) (.k (.int .i64 1))⟩,
 ⟨none,.mov 8 (.t 16)⟩])))
def r275:RF:=
 ⟨1,[.tmp 2],
 .seq (.reg [⟨none,.mov 2 (.k (.int .i64 0))⟩])
 (.seq (.reg [⟨none,.mov 3 (.k (.int .i64 0))⟩])
 (.seq (.seq (.reg [⟨none,.mov 6 (.t 0)⟩,
 ⟨none,.len 7 (.t 6)⟩,
 ⟨none,.mov 8 (.k (.int .i64 0))⟩])
 (.block 0 (.loop [3,6,7,8]
 r275L0)))
 (.seq (.reg [⟨none,.mov 17 (.t 3)⟩,
 ⟨none,.mov 2 (.t 17)⟩])
 (.ret))))⟩
def tLibcmpOrint:List (Nat×RF):=[(275,r275)]
end Go.Proofs.Yteagcdhkobeanaa.A
namespace Go.Proofs.Yteagcdhkobeanaa.A
open Go
def r276:RF:=
 ⟨1,[.tmp 2],
 .seq (.reg [⟨none,.mov 2 (.k (.bool false))⟩])
 (.seq (.reg [⟨none,.mov 3 (.t 0)⟩,
 ⟨none,.mov 4 (.t 0)⟩,
 ⟨none,.bin 5 .neq (.t 3) (.t 4)⟩,
 ⟨none,.mov 2 (.t 5)⟩])
 (.ret))⟩
def tLibcmpisNaNint:List (Nat×RF):=[(276,r276)]
end Go.Proofs.Yteagcdhkobeanaa.A
namespace Go.Proofs.Yteagcdhkobeanaa.A
open Go
def r277:RF:=
 ⟨1,[.tmp 2],
 .seq (.reg [⟨none,.mov 2 (.k (.bool false))⟩])
 (.seq (.reg [⟨none,.mov 3 (.t 0)⟩,
 ⟨none,.mov 4 (.t 0)⟩,
 ⟨none,.bin 5 .neq (.t 3) (.t 4)⟩,
 ⟨none,.mov 2 (.t 5)⟩])
 (.ret))⟩
def tLibcmpisNaNuint64:List (Nat×RF):=[(277,r277)]
end Go.Proofs.Yteagcdhkobeanaa.A
namespace Go.Proofs.Yteagcdhkobeanaa.A
open Go
def r266:RF:=
 ⟨2,[.tmp 4],
 .seq (.reg [⟨none,.locb 3 (.t 1)⟩,
 ⟨none,.mov 4 (.k (.bool false))⟩])
 (.seq (.reg [⟨none,.mov 5 (.t 0)⟩,
 ⟨none,.load 6 3 2 true⟩,
 ⟨none,.call (some 7) 272 [(.t 5),(.t 6)] false⟩,
 ⟨none,.bin 8 .geq (.t 7) (.k (.int .i64 0))⟩,
 ⟨none,.mov 4 (.t 8)⟩])
 (.ret))⟩
def tLibslicesContainsimplFinimplFin:List (Nat×RF):=[(266,r266)]
end Go.Proofs.Yteagcdhkobeanaa.A
namespace Go.Proofs.Yteagcdhkobeanaa.A
open Go
def r248L0:RC:=
 .seq (.reg [⟨none,.bin 9 .lss (.t 8) (.t 7)⟩])
 (.seq (.cond (.t 9)
 (.skip)
 (.exit 0))
 (.seq (.block 1 (.seq (.reg [⟨none,.mov 10 (.t 8)⟩,
 ⟨none,.mov 5 (.t 10)⟩])
 (.seq (.reg [⟨none,.mov 11 (.t 1)⟩,
 ⟨none,.mov 12 (.t 0)⟩,
 ⟨none,.mov 13 (.t 5)⟩,
 ⟨none,.idx 14 16 (.t 12) (.t 13)⟩,
 ⟨none,.load 15 14 6 true⟩,
 ⟨none,.calv (some 16) (.t 11) [(.t 15)] false⟩])
 (.cond (.t 16)
 (.seq (.reg [⟨none,.mov 17 (.t 5)⟩,
 ⟨none,.mov 4 (.t 17)⟩])
 (.ret))
 (.skip)))))
 (.reg [⟨none,.bin 18 .add (.t 8) (.k (.int .i64 1))⟩,
 ⟨none,.mov 8 (.t 18)⟩])))
def r248:RF:=
 ⟨2,[.tmp 4],
 .seq (.reg [⟨none,.mov 4 (.k (.int .i64 0))⟩])
 (.seq (.seq (.reg [⟨none,.mov 6 (.t 0)⟩,
 ⟨none,.len 7 (.t 6)⟩,
 ⟨none,.mov 8 (.k (.int .i64 0))⟩])
 (.block 0 (.loop [0,1,7,8]
 r248L0)))
 (.seq (.reg [⟨none,.mov 4 (.k (.int .i64 (-1)))⟩])
 (.ret)))⟩
def tLibslicesIndexFuncimplShardimplShard:List (Nat×RF):=[(248,r248)]
end Go.Proofs.Yteagcdhkobeanaa.A
namespace Go.Proofs.Yteagcdhkobeanaa.A
open Go
def r272L0:RC:=
 .seq (.reg [⟨none,.bin 9 .lss (.t 8) (.t 7)⟩])
 (.seq (.cond (.t 9)
 (.skip)
 (.exit 0))
 (.seq (.block 1 (.seq (.reg [⟨none,.mov 10 (.t 8)⟩,
 ⟨none,.mov 5 (.t 10)⟩])
 (.seq (.reg [⟨none,.chk []⟩,
 ⟨none,.mov 12 (.t 0)⟩,
 ⟨none,.mov 13 (.t 5)⟩,
 ⟨none,.idx 14 9 (.t 12) (.t 13)⟩,
 ⟨none,.load 11 3 2 true⟩,
 ⟨none,.load 15 14 2 true⟩,
 ⟨none,.eqs 16 false [.i .i64,.i .u64] (.t 11) (.t 15)⟩])
 (.cond (.t 16)
 (.seq (.reg [⟨none,.mov 17 (.t 5)⟩,
 ⟨none,.mov 4 (.t 17)⟩])
 (.ret))
 (.skip)))))
 (.reg [⟨none,.bin 18 .add (.t 8) (.k (.int .i64 1))⟩,
 ⟨none,.mov 8 (.t 18)⟩])))
def r272:RF:=
 ⟨2,[.tmp 4],
 .seq (.reg [⟨none,.locb 3 (.t 1)⟩,
 ⟨none,.mov 4 (.k (.int .i64 0))⟩])
 (.seq (.seq (.reg [⟨none,.mov 6 (.t 0)⟩,
 ⟨none,.len 7 (.t 6)⟩,
 ⟨none,.mov 8 (.k (.int .i64 0))⟩])
 (.block 0 (.loop [0,3,7,8]
 r272L0)))
 (.seq (.reg [⟨none,.mov 4 (.k (.int .i64 (-1)))⟩])
 (.ret)))⟩
def tLibslicesIndeximplFinimplFin:List (Nat×RF):=[(272,r272)]
end Go.Proofs.Yteagcdhkobeanaa.A
namespace Go.Proofs.Yteagcdhkobeanaa.A
open Go
def r5:RF:=
 ⟨3,[.tmp 6],
 .seq (.reg [⟨none,.mov 6 (.k (.bool false))⟩])
 (.seq (.reg [⟨none,.mov 7 (.t 1)⟩,
 ⟨none,.mov 8 (.t 0)⟩,
 ⟨none,.bin 9 .leq (.t 7) (.t 8)⟩,
 ⟨none,.mov 10 (.t 9)⟩,
 ⟨some (10,true),.mov 11 (.t 0)⟩,
 ⟨some (10,true),.mov 12 (.t 2)⟩,
 ⟨some (10,true),.bin 13 .leq (.t 11) (.t 12)⟩,
 ⟨none,.pick 14 (.t 10) (.t 13) (.k (.bool false))⟩,
 ⟨none,.mov 6 (.t 14)⟩])
 (.ret))⟩
def tS01d:List (Nat×RF):=[(5,r5)]
end Go.Proofs.Yteagcdhkobeanaa.A
namespace Go.Proofs.Yteagcdhkobeanaa.A
open Go
def r241L0:RC:=
 .seq (.seq (.reg [⟨none,.mov 9 (.t 3)⟩,
 ⟨none,.fad 10 1 0⟩,
 ⟨none,.load 11 10 1 false⟩,
 ⟨none,.len 12 (.t 11)⟩,
 ⟨none,.bin 13 .lss (.t 9) (.t 12)⟩])
 (.cond (.t 13)
 (.skip)
 (.exit 0)))
 (.seq (.block 1 (.seq (.reg [⟨none,.fad 16 1 0⟩,
 ⟨none,.load 17 16 1 false⟩,
 ⟨none,.mov 18 (.t 3)⟩,
 ⟨none,.idx 19 11 (.t 17) (.t 18)⟩,
 ⟨none,.load 20 19 5 true⟩,
 ⟨none,.loc 4 [.int .u64 0,.int .u64 0,.int .u64 0,.int .u64 0,.int .i64 0]⟩,
 ⟨none,.store 4 5 (.t 20)⟩])
 (.seq (.seq (.reg [⟨none,.chk []⟩,
 ⟨none,.mov 21 (.t 3)⟩,
 ⟨none,.bin 22 .gtr (.t 21) (.k (.int .i64 0))⟩,
 ⟨none,.mov 23 (.t 22)⟩,
 ⟨some (23,true),.mov 26 (.t 3)⟩,
 ⟨some (23,true),.bin 27 .sub (.t 26) (.k (.int .i64 1))⟩,
 ⟨some (23,true),.fad 24 1 0⟩,
 ⟨some (23,true),.load 25 24 1 false⟩,
 ⟨some (23,true),.idx 28 11 (.t 25) (.t 27)⟩,
 ⟨some (23,true),.fad 29 28 0⟩,
 ⟨some (23,true),.load 30 29 1 false⟩,
 ⟨some (23,true),.fad 31 4 0⟩,
 ⟨some (23,true),.load 32 31 1 false⟩,
 ⟨some (23,true),.bin 33 .geq (.t 30) (.t 32)⟩,
 ⟨none,.pick 34 (.t 23) (.t 33) (.k (.bool false))⟩,
 ⟨none,.mov 35 (.t 34)⟩,
 ⟨some (35,false),.fad 36 4 4⟩,
 ⟨some (35,false),.load 37 36 1 false⟩,
 ⟨some (35,false),.bin 38 .lss (.t 37) (.k (.int .i64 0))⟩,
 ⟨none,.pick 39 (.t 35) (.k (.bool true)) (.t 38)⟩,
 ⟨none,.mov 40 (.t 39)⟩,
 ⟨some (40,false),.fad 41 4 4⟩,
 ⟨some (40,false),.load 42 41 1 false⟩,
 ⟨some (40,false),.bin 43 .eql (.t 42) (.k (.int .i64 0))⟩,
 ⟨some (40,false),.mov 44 (.t 43)⟩,
 ⟨some (44,true),.fad 45 4 2⟩,
 ⟨some (44,true),.load 46 45 1 false⟩,
 ⟨some (44,true),.bin 47 .neq (.t 46) (.k (.int .u64 0))⟩,
 ⟨some (44,true),.mov 48 (.t 47)⟩,
 ⟨some (48,false),.fad 49 4 3⟩,
 ⟨some (48,false),.load 50 49 1 false⟩,
 ⟨some (48,false),.bin 51 .neq (.t 50) (.k (.int .u64 0))⟩,
 ⟨some (44,true),.pick 52 (.t 48) (.k (.bool true)) (.t 51)⟩,
 ⟨some (40,false),.pick 53 (.t 44) (.t 52) (.k (.bool false))⟩,
 ⟨none,.pick 54 (.t 40) (.k (.bool true)) (.t 53)⟩])
 (.cond (.t 54)
 (.seq (.reg [⟨none,.mov 2 (.k (.bool false))⟩])
 (.ret))
 (.skip)))
 (.seq (.reg [⟨none,.fad 55 4 2⟩,
 ⟨none,.load 56 55 1 false⟩,
 ⟨none,.fad 57 4 1⟩,
 ⟨none,.load 58 57 1 false⟩,
 ⟨none,.bin 59 .sub (.k (.int .u64 18446744073709551615)) (.t 58)⟩,
 ⟨none,.bin 60 .gtr (.t 56) (.t 59)⟩,
 ⟨none,.mov 61 (.t 60)⟩,
 ⟨some (61,false),.fad 62 4 3⟩,
 ⟨some (61,false),.load 63 62 1 false⟩,
 ⟨some (61,false),.fad 64 4 1⟩,
 ⟨some (61,false),.load 65 64 1 false⟩,
 ⟨some (61,false),.bin 66 .sub (.k (.int .u64 18446744073709551615)) (.t 65)⟩,
 ⟨some (61,false),.fad 67 4 2⟩,
 ⟨some (61,false),.load 68 67 1 false⟩,
 ⟨some (61,false),.bin 69 .sub (.t 66) (.t 68)⟩,
 ⟨some (61,false),.bin 70 .gtr (.t 63) (.t 69)⟩,
 ⟨none,.pick 71 (.t 61) (.k (.bool true)) (.t 70)⟩])
 (.cond (.t 71)
 (.seq (.reg [⟨none,.mov 2 (.k (.bool false))⟩])
 (.ret))
 (.skip))))))
 (.reg [⟨none,.mov 14 (.t 3)⟩,
 ⟨none,.bin 15 .add (.t 14) (.k (.int .i64 1))⟩,
 ⟨none,.mov 3 (.t 15)⟩]))
def r241:RF:=
 ⟨1,[.tmp 2],
 .seq (.reg [⟨none,.locb 1 (.t 0)⟩,
 ⟨none,.mov 2 (.k (.bool false))⟩])
 (.seq (.seq (.reg [⟨none,.fad 5 1 0⟩,
 ⟨none,.load 6 5 1 false⟩,
 ⟨none,.len 7 (.t 6)⟩,
 ⟨none,.bin 8 .gtr (.t 7) (.k (.int .i64 40))⟩])
 (.cond (.t 8)
 (.seq (.reg [⟨none,.mov 2 (.k (.bool false))⟩])
 (.ret))
 (.skip)))
 (.seq (.seq (.reg [⟨none,.mov 3 (.k (.int .i64 0))⟩])
 (.block 0 (.loop [1,3]
 r241L0)))
 (.seq (.reg [⟨none,.mov 2 (.k (.bool true))⟩])
 (.ret))))⟩
def r259L0:RC:=
 .seq (.seq (.reg [⟨none,.mov 6 (.t 4)⟩,
 ⟨none,.fad 7 1 0⟩,
 ⟨none,.load 8 7 1 false⟩,
 ⟨none,.len 9 (.t 8)⟩,
 ⟨none,.bin 10 .lss (.t 6) (.t 9)⟩])
 (.cond (.t 10)
 (.skip)
 (.exit 0)))
 (.seq (.block 1 (.reg [⟨none,.chk []⟩,
 ⟨none,.mov 17 (.t 4)⟩,
 ⟨none,.fad 13 3 0⟩,
 ⟨none,.load 14 13 1 false⟩,
 ⟨none,.fad 15 1 0⟩,
 ⟨none,.load 16 15 1 false⟩,
 ⟨none,.idx 18 11 (.t 16) (.t 17)⟩,
 ⟨none,.load 19 18 5 true⟩,
 ⟨none,.lit 20 11 1 [.int .u64 0,.int .u64 0,.int .u64 0,.int .u64 0,.int .i64 0] [(0,(.t 19))]⟩,
 ⟨none,.app 21 11 40 (.t 14) (.t 20)⟩,
 ⟨none,.fad 22 3 0⟩,
 ⟨none,.store 22 1 (.t 21)⟩]))
 (.reg [⟨none,.mov 11 (.t 4)⟩,
 ⟨none,.bin 12 .add (.t 11) (.k (.int .i64 1))⟩,
 ⟨none,.mov 4 (.t 12)⟩]))
def r259:RF:=
 ⟨1,[.cell 2 1 true],
 .seq (.reg [⟨none,.locb 1 (.t 0)⟩,
 ⟨none,.loc 2 [.nil]⟩])
 (.seq (.reg [⟨none,.build 5 [.nil] []⟩,
 ⟨none,.loc 3 [.nil]⟩,
 ⟨none,.store 3 1 (.t 5)⟩])
 (.seq (.seq (.reg [⟨none,.mov 4 (.k (.int .i64 0))⟩])
 (.block 0 (.loop [1,2,3,4]
 r259L0)))
 (.seq (.reg [⟨none,.load 23 3 1 true⟩,
 ⟨none,.store 2 1 (.t 23)⟩])
 (.ret))))⟩
def tS10:List (Nat×RF):=[(241,r241),(259,r259)]
end Go.Proofs.Yteagcdhkobeanaa.A
namespace Go.Proofs.Yteagcdhkobeanaa.A
open Go
def r156L0:RC:=
 .seq (.seq (.reg [⟨none,.mov 21 (.t 3)⟩,
 ⟨none,.fad 22 1 2⟩,
 ⟨none,.load 23 22 1 false⟩,
 ⟨none,.len 24 (.t 23)⟩,
 ⟨none,.bin 25 .lss (.t 21) (.t 24)⟩])
 (.cond (.t 25)
 (.skip)
 (.exit 0)))
 (.seq (.block 1 (.seq (.reg [⟨none,.fad 28 1 2⟩,
 ⟨none,.load 29 28 1 false⟩,
 ⟨none,.mov 30 (.t 3)⟩,
 ⟨none,.idx 31 16 (.t 29) (.t 30)⟩,
 ⟨none,.load 32 31 6 true⟩,
 ⟨none,.loc 4 [.int .u64 0,.int .u64 0,.int .i64 0,.int .i64 0,.nil,.nil]⟩,
 ⟨none,.store 4 6 (.t 32)⟩])
 (.seq (.reg [⟨none,.chk []⟩,
 ⟨none,.load 33 4 6 true⟩,
 ⟨none,.call (some 34) 204 [(.t 33)] true⟩,
 ⟨none,.not 35 (.t 34)⟩,
 ⟨none,.mov 36 (.t 35)⟩,
 ⟨some (36,false),.fad 37 4 3⟩,
 ⟨some (36,false),.load 38 37 1 false⟩,
 ⟨some (36,false),.fad 39 1 1⟩,
 ⟨some (36,false),.load 40 39 1 false⟩,
 ⟨some (36,false),.bin 41 .gtr (.t 38) (.t 40)⟩,
 ⟨none,.pick 42 (.t 36) (.k (.bool true)) (.t 41)⟩,
 ⟨none,.mov 43 (.t 42)⟩,
 ⟨some (43,false),.mov 44 (.t 3)⟩,
 ⟨some (43,false),.bin 45 .gtr (.t 44) (.k (.int .i64 0))⟩,
 ⟨some (43,false),.mov 46 (.t 45)⟩,
 ⟨some (46,true),.mov 49 (.t 3)⟩,
 ⟨some (46,true),.bin 50 .sub (.t 49) (.k (.int .i64 1))⟩,
 ⟨some (46,true),.fad 47 1 2⟩,
 ⟨some (46,true),.load 48 47 1 false⟩,
 ⟨some (46,true),.idx 51 16 (.t 48) (.t 50)⟩,
 ⟨some (46,true),.fad 52 51 1⟩,
 ⟨some (46,true),.load 53 52 1 false⟩,
 ⟨some (46,true),.fad 54 4 0⟩,
 ⟨some (46,true),.load 55 54 1 false⟩,
 ⟨some (46,true),.bin 56 .geq (.t 53) (.t 55)⟩,
 ⟨some (43,false),.pick 57 (.t 46) (.t 56) (.k (.bool false))⟩,
 ⟨none,.pick 58 (.t 43) (.k (.bool true)) (.t 57)⟩])
 (.cond (.t 58)
 (.seq (.reg [⟨none,.mov 2 (.k (.bool false))⟩])
 (.ret))
 (.skip)))))
 (.reg [⟨none,.mov 26 (.t 3)⟩,
 ⟨none,.bin 27 .add (.t 26) (.k (.int .i64 1))⟩,
 ⟨none,.mov 3 (.t 27)⟩]))
def r156:RF:=
 ⟨1,[.tmp 2],
 .seq (.reg [⟨none,.locb 1 (.t 0)⟩,
 ⟨none,.mov 2 (.k (.bool false))⟩])
 (.seq (.seq (.reg [⟨none,.fad 5 1 0⟩,
 ⟨none,.load 6 5 1 false⟩,
 ⟨none,.call (some 7) 5 [(.t 6),(.k (.int .i64 0)),(.k (.int .i64 99))] false⟩,
 ⟨none,.not 8 (.t 7)⟩,
 ⟨none,.mov 9 (.t 8)⟩,
 ⟨some (9,false),.fad 10 1 1⟩,
 ⟨some (9,false),.load 11 10 1 false⟩,
 ⟨some (9,false),.call (some 12) 5 [(.t 11),(.k (.int .i64 0)),(.k (.int .i64 1000000))] false⟩,
 ⟨some (9,false),.not 13 (.t 12)⟩,
 ⟨none,.pick 14 (.t 9) (.k (.bool true)) (.t 13)⟩,
 ⟨none,.mov 15 (.t 14)⟩,
 ⟨some (15,false),.fad 16 1 2⟩,
 ⟨some (15,false),.load 17 16 1 false⟩,
 ⟨some (15,false),.len 18 (.t 17)⟩,
 ⟨some (15,false),.bin 19 .gtr (.t 18) (.k (.int .i64 8))⟩,
 ⟨none,.pick 20 (.t 15) (.k (.bool true)) (.t 19)⟩])
 (.cond (.t 20)
 (.seq (.reg [⟨none,.mov 2 (.k (.bool false))⟩])
 (.ret))
 (.skip)))
 (.seq (.seq (.reg [⟨none,.mov 3 (.k (.int .i64 0))⟩])
 (.block 0 (.loop [1,3]
 r156L0)))
 (.seq (.reg [⟨none,.mov 2 (.k (.bool true))⟩])
 (.ret))))⟩
def r204L0:RC:=
 .seq (.seq (.reg [⟨none,.mov 80 (.t 5)⟩,
 ⟨none,.fad 81 1 4⟩,
 ⟨none,.fad 82 81 0⟩,
 ⟨none,.load 83 82 1 false⟩,
 ⟨none,.len 84 (.t 83)⟩,
 ⟨none,.bin 85 .lss (.t 80) (.t 84)⟩])
 (.cond (.t 85)
 (.skip)
 (.exit 2)))
 (.seq (.block 3 (.seq (.reg [⟨none,.fad 88 1 4⟩,
 ⟨none,.fad 89 88 0⟩,
 ⟨none,.load 90 89 1 false⟩,
 ⟨none,.mov 91 (.t 5)⟩,
 ⟨none,.idx 92 11 (.t 90) (.t 91)⟩,
 ⟨none,.load 93 92 5 true⟩,
 ⟨none,.loc 6 [.int .u64 0,.int .u64 0,.int .u64 0,.int .u64 0,.int .i64 0]⟩,
 ⟨none,.store 6 5 (.t 93)⟩])
 (.seq (.reg [⟨none,.fad 94 6 0⟩,
 ⟨none,.load 95 94 1 false⟩,
 ⟨none,.fad 96 1 0⟩,
 ⟨none,.load 97 96 1 false⟩,
 ⟨none,.bin 98 .lss (.t 95) (.t 97)⟩,
 ⟨none,.mov 99 (.t 98)⟩,
 ⟨some (99,false),.fad 100 6 0⟩,
 ⟨some (99,false),.load 101 100 1 false⟩,
 ⟨some (99,false),.fad 102 1 1⟩,
 ⟨some (99,false),.load 103 102 1 false⟩,
 ⟨some (99,false),.bin 104 .gtr (.t 101) (.t 103)⟩,
 ⟨none,.pick 105 (.t 99) (.k (.bool true)) (.t 104)⟩,
 ⟨none,.mov 106 (.t 105)⟩,
 ⟨some (106,false),.fad 107 1 5⟩,
 ⟨some (106,false),.load 108 107 1 false⟩,
 ⟨some (106,false),.fad 109 6 4⟩,
 ⟨some (106,false),.load 110 109 1 false⟩,
 ⟨some (106,false),.fad 111 6 0⟩,
 ⟨some (106,false),.load 112 111 1 false⟩,
 ⟨some (106,false),.build 113 [.int .i64 0,.int .u64 0] [(0,1,(.t 110)),(1,1,(.t 112))]⟩,
 ⟨some (106,false),.call (some 114) 243 [(.t 108),(.t 113)] false⟩,
 ⟨none,.pick 115 (.t 106) (.k (.bool true)) (.t 114)⟩])
 (.cond (.t 115)
 (.seq (.reg [⟨none,.mov 2 (.k (.bool false))⟩])
 (.ret))
 (.skip)))))
 (.reg [⟨none,.mov 86 (.t 5)⟩,
 ⟨none,.bin 87 .add (.t 86) (.k (.int .i64 1))⟩,
 ⟨none,.mov 5 (.t 87)⟩]))
def r204L1:RC:=
 .seq (.seq (.reg [⟨none,.mov 36 (.t 3)⟩,
 ⟨none,.fad 37 1 5⟩,
 ⟨none,.load 38 37 1 false⟩,
 ⟨none,.len 39 (.t 38)⟩,
 ⟨none,.bin 40 .lss (.t 36) (.t 39)⟩])
 (.cond (.t 40)
 (.skip)
 (.exit 0)))
 (.seq (.block 1 (.seq (.reg [⟨none,.fad 43 1 5⟩,
 ⟨none,.load 44 43 1 false⟩,
 ⟨none,.mov 45 (.t 3)⟩,
 ⟨none,.idx 46 9 (.t 44) (.t 45)⟩,
 ⟨none,.load 47 46 2 true⟩,
 ⟨none,.loc 4 [.int .i64 0,.int .u64 0]⟩,
 ⟨none,.store 4 2 (.t 47)⟩])
 (.seq (.reg [⟨none,.chk []⟩,
 ⟨none,.fad 48 4 0⟩,
 ⟨none,.load 49 48 1 false⟩,
 ⟨none,.bin 50 .lss (.t 49) (.k (.int .i64 1))⟩,
 ⟨none,.mov 51 (.t 50)⟩,
 ⟨some (51,false),.fad 52 4 1⟩,
 ⟨some (51,false),.load 53 52 1 false⟩,
 ⟨some (51,false),.fad 54 1 0⟩,
 ⟨some (51,false),.load 55 54 1 false⟩,
 ⟨some (51,false),.bin 56 .lss (.t 53) (.t 55)⟩,
 ⟨none,.pick 57 (.t 51) (.k (.bool true)) (.t 56)⟩,
 ⟨none,.mov 58 (.t 57)⟩,
 ⟨some (58,false),.fad 59 4 1⟩,
 ⟨some (58,false),.load 60 59 1 false⟩,
 ⟨some (58,false),.fad 61 1 1⟩,
 ⟨some (58,false),.load 62 61 1 false⟩,
 ⟨some (58,false),.bin 63 .gtr (.t 60) (.t 62)⟩,
 ⟨none,.pick 64 (.t 58) (.k (.bool true)) (.t 63)⟩,
 ⟨none,.mov 65 (.t 64)⟩,
 ⟨some (65,false),.mov 66 (.t 3)⟩,
 ⟨some (65,false),.bin 67 .gtr (.t 66) (.k (.int .i64 0))⟩,
 ⟨some (65,false),.mov 68 (.t 67)⟩,
 ⟨some (68,true),.mov 71 (.t 3)⟩,
 ⟨some (68,true),.bin 72 .sub (.t 71) (.k (.int .i64 1))⟩,
 ⟨some (68,true),.fad 69 1 5⟩,
 ⟨some (68,true),.load 70 69 1 false⟩,
 ⟨some (68,true),.idx 73 9 (.t 70) (.t 72)⟩,
 ⟨some (68,true),.load 74 73 2 true⟩,
 ⟨some (68,true),.load 75 4 2 true⟩,
 ⟨some (68,true),.call (some 76) 242 [(.t 74),(.t 75)] true⟩,
 ⟨some (68,true),.not 77 (.t 76)⟩,
 ⟨some (65,false),.pick 78 (.t 68) (.t 77) (.k (.bool false))⟩,
 ⟨none,.pick 79 (.t 65) (.k (.bool true)) (.t 78)⟩])
 (.cond (.t 79)
 (.seq (.reg [⟨none,.mov 2 (.k (.bool false))⟩])
 (.ret))
 (.skip)))))
 (.reg [⟨none,.mov 41 (.t 3)⟩,
 ⟨none,.bin 42 .add (.t 41) (.k (.int .i64 1))⟩,
 ⟨none,.mov 3 (.t 42)⟩]))
def r204:RF:=
 ⟨1,[.tmp 2],
 .seq (.reg [⟨none,.locb 1 (.t 0)⟩,
 ⟨none,.mov 2 (.k (.bool false))⟩])
 (.seq (.seq (.reg [⟨none,.fad 7 1 0⟩,
 ⟨none,.load 8 7 1 false⟩,
 ⟨none,.fad 9 1 1⟩,
 ⟨none,.load 10 9 1 false⟩,
 ⟨none,.bin 11 .gtr (.t 8) (.t 10)⟩,
 ⟨none,.mov 12 (.t 11)⟩,
 ⟨some (12,false),.fad 13 1 2⟩,
 ⟨some (12,false),.load 14 13 1 false⟩,
 ⟨some (12,false),.call (some 15) 5 [(.t 14),(.k (.int .i64 0)),(.k (.int .i64 1))] false⟩,
 ⟨some (12,false),.not 16 (.t 15)⟩,
 ⟨none,.pick 17 (.t 12) (.k (.bool true)) (.t 16)⟩,
 ⟨none,.mov 18 (.t 17)⟩,
 ⟨some (18,false),.fad 19 1 3⟩,
 ⟨some (18,false),.load 20 19 1 false⟩,
 ⟨some (18,false),.call (some 21) 5 [(.t 20),(.k (.int .i64 1)),(.k (.int .i64 1000000))] false⟩,
 ⟨some (18,false),.not 22 (.t 21)⟩,
 ⟨none,.pick 23 (.t 18) (.k (.bool true)) (.t 22)⟩,
 ⟨none,.mov 24 (.t 23)⟩,
 ⟨some (24,false),.fad 25 1 4⟩,
 ⟨some (24,false),.load 26 25 1 true⟩,
 ⟨some (24,false),.call (some 27) 241 [(.t 26)] false⟩,
 ⟨some (24,false),.not 28 (.t 27)⟩,
 ⟨none,.pick 29 (.t 24) (.k (.bool true)) (.t 28)⟩,
 ⟨none,.mov 30 (.t 29)⟩,
 ⟨some (30,false),.fad 31 1 5⟩,
 ⟨some (30,false),.load 32 31 1 false⟩,
 ⟨some (30,false),.len 33 (.t 32)⟩,
 ⟨some (30,false),.bin 34 .gtr (.t 33) (.k (.int .i64 60))⟩,
 ⟨none,.pick 35 (.t 30) (.k (.bool true)) (.t 34)⟩])
 (.cond (.t 35)
 (.seq (.reg [⟨none,.mov 2 (.k (.bool false))⟩])
 (.ret))
 (.skip)))
 (.seq (.seq (.reg [⟨none,.mov 3 (.k (.int .i64 0))⟩])
 (.block 0 (.loop [1,3]
 r204L1)))
 (.seq (.seq (.reg [⟨none,.mov 5 (.k (.int .i64 0))⟩])
 (.block 2 (.loop [1,5]
 r204L0)))
 (.seq (.reg [⟨none,.mov 2 (.k (.bool true))⟩])
 (.ret)))))⟩
def r210L0:RC:=
 .seq (.seq (.reg [⟨none,.mov 8 (.t 7)⟩,
 ⟨none,.fad 9 3 2⟩,
 ⟨none,.load 10 9 1 false⟩,
 ⟨none,.len 11 (.t 10)⟩,
 ⟨none,.bin 12 .lss (.t 8) (.t 11)⟩])
 (.cond (.t 12)
 (.skip)
 (.exit 0)))
 (.seq (.block 1 (.seq (.reg [⟨none,.fad 15 3 2⟩,
 ⟨none,.load 16 15 1 false⟩,
 ⟨none,.mov 17 (.t 7)⟩,
 ⟨none,.idx 18 16 (.t 16) (.t 17)⟩,
 ⟨none,.fad 19 18 0⟩,
 ⟨none,.load 20 19 1 false⟩,
 ⟨none,.mov 21 (.t 1)⟩,
 ⟨none,.bin 22 .eql (.t 20) (.t 21)⟩,
 ⟨none,.mov 23 (.t 22)⟩,
 ⟨some (23,true),.fad 24 3 2⟩,
 ⟨some (23,true),.load 25 24 1 false⟩,
 ⟨some (23,true),.mov 26 (.t 7)⟩,
 ⟨some (23,true),.idx 27 16 (.t 25) (.t 26)⟩,
 ⟨some (23,true),.fad 28 27 2⟩,
 ⟨some (23,true),.load 29 28 1 false⟩,
 ⟨some (23,true),.mov 30 (.t 2)⟩,
 ⟨some (23,true),.bin 31 .eql (.t 29) (.t 30)⟩,
 ⟨none,.pick 32 (.t 23) (.t 31) (.k (.bool false))⟩])
 (.cond (.t 32)
 (.seq (.reg [⟨none,.mov 33 (.t 7)⟩,
 ⟨none,.mov 6 (.t 33)⟩])
 (.ret))
 (.skip))))
 (.reg [⟨none,.mov 13 (.t 7)⟩,
 ⟨none,.bin 14 .add (.t 13) (.k (.int .i64 1))⟩,
 ⟨none,.mov 7 (.t 14)⟩]))
def r210:RF:=
 ⟨3,[.tmp 6],
 .seq (.reg [⟨none,.locb 3 (.t 0)⟩,
 ⟨none,.mov 6 (.k (.int .i64 0))⟩])
 (.seq (.seq (.reg [⟨none,.mov 7 (.k (.int .i64 0))⟩])
 (.block 0 (.loop [1,2,3,7]
 r210L0)))
 (.seq (.reg [⟨none,.mov 6 (.k (.int .i64 (-1)))⟩])
 (.ret)))⟩
def r228L0:RC:=
 .seq (.seq (.reg [⟨none,.mov 10 (.t 4)⟩,
 ⟨none,.fad 11 1 5⟩,
 ⟨none,.load 12 11 1 false⟩,
 ⟨none,.len 13 (.t 12)⟩,
 ⟨none,.bin 14 .lss (.t 10) (.t 13)⟩])
 (.cond (.t 14)
 (.skip)
 (.exit 0)))
 (.seq (.block 1 (.reg [⟨none,.mov 17 (.t 3)⟩,
 ⟨none,.fad 18 1 5⟩,
 ⟨none,.load 19 18 1 false⟩,
 ⟨none,.mov 20 (.t 4)⟩,
 ⟨none,.idx 21 9 (.t 19) (.t 20)⟩,
 ⟨none,.load 22 21 2 true⟩,
 ⟨none,.lit 23 9 1 [.int .i64 0,.int .u64 0] [(0,(.t 22))]⟩,
 ⟨none,.app 24 9 16 (.t 17) (.t 23)⟩,
 ⟨none,.mov 3 (.t 24)⟩]))
 (.reg [⟨none,.mov 15 (.t 4)⟩,
 ⟨none,.bin 16 .add (.t 15) (.k (.int .i64 1))⟩,
 ⟨none,.mov 4 (.t 16)⟩]))
def r228:RF:=
 ⟨1,[.cell 2 6 true],
 .seq (.reg [⟨none,.locb 1 (.t 0)⟩,
 ⟨none,.loc 2 [.int .u64 0,.int .u64 0,.int .i64 0,.int .i64 0,.nil,.nil]⟩])
 (.seq (.reg [⟨none,.fad 5 1 4⟩,
 ⟨none,.load 6 5 1 true⟩,
 ⟨none,.call (some 7) 259 [(.t 6)] false⟩,
 ⟨none,.fad 8 1 4⟩,
 ⟨none,.store 8 1 (.t 7)⟩])
 (.seq (.reg [⟨none,.lit 9 9 0 [.int .i64 0,.int .u64 0] []⟩,
 ⟨none,.mov 3 (.t 9)⟩])
 (.seq (.seq (.reg [⟨none,.mov 4 (.k (.int .i64 0))⟩])
 (.block 0 (.loop [1,2,3,4]
 r228L0)))
 (.seq (.reg [⟨none,.mov 25 (.t 3)⟩,
 ⟨none,.fad 26 1 5⟩,
 ⟨none,.store 26 1 (.t 25)⟩])
 (.seq (.reg [⟨none,.load 27 1 6 true⟩,
 ⟨none,.store 2 6 (.t 27)⟩])
 (.ret))))))⟩
def r242:RF:=
 ⟨2,[.tmp 4],
 .seq (.reg [⟨none,.locb 2 (.t 0)⟩,
 ⟨none,.locb 3 (.t 1)⟩,
 ⟨none,.mov 4 (.k (.bool false))⟩])
 (.seq (.reg [⟨none,.fad 5 2 0⟩,
 ⟨none,.load 6 5 1 false⟩,
 ⟨none,.fad 7 3 0⟩,
 ⟨none,.load 8 7 1 false⟩,
 ⟨none,.bin 9 .lss (.t 6) (.t 8)⟩,
 ⟨none,.mov 10 (.t 9)⟩,
 ⟨some (10,false),.fad 11 2 0⟩,
 ⟨some (10,false),.load 12 11 1 false⟩,
 ⟨some (10,false),.fad 13 3 0⟩,
 ⟨some (10,false),.load 14 13 1 false⟩,
 ⟨some (10,false),.bin 15 .eql (.t 12) (.t 14)⟩,
 ⟨some (10,false),.mov 16 (.t 15)⟩,
 ⟨some (16,true),.fad 17 2 1⟩,
 ⟨some (16,true),.load 18 17 1 false⟩,
 ⟨some (16,true),.fad 19 3 1⟩,
 ⟨some (16,true),.load 20 19 1 false⟩,
 ⟨some (16,true),.bin 21 .lss (.t 18) (.t 20)⟩,
 ⟨some (10,false),.pick 22 (.t 16) (.t 21) (.k (.bool false))⟩,
 ⟨none,.pick 23 (.t 10) (.k (.bool true)) (.t 22)⟩,
 ⟨none,.mov 4 (.t 23)⟩])
 (.ret))⟩
def r243L0:RC:=
 .seq (.seq (.reg [⟨none,.mov 6 (.t 5)⟩,
 ⟨none,.mov 7 (.t 0)⟩,
 ⟨none,.len 8 (.t 7)⟩,
 ⟨none,.bin 9 .lss (.t 6) (.t 8)⟩])
 (.cond (.t 9)
 (.skip)
 (.exit 0)))
 (.seq (.block 1 (.seq (.reg [⟨none,.chk []⟩,
 ⟨none,.mov 12 (.t 0)⟩,
 ⟨none,.mov 13 (.t 5)⟩,
 ⟨none,.idx 14 9 (.t 12) (.t 13)⟩,
 ⟨none,.load 15 14 2 true⟩,
 ⟨none,.load 16 3 2 true⟩,
 ⟨none,.eqs 17 false [.i .i64,.i .u64] (.t 15) (.t 16)⟩])
 (.cond (.t 17)
 (.seq (.reg [⟨none,.mov 4 (.k (.bool true))⟩])
 (.ret))
 (.skip))))
 (.reg [⟨none,.mov 10 (.t 5)⟩,
 ⟨none,.bin 11 .add (.t 10) (.k (.int .i64 1))⟩,
 ⟨none,.mov 5 (.t 11)⟩]))
def r243:RF:=
 ⟨2,[.tmp 4],
 .seq (.reg [⟨none,.locb 3 (.t 1)⟩,
 ⟨none,.mov 4 (.k (.bool false))⟩])
 (.seq (.seq (.reg [⟨none,.mov 5 (.k (.int .i64 0))⟩])
 (.block 0 (.loop [0,3,5]
 r243L0)))
 (.seq (.reg [⟨none,.mov 4 (.k (.bool false))⟩])
 (.ret)))⟩
def r297L0:RC:=
 .seq (.seq (.reg [⟨none,.mov 38 (.t 10)⟩,
 ⟨none,.fad 39 3 2⟩,
 ⟨none,.load 40 39 1 false⟩,
 ⟨none,.len 41 (.t 40)⟩,
 ⟨none,.bin 42 .lss (.t 38) (.t 41)⟩])
 (.cond (.t 42)
 (.skip)
 (.exit 0)))
 (.seq (.block 1 (.seq (.reg [⟨none,.mov 45 (.t 10)⟩,
 ⟨none,.mov 46 (.t 8)⟩,
 ⟨none,.bin 47 .neq (.t 45) (.t 46)⟩])
 (.cond (.t 47)
 (.reg [⟨none,.chk []⟩,
 ⟨none,.mov 52 (.t 10)⟩,
 ⟨none,.fad 48 9 2⟩,
 ⟨none,.load 49 48 1 false⟩,
 ⟨none,.fad 50 3 2⟩,
 ⟨none,.load 51 50 1 false⟩,
 ⟨none,.idx 53 16 (.t 51) (.t 52)⟩,
 ⟨none,.load 54 53 6 true⟩,
 ⟨none,.call (some 55) 228 [(.t 54)] true⟩,
 ⟨none,.lit 56 16 1 [.int .u64 0,.int .u64 0,.int .i64 0,.int .i64 0,.nil,.nil] [(0,(.t 55))]⟩,
 ⟨none,.app 57 16 80 (.t 49) (.t 56)⟩,
 ⟨none,.fad 58 9 2⟩,
 ⟨none,.store 58 1 (.t 57)⟩])
 (.skip))))
 (.reg [⟨none,.mov 43 (.t 10)⟩,
 ⟨none,.bin 44 .add (.t 43) (.k (.int .i64 1))⟩,
 ⟨none,.mov 10 (.t 44)⟩]))
def r297:RF:=
 ⟨3,[.cell 6 3 true,.tmp 7],
 .seq (.reg [⟨none,.locb 3 (.t 0)⟩,
 ⟨none,.loc 6 [.int .i64 0,.int .i64 0,.nil]⟩,
 ⟨none,.mov 7 (.k (.bool false))⟩])
 (.seq (.reg [⟨none,.load 11 3 3 true⟩,
 ⟨none,.mov 12 (.t 1)⟩,
 ⟨none,.call (some 13) 210 [(.t 11),(.t 12),(.k (.int .i64 1))] false⟩,
 ⟨none,.mov 8 (.t 13)⟩])
 (.seq (.seq (.reg [⟨none,.load 14 3 3 true⟩,
 ⟨none,.call (some 15) 156 [(.t 14)] false⟩,
 ⟨none,.not 16 (.t 15)⟩,
 ⟨none,.mov 17 (.t 16)⟩,
 ⟨some (17,false),.mov 18 (.t 8)⟩,
 ⟨some (17,false),.bin 19 .lss (.t 18) (.k (.int .i64 0))⟩,
 ⟨none,.pick 20 (.t 17) (.k (.bool true)) (.t 19)⟩,
 ⟨none,.mov 21 (.t 20)⟩,
 ⟨some (21,false),.fad 22 3 2⟩,
 ⟨some (21,false),.load 23 22 1 false⟩,
 ⟨some (21,false),.mov 24 (.t 8)⟩,
 ⟨some (21,false),.idx 25 16 (.t 23) (.t 24)⟩,
 ⟨some (21,false),.fad 26 25 3⟩,
 ⟨some (21,false),.load 27 26 1 false⟩,
 ⟨some (21,false),.mov 28 (.t 2)⟩,
 ⟨some (21,false),.bin 29 .neq (.t 27) (.t 28)⟩,
 ⟨none,.pick 30 (.t 21) (.k (.bool true)) (.t 29)⟩])
 (.cond (.t 30)
 (.seq (.reg [⟨none,.load 31 3 3 true⟩,
 ⟨none,.call (some 32) 317 [(.t 31)] false⟩,
 ⟨none,.store 6 3 (.t 32)⟩,
 ⟨none,.mov 7 (.k (.bool false))⟩])
 (.ret))
 (.skip)))
 (.seq (.reg [⟨none,.fad 33 3 0⟩,
 ⟨none,.load 34 33 1 false⟩,
 ⟨none,.fad 35 3 1⟩,
 ⟨none,.load 36 35 1 false⟩,
 ⟨none,.build 37 [.int .i64 0,.int .i64 0,.nil] [(0,1,(.t 34)),(1,1,(.t 36))]⟩,
 ⟨none,.loc 9 [.int .i64 0,.int .i64 0,.nil]⟩,
 ⟨none,.store 9 3 (.t 37)⟩])
 (.seq (.seq (.reg [⟨none,.mov 10 (.k (.int .i64 0))⟩])
 (.block 0 (.loop [3,6,8,9,10]
 r297L0)))
 (.seq (.reg [⟨none,.load 59 9 3 true⟩,
 ⟨none,.store 6 3 (.t 59)⟩,
 ⟨none,.mov 7 (.k (.bool true))⟩])
 (.ret))))))⟩
def r300:RF:=
 ⟨3,[.cell 6 3 true,.tmp 7],
 .seq (.reg [⟨none,.locb 3 (.t 0)⟩,
 ⟨none,.loc 6 [.int .i64 0,.int .i64 0,.nil]⟩,
 ⟨none,.mov 7 (.k (.bool false))⟩])
 (.seq (.reg [⟨none,.load 10 3 3 true⟩,
 ⟨none,.call (some 11) 317 [(.t 10)] false⟩,
 ⟨none,.loc 8 [.int .i64 0,.int .i64 0,.nil]⟩,
 ⟨none,.store 8 3 (.t 11)⟩])
 (.seq (.reg [⟨none,.load 12 3 3 true⟩,
 ⟨none,.mov 13 (.t 1)⟩,
 ⟨none,.call (some 14) 210 [(.t 12),(.t 13),(.k (.int .i64 0))] false⟩,
 ⟨none,.mov 9 (.t 14)⟩])
 (.seq (.seq (.reg [⟨none,.load 15 3 3 true⟩,
 ⟨none,.mov 16 (.t 2)⟩,
 ⟨none,.call (some 17) 316 [(.t 15),(.t 16)] false⟩,
 ⟨none,.not 18 (.t 17)⟩,
 ⟨none,.mov 19 (.t 18)⟩,
 ⟨some (19,false),.mov 20 (.t 9)⟩,
 ⟨some (19,false),.bin 21 .lss (.t 20) (.k (.int .i64 0))⟩,
 ⟨none,.pick 22 (.t 19) (.k (.bool true)) (.t 21)⟩])
 (.cond (.t 22)
 (.seq (.reg [⟨none,.load 23 8 3 true⟩,
 ⟨none,.store 6 3 (.t 23)⟩,
 ⟨none,.mov 7 (.k (.bool false))⟩])
 (.ret))
 (.skip)))
 (.seq (.reg [⟨none,.fad 24 8 2⟩,
 ⟨none,.load 25 24 1 false⟩,
 ⟨none,.mov 26 (.t 9)⟩,
 ⟨none,.idx 27 16 (.t 25) (.t 26)⟩,
 ⟨none,.fad 28 27 2⟩,
 ⟨none,.store 28 1 (.k (.int .i64 1))⟩])
 (.seq (.reg [⟨none,.fad 29 8 2⟩,
 ⟨none,.load 30 29 1 false⟩,
 ⟨none,.mov 31 (.t 9)⟩,
 ⟨none,.mov 32 (.t 2)⟩,
 ⟨none,.idx 33 16 (.t 30) (.t 31)⟩,
 ⟨none,.fad 34 33 3⟩,
 ⟨none,.store 34 1 (.t 32)⟩])
 (.seq (.reg [⟨none,.load 35 8 3 true⟩,
 ⟨none,.mov 36 (.t 2)⟩,
 ⟨none,.call (some 37) 318 [(.t 35),(.t 36)] false⟩,
 ⟨none,.store 6 3 (.t 37)⟩,
 ⟨none,.mov 7 (.k (.bool true))⟩])
 (.ret)))))))⟩
def r308L0:RC:=
 .seq (.seq (.reg [⟨none,.mov 79 (.t 12)⟩,
 ⟨none,.fad 80 3 2⟩,
 ⟨none,.load 81 80 1 false⟩,
 ⟨none,.len 82 (.t 81)⟩,
 ⟨none,.bin 83 .lss (.t 79) (.t 82)⟩])
 (.cond (.t 83)
 (.skip)
 (.exit 2)))
 (.seq (.block 3 (.seq (.seq (.reg [⟨none,.chk []⟩,
 ⟨none,.mov 86 (.t 11)⟩,
 ⟨none,.not 87 (.t 86)⟩,
 ⟨none,.mov 88 (.t 87)⟩,
 ⟨some (88,true),.mov 91 (.t 12)⟩,
 ⟨some (88,true),.fad 89 3 2⟩,
 ⟨some (88,true),.load 90 89 1 false⟩,
 ⟨some (88,true),.idx 92 16 (.t 90) (.t 91)⟩,
 ⟨some (88,true),.fad 93 92 0⟩,
 ⟨some (88,true),.load 94 93 1 false⟩,
 ⟨some (88,true),.fad 95 10 0⟩,
 ⟨some (88,true),.load 96 95 1 false⟩,
 ⟨some (88,true),.bin 97 .gtr (.t 94) (.t 96)⟩,
 ⟨none,.pick 98 (.t 88) (.t 97) (.k (.bool false))⟩])
 (.cond (.t 98)
 (.seq (.reg [⟨none,.fad 99 9 2⟩,
 ⟨none,.load 100 99 1 false⟩,
 ⟨none,.load 101 10 6 true⟩,
 ⟨none,.lit 102 16 1 [.int .u64 0,.int .u64 0,.int .i64 0,.int .i64 0,.nil,.nil] [(0,(.t 101))]⟩,
 ⟨none,.app 103 16 80 (.t 100) (.t 102)⟩,
 ⟨none,.fad 104 9 2⟩,
 ⟨none,.store 104 1 (.t 103)⟩])
 (.reg [⟨none,.mov 11 (.k (.bool true))⟩]))
 (.skip)))
 (.reg [⟨none,.chk []⟩,
 ⟨none,.mov 109 (.t 12)⟩,
 ⟨none,.fad 105 9 2⟩,
 ⟨none,.load 106 105 1 false⟩,
 ⟨none,.fad 107 3 2⟩,
 ⟨none,.load 108 107 1 false⟩,
 ⟨none,.idx 110 16 (.t 108) (.t 109)⟩,
 ⟨none,.load 111 110 6 true⟩,
 ⟨none,.call (some 112) 228 [(.t 111)] true⟩,
 ⟨none,.lit 113 16 1 [.int .u64 0,.int .u64 0,.int .i64 0,.int .i64 0,.nil,.nil] [(0,(.t 112))]⟩,
 ⟨none,.app 114 16 80 (.t 106) (.t 113)⟩,
 ⟨none,.fad 115 9 2⟩,
 ⟨none,.store 115 1 (.t 114)⟩])))
 (.reg [⟨none,.mov 84 (.t 12)⟩,
 ⟨none,.bin 85 .add (.t 84) (.k (.int .i64 1))⟩,
 ⟨none,.mov 12 (.t 85)⟩]))
def r308L1:RC:=
 .seq (.seq (.reg [⟨none,.mov 41 (.t 8)⟩,
 ⟨none,.fad 42 3 2⟩,
 ⟨none,.load 43 42 1 false⟩,
 ⟨none,.len 44 (.t 43)⟩,
 ⟨none,.bin 45 .lss (.t 41) (.t 44)⟩])
 (.cond (.t 45)
 (.skip)
 (.exit 0)))
 (.seq (.block 1 (.seq (.reg [⟨none,.chk []⟩,
 ⟨none,.mov 50 (.t 8)⟩,
 ⟨none,.fad 48 3 2⟩,
 ⟨none,.load 49 48 1 false⟩,
 ⟨none,.idx 51 16 (.t 49) (.t 50)⟩,
 ⟨none,.fad 52 51 0⟩,
 ⟨none,.load 53 52 1 false⟩,
 ⟨none,.fad 54 4 1⟩,
 ⟨none,.load 55 54 1 false⟩,
 ⟨none,.bin 56 .leq (.t 53) (.t 55)⟩,
 ⟨none,.mov 57 (.t 56)⟩,
 ⟨some (57,true),.mov 62 (.t 8)⟩,
 ⟨some (57,true),.fad 58 4 0⟩,
 ⟨some (57,true),.load 59 58 1 false⟩,
 ⟨some (57,true),.fad 60 3 2⟩,
 ⟨some (57,true),.load 61 60 1 false⟩,
 ⟨some (57,true),.idx 63 16 (.t 61) (.t 62)⟩,
 ⟨some (57,true),.fad 64 63 1⟩,
 ⟨some (57,true),.load 65 64 1 false⟩,
 ⟨some (57,true),.bin 66 .leq (.t 59) (.t 65)⟩,
 ⟨none,.pick 67 (.t 57) (.t 66) (.k (.bool false))⟩])
 (.cond (.t 67)
 (.seq (.reg [⟨none,.load 68 3 3 true⟩,
 ⟨none,.call (some 69) 317 [(.t 68)] false⟩,
 ⟨none,.store 6 3 (.t 69)⟩,
 ⟨none,.mov 7 (.k (.bool false))⟩])
 (.ret))
 (.skip))))
 (.reg [⟨none,.mov 46 (.t 8)⟩,
 ⟨none,.bin 47 .add (.t 46) (.k (.int .i64 1))⟩,
 ⟨none,.mov 8 (.t 47)⟩]))
def r308:RF:=
 ⟨3,[.cell 6 3 true,.tmp 7],
 .seq (.reg [⟨none,.locb 3 (.t 0)⟩,
 ⟨none,.locb 4 (.t 1)⟩,
 ⟨none,.loc 6 [.int .i64 0,.int .i64 0,.nil]⟩,
 ⟨none,.mov 7 (.k (.bool false))⟩])
 (.seq (.seq (.reg [⟨none,.load 13 3 3 true⟩,
 ⟨none,.mov 14 (.t 2)⟩,
 ⟨none,.call (some 15) 316 [(.t 13),(.t 14)] false⟩,
 ⟨none,.not 16 (.t 15)⟩,
 ⟨none,.mov 17 (.t 16)⟩,
 ⟨some (17,false),.load 18 4 6 true⟩,
 ⟨some (17,false),.call (some 19) 204 [(.t 18)] false⟩,
 ⟨some (17,false),.not 20 (.t 19)⟩,
 ⟨none,.pick 21 (.t 17) (.k (.bool true)) (.t 20)⟩,
 ⟨none,.mov 22 (.t 21)⟩,
 ⟨some (22,false),.fad 23 4 2⟩,
 ⟨some (22,false),.load 24 23 1 false⟩,
 ⟨some (22,false),.bin 25 .neq (.t 24) (.k (.int .i64 1))⟩,
 ⟨none,.pick 26 (.t 22) (.k (.bool true)) (.t 25)⟩,
 ⟨none,.mov 27 (.t 26)⟩,
 ⟨some (27,false),.mov 28 (.t 2)⟩,
 ⟨some (27,false),.fad 29 4 3⟩,
 ⟨some (27,false),.load 30 29 1 false⟩,
 ⟨some (27,false),.bin 31 .leq (.t 28) (.t 30)⟩,
 ⟨none,.pick 32 (.t 27) (.k (.bool true)) (.t 31)⟩,
 ⟨none,.mov 33 (.t 32)⟩,
 ⟨some (33,false),.fad 34 3 2⟩,
 ⟨some (33,false),.load 35 34 1 false⟩,
 ⟨some (33,false),.len 36 (.t 35)⟩,
 ⟨some (33,false),.bin 37 .eql (.t 36) (.k (.int .i64 8))⟩,
 ⟨none,.pick 38 (.t 33) (.k (.bool true)) (.t 37)⟩])
 (.cond (.t 38)
 (.seq (.reg [⟨none,.load 39 3 3 true⟩,
 ⟨none,.call (some 40) 317 [(.t 39)] false⟩,
 ⟨none,.store 6 3 (.t 40)⟩,
 ⟨none,.mov 7 (.k (.bool false))⟩])
 (.ret))
 (.skip)))
 (.seq (.seq (.reg [⟨none,.mov 8 (.k (.int .i64 0))⟩])
 (.block 0 (.loop [2,3,4,6,8]
 r308L1)))
 (.seq (.reg [⟨none,.fad 70 3 0⟩,
 ⟨none,.load 71 70 1 false⟩,
 ⟨none,.mov 72 (.t 2)⟩,
 ⟨none,.build 73 [.int .i64 0,.int .i64 0,.nil] [(0,1,(.t 71)),(1,1,(.t 72))]⟩,
 ⟨none,.loc 9 [.int .i64 0,.int .i64 0,.nil]⟩,
 ⟨none,.store 9 3 (.t 73)⟩])
 (.seq (.reg [⟨none,.load 74 4 6 true⟩,
 ⟨none,.call (some 75) 228 [(.t 74)] false⟩,
 ⟨none,.loc 10 [.int .u64 0,.int .u64 0,.int .i64 0,.int .i64 0,.nil,.nil]⟩,
 ⟨none,.store 10 6 (.t 75)⟩])
 (.seq (.reg [⟨none,.fad 76 10 2⟩,
 ⟨none,.store 76 1 (.k (.int .i64 0))⟩])
 (.seq (.reg [⟨none,.mov 77 (.t 2)⟩,
 ⟨none,.fad 78 10 3⟩,
 ⟨none,.store 78 1 (.t 77)⟩])
 (.seq (.reg [⟨none,.mov 11 (.k (.bool false))⟩])
 (.seq (.seq (.reg [⟨none,.mov 12 (.k (.int .i64 0))⟩])
 (.block 2 (.loop [2,3,6,9,10,11,12]
 r308L0)))
 (.seq (.seq (.reg [⟨none,.mov 116 (.t 11)⟩,
 ⟨none,.not 117 (.t 116)⟩])
 (.cond (.t 117)
 (.reg [⟨none,.fad 118 9 2⟩,
 ⟨none,.load 119 118 1 false⟩,
 ⟨none,.load 120 10 6 true⟩,
 ⟨none,.lit 121 16 1 [.int .u64 0,.int .u64 0,.int .i64 0,.int .i64 0,.nil,.nil] [(0,(.t 120))]⟩,
 ⟨none,.app 122 16 80 (.t 119) (.t 121)⟩,
 ⟨none,.fad 123 9 2⟩,
 ⟨none,.store 123 1 (.t 122)⟩])
 (.skip)))
 (.seq (.reg [⟨none,.load 124 9 3 true⟩,
 ⟨none,.mov 125 (.t 2)⟩,
 ⟨none,.call (some 126) 318 [(.t 124),(.t 125)] false⟩,
 ⟨none,.store 6 3 (.t 126)⟩,
 ⟨none,.mov 7 (.k (.bool true))⟩])
 (.ret)))))))))))⟩
def r316:RF:=
 ⟨2,[.tmp 4],
 .seq (.reg [⟨none,.locb 2 (.t 0)⟩,
 ⟨none,.mov 4 (.k (.bool false))⟩])
 (.seq (.reg [⟨none,.load 5 2 3 true⟩,
 ⟨none,.call (some 6) 156 [(.t 5)] false⟩,
 ⟨none,.mov 7 (.t 6)⟩,
 ⟨some (7,true),.mov 8 (.t 1)⟩,
 ⟨some (7,true),.fad 9 2 1⟩,
 ⟨some (7,true),.load 10 9 1 false⟩,
 ⟨some (7,true),.bin 11 .add (.t 10) (.k (.int .i64 1))⟩,
 ⟨some (7,true),.call (some 12) 5 [(.t 8),(.t 11),(.k (.int .i64 1000000))] false⟩,
 ⟨none,.pick 13 (.t 7) (.t 12) (.k (.bool false))⟩,
 ⟨none,.mov 4 (.t 13)⟩])
 (.ret))⟩
def r317L0:RC:=
 .seq (.seq (.reg [⟨none,.mov 10 (.t 4)⟩,
 ⟨none,.fad 11 1 2⟩,
 ⟨none,.load 12 11 1 false⟩,
 ⟨none,.len 13 (.t 12)⟩,
 ⟨none,.bin 14 .lss (.t 10) (.t 13)⟩])
 (.cond (.t 14)
 (.skip)
 (.exit 0)))
 (.seq (.block 1 (.reg [⟨none,.chk []⟩,
 ⟨none,.mov 21 (.t 4)⟩,
 ⟨none,.fad 17 3 2⟩,
 ⟨none,.load 18 17 1 false⟩,
 ⟨none,.fad 19 1 2⟩,
 ⟨none,.load 20 19 1 false⟩,
 ⟨none,.idx 22 16 (.t 20) (.t 21)⟩,
 ⟨none,.load 23 22 6 true⟩,
 ⟨none,.call (some 24) 228 [(.t 23)] true⟩,
 ⟨none,.lit 25 16 1 [.int .u64 0,.int .u64 0,.int .i64 0,.int .i64 0,.nil,.nil] [(0,(.t 24))]⟩,
 ⟨none,.app 26 16 80 (.t 18) (.t 25)⟩,
 ⟨none,.fad 27 3 2⟩,
 ⟨none,.store 27 1 (.t 26)⟩]))
 (.reg [⟨none,.mov 15 (.t 4)⟩,
 ⟨none,.bin 16 .add (.t 15) (.k (.int .i64 1))⟩,
 ⟨none,.mov 4 (.t 16)⟩]))
def r317:RF:=
 ⟨1,[.cell 2 3 true],
 .seq (.reg [⟨none,.locb 1 (.t 0)⟩,
 ⟨none,.loc 2 [.int .i64 0,.int .i64 0,.nil]⟩])
 (.seq (.reg [⟨none,.fad 5 1 0⟩,
 ⟨none,.load 6 5 1 false⟩,
 ⟨none,.fad 7 1 1⟩,
 ⟨none,.load 8 7 1 false⟩,
 ⟨none,.build 9 [.int .i64 0,.int .i64 0,.nil] [(0,1,(.t 6)),(1,1,(.t 8))]⟩,
 ⟨none,.loc 3 [.int .i64 0,.int .i64 0,.nil]⟩,
 ⟨none,.store 3 3 (.t 9)⟩])
 (.seq (.seq (.reg [⟨none,.mov 4 (.k (.int .i64 0))⟩])
 (.block 0 (.loop [1,2,3,4]
 r317L0)))
 (.seq (.reg [⟨none,.load 28 3 3 true⟩,
 ⟨none,.store 2 3 (.t 28)⟩])
 (.ret))))⟩
def r318L0:RC:=
 .seq (.seq (.reg [⟨none,.mov 11 (.t 6)⟩,
 ⟨none,.fad 12 5 2⟩,
 ⟨none,.load 13 12 1 false⟩,
 ⟨none,.len 14 (.t 13)⟩,
 ⟨none,.bin 15 .lss (.t 11) (.t 14)⟩])
 (.cond (.t 15)
 (.skip)
 (.exit 0)))
 (.seq (.block 1 (.seq (.reg [⟨none,.fad 18 5 2⟩,
 ⟨none,.load 19 18 1 false⟩,
 ⟨none,.mov 20 (.t 6)⟩,
 ⟨none,.idx 21 16 (.t 19) (.t 20)⟩,
 ⟨none,.fad 22 21 2⟩,
 ⟨none,.load 23 22 1 false⟩,
 ⟨none,.bin 24 .eql (.t 23) (.k (.int .i64 0))⟩])
 (.cond (.t 24)
 (.reg [⟨none,.fad 25 5 2⟩,
 ⟨none,.load 26 25 1 false⟩,
 ⟨none,.mov 27 (.t 6)⟩,
 ⟨none,.mov 28 (.t 1)⟩,
 ⟨none,.idx 29 16 (.t 26) (.t 27)⟩,
 ⟨none,.fad 30 29 3⟩,
 ⟨none,.store 30 1 (.t 28)⟩])
 (.skip))))
 (.reg [⟨none,.mov 16 (.t 6)⟩,
 ⟨none,.bin 17 .add (.t 16) (.k (.int .i64 1))⟩,
 ⟨none,.mov 6 (.t 17)⟩]))
def r318:RF:=
 ⟨2,[.cell 4 3 true],
 .seq (.reg [⟨none,.locb 2 (.t 0)⟩,
 ⟨none,.loc 4 [.int .i64 0,.int .i64 0,.nil]⟩])
 (.seq (.reg [⟨none,.load 7 2 3 true⟩,
 ⟨none,.call (some 8) 317 [(.t 7)] false⟩,
 ⟨none,.loc 5 [.int .i64 0,.int .i64 0,.nil]⟩,
 ⟨none,.store 5 3 (.t 8)⟩])
 (.seq (.reg [⟨none,.mov 9 (.t 1)⟩,
 ⟨none,.fad 10 5 1⟩,
 ⟨none,.store 10 1 (.t 9)⟩])
 (.seq (.seq (.reg [⟨none,.mov 6 (.k (.int .i64 0))⟩])
 (.block 0 (.loop [1,4,5,6]
 r318L0)))
 (.seq (.reg [⟨none,.load 31 5 3 true⟩,
 ⟨none,.store 4 3 (.t 31)⟩])
 (.ret)))))⟩
def tS13:List (Nat×RF):=[(156,r156),(204,r204),(210,r210),(228,r228),(242,r242),(243,r243),(297,r297),(300,r300),(308,r308),(316,r316),(317,r317),(318,r318)]
end Go.Proofs.Yteagcdhkobeanaa.A
namespace Go.Proofs.Yteagcdhkobeanaa.A
open Go
def r3:RF:=
 ⟨1,[.tmp 2],
 .seq (.reg [⟨none,.locb 1 (.t 0)⟩,
 ⟨none,.mov 2 (.k (.bool false))⟩])
 (.seq (.reg [⟨none,.fad 3 1 1⟩,
 ⟨none,.load 4 3 1 false⟩,
 ⟨none,.call (some 5) 5 [(.t 4),(.k (.int .i64 0)),(.k (.int .i64 99))] false⟩,
 ⟨none,.mov 6 (.t 5)⟩,
 ⟨some (6,true),.fad 7 1 2⟩,
 ⟨some (6,true),.load 8 7 1 false⟩,
 ⟨some (6,true),.call (some 9) 5 [(.t 8),(.k (.int .i64 0)),(.k (.int .i64 99))] false⟩,
 ⟨none,.pick 10 (.t 6) (.t 9) (.k (.bool false))⟩,
 ⟨none,.mov 11 (.t 10)⟩,
 ⟨some (11,true),.fad 12 1 1⟩,
 ⟨some (11,true),.load 13 12 1 false⟩,
 ⟨some (11,true),.fad 14 1 2⟩,
 ⟨some (11,true),.load 15 14 1 false⟩,
 ⟨some (11,true),.bin 16 .neq (.t 13) (.t 15)⟩,
 ⟨none,.pick 17 (.t 11) (.t 16) (.k (.bool false))⟩,
 ⟨none,.mov 18 (.t 17)⟩,
 ⟨some (18,true),.fad 19 1 3⟩,
 ⟨some (18,true),.load 20 19 1 false⟩,
 ⟨some (18,true),.call (some 21) 5 [(.t 20),(.k (.int .i64 1)),(.k (.int .i64 999999))] false⟩,
 ⟨none,.pick 22 (.t 18) (.t 21) (.k (.bool false))⟩,
 ⟨none,.mov 23 (.t 22)⟩,
 ⟨some (23,true),.fad 24 1 4⟩,
 ⟨some (23,true),.load 25 24 1 false⟩,
 ⟨some (23,true),.call (some 26) 5 [(.t 25),(.k (.int .i64 0)),(.k (.int .i64 3))] false⟩,
 ⟨none,.pick 27 (.t 23) (.t 26) (.k (.bool false))⟩,
 ⟨none,.mov 2 (.t 27)⟩])
 (.ret))⟩
def r314:RF:=
 ⟨2,[.cell 4 3 true,.tmp 5],
 .seq (.reg [⟨none,.locb 2 (.t 0)⟩,
 ⟨none,.locb 3 (.t 1)⟩,
 ⟨none,.loc 4 [.int .i64 0,.int .i64 0,.nil]⟩,
 ⟨none,.mov 5 (.k (.bool false))⟩])
 (.seq (.seq (.reg [⟨none,.fad 8 2 0⟩,
 ⟨none,.load 9 8 1 false⟩,
 ⟨none,.fad 10 3 2⟩,
 ⟨none,.load 11 10 1 false⟩,
 ⟨none,.bin 12 .neq (.t 9) (.t 11)⟩])
 (.cond (.t 12)
 (.seq (.reg [⟨none,.load 13 2 3 true⟩,
 ⟨none,.call (some 14) 317 [(.t 13)] false⟩,
 ⟨none,.store 4 3 (.t 14)⟩,
 ⟨none,.mov 5 (.k (.bool false))⟩])
 (.ret))
 (.skip)))
 (.seq (.reg [⟨none,.mov 6 (.k (.bool false))⟩])
 (.seq (.reg [⟨none,.load 15 2 3 true⟩,
 ⟨none,.loc 7 [.int .i64 0,.int .i64 0,.nil]⟩,
 ⟨none,.store 7 3 (.t 15)⟩])
 (.seq (.seq (.reg [⟨none,.fad 16 3 0⟩,
 ⟨none,.load 17 16 1 false⟩])
 (.block 0 (.seq (.reg [⟨none,.bin 19 .eql (.t 17) (.k (.int .i64 0))⟩,
 ⟨none,.mov 18 (.t 19)⟩])
 (.cond (.t 18)
 (.reg [⟨none,.load 21 2 3 true⟩,
 ⟨none,.fad 22 3 1⟩,
 ⟨none,.load 23 22 1 false⟩,
 ⟨none,.fad 24 3 3⟩,
 ⟨none,.load 25 24 1 false⟩,
 ⟨none,.call (some 26) 300 [(.t 21),(.t 23),(.t 25)] false⟩,
 ⟨none,.mov 20 (.t 26)⟩,
 ⟨none,.ext 27 (.t 20) 0⟩,
 ⟨none,.ext 28 (.t 20) 1⟩,
 ⟨none,.store 7 3 (.t 27)⟩,
 ⟨none,.mov 6 (.t 28)⟩])
 (.seq (.reg [⟨none,.bin 30 .eql (.t 17) (.k (.int .i64 1))⟩,
 ⟨none,.mov 29 (.t 30)⟩])
 (.cond (.t 29)
 (.reg [⟨none,.load 32 2 3 true⟩,
 ⟨none,.fad 33 3 4⟩,
 ⟨none,.load 34 33 6 true⟩,
 ⟨none,.fad 35 3 3⟩,
 ⟨none,.load 36 35 1 false⟩,
 ⟨none,.call (some 37) 308 [(.t 32),(.t 34),(.t 36)] false⟩,
 ⟨none,.mov 31 (.t 37)⟩,
 ⟨none,.ext 38 (.t 31) 0⟩,
 ⟨none,.ext 39 (.t 31) 1⟩,
 ⟨none,.store 7 3 (.t 38)⟩,
 ⟨none,.mov 6 (.t 39)⟩])
 (.seq (.reg [⟨none,.bin 41 .eql (.t 17) (.k (.int .i64 2))⟩,
 ⟨none,.mov 40 (.t 41)⟩])
 (.cond (.t 40)
 (.reg [⟨none,.load 43 2 3 true⟩,
 ⟨none,.fad 44 3 1⟩,
 ⟨none,.load 45 44 1 false⟩,
 ⟨none,.fad 46 3 3⟩,
 ⟨none,.load 47 46 1 false⟩,
 ⟨none,.call (some 48) 297 [(.t 43),(.t 45),(.t 47)] false⟩,
 ⟨none,.mov 42 (.t 48)⟩,
 ⟨none,.ext 49 (.t 42) 0⟩,
 ⟨none,.ext 50 (.t 42) 1⟩,
 ⟨none,.store 7 3 (.t 49)⟩,
 ⟨none,.mov 6 (.t 50)⟩])
 (.skip)))))))))
 (.seq (.reg [⟨none,.load 51 7 3 true⟩,
 ⟨none,.call (some 52) 317 [(.t 51)] false⟩,
 ⟨none,.mov 53 (.t 6)⟩,
 ⟨none,.store 4 3 (.t 52)⟩,
 ⟨none,.mov 5 (.t 53)⟩])
 (.ret))))))⟩
def tS15:List (Nat×RF):=[(3,r3),(314,r314)]
end Go.Proofs.Yteagcdhkobeanaa.A
namespace Go.Proofs.Yteagcdhkobeanaa.A
open Go
def r313:RF:=
 ⟨2,[.tmp 4],
 .seq (.reg [⟨none,.locb 2 (.t 0)⟩,
 ⟨none,.locb 3 (.t 1)⟩,
 ⟨none,.mov 4 (.k (.bool false))⟩])
 (.seq (.reg [⟨none,.mov 5 (.k (.int .i64 1048576))⟩])
 (.seq (.reg [⟨none,.load 17 2 3 true⟩,
 ⟨none,.mov 18 (.t 5)⟩,
 ⟨none,.call (some 19) 154 [(.t 17),(.t 18)] false⟩,
 ⟨none,.mov 5 (.t 19)⟩])
 (.seq (.seq (.reg [⟨none,.mov 20 (.t 5)⟩,
 ⟨none,.bin 21 .lss (.t 20) (.k (.int .i64 0))⟩])
 (.cond (.t 21)
 (.seq (.reg [⟨none,.mov 4 (.k (.bool true))⟩])
 (.ret))
 (.skip)))
 (.seq (.reg [⟨none,.load 22 3 10 true⟩,
 ⟨none,.mov 23 (.t 5)⟩,
 ⟨none,.call (some 24) 82 [(.t 22),(.t 23)] false⟩,
 ⟨none,.mov 5 (.t 24)⟩])
 (.seq (.seq (.reg [⟨none,.mov 25 (.t 5)⟩,
 ⟨none,.bin 26 .lss (.t 25) (.k (.int .i64 0))⟩])
 (.cond (.t 26)
 (.seq (.reg [⟨none,.mov 4 (.k (.bool true))⟩])
 (.ret))
 (.skip)))
 (.seq (.reg [⟨none,.chk [6]⟩,
 ⟨none,.loc 6 [.int .i64 0,.int .i64 0,.nil]⟩,
 ⟨none,.load 28 2 3 true⟩,
 ⟨none,.load 30 3 10 true⟩,
 ⟨none,.call (some 29) 155 [(.t 28)] true⟩,
 ⟨none,.call (some 31) 83 [(.t 30)] true⟩,
 ⟨none,.call (some 32) 314 [(.t 29),(.t 31)] true⟩,
 ⟨none,.mov 27 (.t 32)⟩,
 ⟨none,.ext 33 (.t 27) 0⟩,
 ⟨none,.ext 34 (.t 27) 1⟩,
 ⟨none,.store 6 3 (.t 33)⟩,
 ⟨none,.mov 7 (.t 34)⟩])
 (.seq (.reg [⟨none,.load 35 2 3 true⟩,
 ⟨none,.call (some 36) 155 [(.t 35)] false⟩,
 ⟨none,.loc 8 [.int .i64 0,.int .i64 0,.nil]⟩,
 ⟨none,.store 8 3 (.t 36)⟩])
 (.seq (.reg [⟨none,.load 37 3 10 true⟩,
 ⟨none,.call (some 38) 83 [(.t 37)] false⟩,
 ⟨none,.loc 9 [.int .i64 0,.int .u64 0,.int .i64 0,.int .i64 0,.int .u64 0,.int .u64 0,.int .i64 0,.int .i64 0,.nil,.nil]⟩,
 ⟨none,.store 9 10 (.t 38)⟩])
 (.seq (.reg [⟨none,.load 40 8 3 true⟩,
 ⟨none,.load 41 9 10 true⟩,
 ⟨none,.call (some 42) 315 [(.t 40),(.t 41)] false⟩,
 ⟨none,.mov 39 (.t 42)⟩,
 ⟨none,.ext 43 (.t 39) 0⟩,
 ⟨none,.ext 44 (.t 39) 1⟩,
 ⟨none,.loc 10 [.int .i64 0,.int .i64 0,.nil]⟩,
 ⟨none,.store 10 3 (.t 43)⟩,
 ⟨none,.mov 11 (.t 44)⟩])
 (.seq (.seq (.reg [⟨none,.load 45 10 3 true⟩,
 ⟨none,.load 46 6 3 true⟩,
 ⟨none,.call (some 47) 158 [(.t 45),(.t 46)] false⟩,
 ⟨none,.not 48 (.t 47)⟩,
 ⟨none,.mov 49 (.t 48)⟩,
 ⟨some (49,false),.mov 50 (.t 11)⟩,
 ⟨some (49,false),.mov 51 (.t 7)⟩,
 ⟨some (49,false),.beq 52 true (.t 50) (.t 51)⟩,
 ⟨none,.pick 53 (.t 49) (.k (.bool true)) (.t 52)⟩])
 (.cond (.t 53)
 (.seq (.reg [⟨none,.mov 4 (.k (.bool false))⟩])
 (.ret))
 (.skip)))
 (.seq (.seq (.reg [⟨none,.chk []⟩,
 ⟨none,.load 54 8 3 true⟩,
 ⟨none,.load 55 2 3 true⟩,
 ⟨none,.call (some 56) 155 [(.t 55)] true⟩,
 ⟨none,.call (some 57) 158 [(.t 54),(.t 56)] true⟩,
 ⟨none,.not 58 (.t 57)⟩])
 (.cond (.t 58)
 (.seq (.reg [⟨none,.mov 4 (.k (.bool false))⟩])
 (.ret))
 (.skip)))
 (.seq (.seq (.reg [⟨none,.chk []⟩,
 ⟨none,.load 59 9 10 true⟩,
 ⟨none,.load 60 3 10 true⟩,
 ⟨none,.call (some 61) 83 [(.t 60)] true⟩,
 ⟨none,.call (some 62) 87 [(.t 59),(.t 61)] true⟩,
 ⟨none,.not 63 (.t 62)⟩])
 (.cond (.t 63)
 (.seq (.reg [⟨none,.mov 4 (.k (.bool false))⟩])
 (.ret))
 (.skip)))
 (.seq (.reg [⟨none,.mov 12 (.k (.int .i64 1))⟩])
 (.seq (.reg [⟨none,.load 64 8 3 true⟩,
 ⟨none,.mov 65 (.t 12)⟩,
 ⟨none,.call (some 66) 191 [(.t 64),(.t 65)] false⟩,
 ⟨none,.mov 12 (.t 66)⟩])
 (.seq (.reg [⟨none,.load 67 9 10 true⟩,
 ⟨none,.mov 68 (.t 12)⟩,
 ⟨none,.call (some 69) 305 [(.t 67),(.t 68)] false⟩,
 ⟨none,.mov 12 (.t 69)⟩])
 (.seq (.seq (.reg [⟨none,.mov 70 (.t 12)⟩,
 ⟨none,.bin 71 .lss (.t 70) (.k (.int .i64 0))⟩,
 ⟨none,.mov 72 (.t 71)⟩,
 ⟨some (72,false),.load 73 10 3 true⟩,
 ⟨some (72,false),.load 74 6 3 true⟩,
 ⟨some (72,false),.call (some 75) 158 [(.t 73),(.t 74)] false⟩,
 ⟨some (72,false),.not 76 (.t 75)⟩,
 ⟨none,.pick 77 (.t 72) (.k (.bool true)) (.t 76)⟩,
 ⟨none,.mov 78 (.t 77)⟩,
 ⟨some (78,false),.mov 79 (.t 11)⟩,
 ⟨some (78,false),.mov 80 (.t 7)⟩,
 ⟨some (78,false),.beq 81 true (.t 79) (.t 80)⟩,
 ⟨none,.pick 82 (.t 78) (.k (.bool true)) (.t 81)⟩])
 (.cond (.t 82)
 (.seq (.reg [⟨none,.mov 4 (.k (.bool false))⟩])
 (.ret))
 (.skip)))
 (.seq (.reg [⟨none,.mov 13 (.k (.int .i64 1))⟩])
 (.seq (.reg [⟨none,.load 83 10 3 true⟩,
 ⟨none,.mov 84 (.t 13)⟩,
 ⟨none,.call (some 85) 191 [(.t 83),(.t 84)] false⟩,
 ⟨none,.mov 13 (.t 85)⟩])
 (.seq (.reg [⟨none,.mov 14 (.k (.int .i64 1))⟩])
 (.seq (.reg [⟨none,.load 86 10 3 true⟩,
 ⟨none,.mov 87 (.t 14)⟩,
 ⟨none,.call (some 88) 292 [(.t 86),(.t 87)] false⟩,
 ⟨none,.mov 14 (.t 88)⟩])
 (.seq (.seq (.reg [⟨none,.mov 89 (.t 14)⟩,
 ⟨none,.bin 90 .lss (.t 89) (.k (.int .i64 0))⟩])
 (.cond (.t 90)
 (.seq (.reg [⟨none,.mov 4 (.k (.bool false))⟩])
 (.ret))
 (.skip)))
 (.seq (.seq (.reg [⟨none,.mov 91 (.t 14)⟩,
 ⟨none,.mov 92 (.t 13)⟩,
 ⟨none,.bin 93 .neq (.t 91) (.t 92)⟩])
 (.cond (.t 93)
 (.seq (.reg [⟨none,.mov 4 (.k (.bool false))⟩])
 (.ret))
 (.skip)))
 (.seq (.reg [⟨none,.chk [15]⟩,
 ⟨none,.loc 15 [.int .i64 0,.int .i64 0,.nil]⟩,
 ⟨none,.load 95 2 3 true⟩,
 ⟨none,.load 97 3 10 true⟩,
 ⟨none,.call (some 96) 155 [(.t 95)] true⟩,
 ⟨none,.call (some 98) 83 [(.t 97)] true⟩,
 ⟨none,.call (some 99) 315 [(.t 96),(.t 98)] true⟩,
 ⟨none,.mov 94 (.t 99)⟩,
 ⟨none,.ext 100 (.t 94) 0⟩,
 ⟨none,.ext 101 (.t 94) 1⟩,
 ⟨none,.store 15 3 (.t 100)⟩,
 ⟨none,.mov 16 (.t 101)⟩])
 (.seq (.seq (.reg [⟨none,.load 102 15 3 true⟩,
 ⟨none,.load 103 6 3 true⟩,
 ⟨none,.call (some 104) 158 [(.t 102),(.t 103)] false⟩,
 ⟨none,.not 105 (.t 104)⟩,
 ⟨none,.mov 106 (.t 105)⟩,
 ⟨some (106,false),.mov 107 (.t 16)⟩,
 ⟨some (106,false),.mov 108 (.t 7)⟩,
 ⟨some (106,false),.beq 109 true (.t 107) (.t 108)⟩,
 ⟨none,.pick 110 (.t 106) (.k (.bool true)) (.t 109)⟩])
 (.cond (.t 110)
 (.seq (.reg [⟨none,.mov 4 (.k (.bool false))⟩])
 (.ret))
 (.skip)))
 (.seq (.reg [⟨none,.mov 14 (.k (.int .i64 1))⟩])
 (.seq (.reg [⟨none,.load 111 10 3 true⟩,
 ⟨none,.mov 112 (.t 14)⟩,
 ⟨none,.call (some 113) 292 [(.t 111),(.t 112)] false⟩,
 ⟨none,.mov 14 (.t 113)⟩])
 (.seq (.seq (.reg [⟨none,.mov 114 (.t 14)⟩,
 ⟨none,.bin 115 .lss (.t 114) (.k (.int .i64 0))⟩])
 (.cond (.t 115)
 (.seq (.reg [⟨none,.mov 4 (.k (.bool false))⟩])
 (.ret))
 (.skip)))
 (.seq (.seq (.reg [⟨none,.mov 116 (.t 14)⟩,
 ⟨none,.mov 117 (.t 13)⟩,
 ⟨none,.bin 118 .neq (.t 116) (.t 117)⟩])
 (.cond (.t 118)
 (.seq (.reg [⟨none,.mov 4 (.k (.bool false))⟩])
 (.ret))
 (.skip)))
 (.seq (.reg [⟨none,.mov 4 (.k (.bool true))⟩])
 (.ret))))))))))))))))))))))))))))))⟩
def tWHandTake:List (Nat×RF):=[(313,r313)]
end Go.Proofs.Yteagcdhkobeanaa.A
namespace Go.Proofs.Yteagcdhkobeanaa.A
open Go
set_option linter.unusedSimpArgs false
set_option linter.unusedVariables false
abbrev Has (F:Nat→Option RF) (t:List (Nat×RF)):Prop:=AllT (fun x=>F x.1=some x.2) t
def inR (x lo hi:Int):Bool:=decide (lo≤x)&&decide (x≤hi)
section
variable {F:Nat→Option RF} {Z:CallF}
theorem isGroupId_run (hI11:Has F tI11) (n:Int) (h:Heap):
 call F Z 7 [.c (.int .i64 n)] h=some (.c (.bool (inR n 0 99)),h):=by
 rw[call_run F Z (hI11.lk (g:=7) rfl) _ _ rfl]
 simp only[rn,RO.dst,lk,drop,Nat.reduceBEq,Nat.reduceAdd,Nat.reduceLeDiff,↓reduceIte,reduceCtorEq]
 (repeat' ((first | (rw[gF_if];split) | (rw[condC_if];split) | (rw[pickR_if];split))<;>(rename_i hh;(try simp only[Bool.not_eq_true,decide_eq_true_eq] at hh);simp only[hh,rn,RO.dst,lk,drop,Nat.reduceBEq,Nat.reduceAdd,Nat.reduceLeDiff,↓reduceIte,reduceCtorEq])))<;>simp[inR, *]
theorem l01In_run (hS:Has F tS01d) (n lo hi:Int) (h:Heap):
 call F Z 5 [.c (.int .i64 n),.c (.int .i64 lo),.c (.int .i64 hi)] h=some (.c (.bool (inR n lo hi)),h):=by
 rw[call_run F Z (hS.lk (g:=5) rfl) _ _ rfl]
 simp only[rn,RO.dst,lk,drop,Nat.reduceBEq,Nat.reduceAdd,Nat.reduceLeDiff,↓reduceIte,reduceCtorEq]
 (repeat' ((first | (rw[gF_if];split) | (rw[condC_if];split) | (rw[pickR_if];split))<;>(rename_i hh;(try simp only[Bool.not_eq_true,decide_eq_true_eq] at hh);simp only[hh,rn,RO.dst,lk,drop,Nat.reduceBEq,Nat.reduceAdd,Nat.reduceLeDiff,↓reduceIte,reduceCtorEq])))<;>simp[inR, *]
end
end Go.Proofs.Yteagcdhkobeanaa.A
namespace Go.Proofs.Yteagcdhkobeanaa.A
open Go
def r2:RF:=
 ⟨1,[.cell 2 5 true],
 .seq (.reg [⟨none,.locb 1 (.t 0)⟩,
 ⟨none,.loc 2 [.int .u64 0,.int .i64 0,.int .i64 0,.int .i64 0,.int .i64 0]⟩])
 (.seq (.reg [⟨none,.loc 3 [.int .u64 0,.int .i64 0,.int .i64 0,.int .i64 0,.int .i64 0]⟩])
 (.seq (.reg [⟨none,.fad 4 1 0⟩,
 ⟨none,.load 5 4 1 false⟩,
 ⟨none,.fad 6 3 0⟩,
 ⟨none,.store 6 1 (.t 5)⟩])
 (.seq (.reg [⟨none,.fad 7 1 1⟩,
 ⟨none,.load 8 7 1 false⟩,
 ⟨none,.fad 9 3 1⟩,
 ⟨none,.store 9 1 (.t 8)⟩])
 (.seq (.reg [⟨none,.fad 10 1 2⟩,
 ⟨none,.load 11 10 1 false⟩,
 ⟨none,.fad 12 3 2⟩,
 ⟨none,.store 12 1 (.t 11)⟩])
 (.seq (.reg [⟨none,.fad 13 1 3⟩,
 ⟨none,.load 14 13 1 false⟩,
 ⟨none,.fad 15 3 3⟩,
 ⟨none,.store 15 1 (.t 14)⟩])
 (.seq (.reg [⟨none,.fad 16 1 4⟩,
 ⟨none,.load 17 16 1 false⟩,
 ⟨none,.fad 18 3 4⟩,
 ⟨none,.store 18 1 (.t 17)⟩])
 (.seq (.reg [⟨none,.load 19 3 5 true⟩,
 ⟨none,.store 2 5 (.t 19)⟩])
 (.ret))))))))⟩
def tLHand:List (Nat×RF):=[(2,r2)]
end Go.Proofs.Yteagcdhkobeanaa.A
namespace Go.Proofs.Yteagcdhkobeanaa.A
open Go
set_option linter.unusedSimpArgs false
set_option linter.unusedVariables false
section
variable {F:Nat→Option RF} {Z:CallF}
def handOk (lo from_ to epoch phase:Int):Bool:=inR from_ 0 99&&inR to 0 99&&(from_ !=to)&&inR epoch 1 999999&&inR phase 0 3
end
end Go.Proofs.Yteagcdhkobeanaa.A
namespace Go.Proofs.Yteagcdhkobeanaa.A
open Go
set_option linter.unusedSimpArgs false
set_option linter.unusedVariables false
theorem wrapI (z:Int) (h1: -9223372036854775808≤z) (h2:z≤9223372036854775807):IntKind.i64.wrap z=z:=by
 show (if (true&&decide (z%18446744073709551616≥9223372036854775808))=true then z%18446744073709551616-18446744073709551616 else z%18446744073709551616)=z
 simp only[Bool.true_and,decide_eq_true_eq]
 split<;>omega
theorem wrapU (z:Int) (h1:0≤z) (h2:z≤18446744073709551615):IntKind.u64.wrap z=z:=by
 show (if (false&&decide (z%18446744073709551616≥9223372036854775808))=true then z%18446744073709551616-18446744073709551616 else z%18446744073709551616)=z
 rw[if_neg (by simp)]
 omega
theorem wrapS (i:Nat) (h:i<9223372036854775807):IntKind.i64.wrap ((i:Int)+1)=((i+1:Nat):Int):=by rw[wrapI _ (by omega) (by omega)];rfl
abbrev Rel (α:Type):=Heap→List Cell→α→List Nat→Prop
structure RelOk {α:Type} (R:Rel α):Prop where
 lt: ∀{h cs a fp},R h cs a fp→ ∀id,id∈fp→id<h.next
 mv: ∀{h h' cs a fp},R h cs a fp→h.next≤h'.next→(∀id,id∈fp→h'.get id=h.get id)→R h' cs a fp
def Fl {α:Type} (enc:α→List Cell):Rel α:=fun _ cs a fp=>cs=enc a∧fp=[]
theorem Fl.ok {α:Type} (enc:α→List Cell):RelOk (Fl enc) where
 lt:=by rintro h cs a fp ⟨rfl,rfl⟩ id hid;cases hid
 mv:=fun e _ _=>e
def AllR {α:Type} (R:Rel α) (h:Heap):List (List Cell)→List α→List (List Nat)→Prop
 | [],[],[]=>True
 | r::rs,a::bs,f::fs=>R h r a f∧AllR R h rs bs fs
 | _,_,_=>False
def Cell.sid:Cell→Nat
 | .sl _ id _ _=>id
 | _=>0
def SlR {α:Type} (tag:Nat) (R:Rel α) (h:Heap) (x:Cell) (xs:List α) (fp:List Nat):Prop:=
 xs.length≤maxLen∧((x= .nil∧xs=[]∧fp=[])∨ ∃id rows fps,x= .sl tag id 0 xs.length∧h.get id=some rows∧id<h.next∧fp=id::fps.flatten∧AllR R h rows xs fps)
section
variable {α:Type} {R:Rel α} {h h':Heap}
theorem AllR.len: ∀{rows:List (List Cell)} {xs:List α} {fps:List (List Nat)},AllR R h rows xs fps→rows.length=xs.length
 | [],[],[],_=>rfl
 | _::_,_::_,_::_,⟨_,w⟩=>by simp only[List.length_cons,AllR.len w]
 | [],[],_::_,w=>w.elim
 | [],_::_,_,w=>w.elim
 | _::_,[],_,w=>w.elim
 | _::_,_::_,[],w=>w.elim
theorem AllR.at: ∀{rows:List (List Cell)} {xs:List α} {fps:List (List Nat)},AllR R h rows xs fps→ ∀(i:Nat) (hi:i<xs.length),∃r f,rows[i]? =some r∧fps[i]? =some f∧R h r xs[i] f
 | [],[],[],_=>fun i hi=>absurd hi (Nat.not_lt_zero _)
 | r::_,_::_,f::_,⟨w1,w⟩=>fun i hi=>by
   cases i with
   | zero=>exact ⟨r,f,rfl,rfl,w1⟩
   | succ i=>exact AllR.at w i (by simpa using hi)
 | [],[],_::_,w=>w.elim
 | [],_::_,_,w=>w.elim
 | _::_,[],_,w=>w.elim
 | _::_,_::_,[],w=>w.elim
theorem AllR.mv (ok:RelOk R): ∀{rows:List (List Cell)} {xs:List α} {fps:List (List Nat)},AllR R h rows xs fps→h.next≤h'.next→(∀id,id∈fps.flatten→h'.get id=h.get id)→AllR R h' rows xs fps
 | [],[],[],_=>fun _ _=>trivial
 | _::_,_::_,_::_,⟨w1,w⟩=>fun hn hg=>⟨ok.mv w1 hn fun id hid=>hg id (by simp[hid]),w.mv ok hn fun id hid=>hg id (by rw[List.flatten_cons];exact List.mem_append_right _ hid)⟩
 | [],[],_::_,w=>w.elim
 | [],_::_,_,w=>w.elim
 | _::_,[],_,w=>w.elim
 | _::_,_::_,[],w=>w.elim
theorem AllR.lt (ok:RelOk R): ∀{rows:List (List Cell)} {xs:List α} {fps:List (List Nat)},AllR R h rows xs fps→ ∀id,id∈fps.flatten→id<h.next
 | [],[],[],_=>fun id hid=>by simp at hid
 | _::_,_::_,_::_,⟨w1,w⟩=>fun id hid=>by
   rw[List.flatten_cons] at hid
   rcases List.mem_append.1 hid with hid | hid
   ·exact ok.lt w1 id hid
   ·exact w.lt ok id hid
 | [],[],_::_,w=>w.elim
 | [],_::_,_,w=>w.elim
 | _::_,[],_,w=>w.elim
 | _::_,_::_,[],w=>w.elim
theorem AllR.flat {enc:α→List Cell}: ∀{rows:List (List Cell)} {xs:List α} {fps:List (List Nat)},AllR (Fl enc) h rows xs fps→rows=xs.map enc∧fps.flatten=[]
 | [],[],[],_=>⟨rfl,rfl⟩
 | _::_,_::_,_::_,⟨⟨rfl,rfl⟩,w⟩=>⟨by rw[w.flat.1];rfl,by rw[List.flatten_cons,w.flat.2];rfl⟩
 | [],[],_::_,w=>w.elim
 | [],_::_,_,w=>w.elim
 | _::_,[],_,w=>w.elim
 | _::_,_::_,[],w=>w.elim
theorem AllR.ofFlat {enc:α→List Cell}: ∀(xs:List α),AllR (Fl enc) h (xs.map enc) xs (xs.map fun _=>[])
 | []=>trivial
 | _::r=>⟨⟨rfl,rfl⟩,AllR.ofFlat r⟩
variable {tag:Nat} {x:Cell} {xs:List α} {fp:List Nat}
theorem SlR.le (w:SlR tag R h x xs fp):xs.length≤maxLen:=w.1
theorem SlR.le2 (w:SlR tag R h x xs fp):xs.length≤9223372036854775807:=by have:=w.1;unfold maxLen at this;omega
theorem SlR.lt (ok:RelOk R) (w:SlR tag R h x xs fp): ∀id,id∈fp→id<h.next:=by
 rcases w with ⟨_,⟨_,_,rfl⟩ | ⟨id,rows,fps,_,_,h1,rfl,h2⟩⟩
 ·intro id hid;cases hid
 ·intro i hi
  rcases List.mem_cons.1 hi with rfl | hi
  ·exact h1
  ·exact h2.lt ok i hi
theorem SlR.mv (ok:RelOk R) (w:SlR tag R h x xs fp) (hn:h.next≤h'.next) (hg: ∀id,id∈fp→h'.get id=h.get id):SlR tag R h' x xs fp:=by
 rcases w with ⟨hl,⟨h1,h2,rfl⟩ | ⟨id,rows,fps,h1,h2,h3,rfl,h4⟩⟩
 ·exact ⟨hl,.inl ⟨h1,h2,rfl⟩⟩
 ·exact ⟨hl,.inr ⟨id,rows,fps,h1,(hg id (by simp)).trans h2,Nat.lt_of_lt_of_le h3 hn,rfl,h4.mv ok hn fun i hi=>hg i (by simp[hi])⟩⟩
theorem SlR.mono (ok:RelOk R) (w:SlR tag R h x xs fp) (hx:HExt h h'):SlR tag R h' x xs fp:=w.mv ok hx.1 fun id hid=>hx.2 id (w.lt ok id hid)
theorem RelOk.mono (ok:RelOk R) {cs:List Cell} {a:α} (w:R h cs a fp) (hx:HExt h h'):R h' cs a fp:=ok.mv w hx.1 fun id hid=>hx.2 id (ok.lt w id hid)
theorem SlR.len (w:SlR tag R h x xs fp):lenR (some x)=some (.int .i64 (xs.length:Nat)):=by
 rcases w with ⟨_,⟨rfl,rfl,_⟩ | ⟨id,rows,fps,rfl,_⟩⟩<;>rfl
theorem SlR.idx (w:SlR tag R h x xs fp) {i:Nat} (hi:i<xs.length):idxR tag (some x) (some (i:Int))=some (.ptr x.sid i 0):=by
 rcases w with ⟨_,⟨rfl,rfl,_⟩ | ⟨id,rows,fps,rfl,_⟩⟩
 ·exact absurd hi (Nat.not_lt_zero _)
 ·rw[idxR_s,if_pos (by omega)];simp[Cell.sid]
theorem SlR.row (w:SlR tag R h x xs fp) {i:Nat} (hi:i<xs.length): ∃r f,rowOf h x.sid i=some r∧R h r xs[i] f∧ ∀id,id∈f→id∈fp:=by
 rcases w with ⟨_,⟨rfl,rfl,_⟩ | ⟨id,rows,fps,rfl,h1,_,rfl,h2⟩⟩
 ·exact absurd hi (Nat.not_lt_zero _)
 ·obtain ⟨r,f,q1,q2,q3⟩:=h2.at i hi
  refine ⟨r,f,by simp[rowOf,Cell.sid,h1,q1],q3,fun id hid=>List.mem_cons_of_mem _ (List.mem_flatten.2 ⟨f,List.mem_of_getElem? q2,hid⟩)⟩
theorem SlR.flat {enc:α→List Cell} (w:SlR tag (Fl enc) h x xs fp):(x= .nil∧xs=[]∧fp=[])∨x= .sl tag x.sid 0 xs.length∧h.get x.sid=some (xs.map enc)∧x.sid<h.next∧fp=[x.sid]:=by
 rcases w with ⟨_,h0 | ⟨id,rows,fps,rfl,h1,h2,rfl,h3⟩⟩
 ·exact .inl h0
 ·obtain ⟨rfl,h4⟩:=h3.flat
  exact .inr ⟨rfl,h1,h2,by rw[h4];rfl⟩
theorem SlR.ofFlat {enc:α→List Cell} (hl:xs.length≤maxLen) {id:Nat} (h1:h.get id=some (xs.map enc)) (h2:id<h.next):SlR tag (Fl enc) h (.sl tag id 0 xs.length) xs [id]:=
 ⟨hl,.inr ⟨id,_,_,rfl,h1,h2,by simp,AllR.ofFlat xs⟩⟩
theorem SlR.nil (tag:Nat) (R:Rel α) (h:Heap):SlR tag R h .nil [] []:=⟨Nat.zero_le _,.inl ⟨rfl,rfl,rfl⟩⟩
theorem SlR.load {enc:α→List Cell} (w:SlR tag (Fl enc) h x xs fp) {i:Nat} (hi:i<xs.length) (j n:Nat):loadP h x.sid i j n=cut? (enc xs[i]) j n:=by
 obtain ⟨r,f,h1,⟨rfl,_⟩,_⟩:=w.row hi
 simp[loadP,h1]
theorem SlR.loadD {enc:α→List Cell} (w:SlR tag (Fl enc) h x xs fp) (d:α) {i:Nat} (hi:i<xs.length) (j n:Nat):loadP h x.sid i j n=cut? (enc (xs[i]?.getD d)) j n:=by
 rw[w.load hi,List.getElem?_eq_getElem hi];rfl
theorem SlR.rows {enc:α→List Cell} (w:SlR tag (Fl enc) h x xs fp):rowsOf h x=some (xs.map enc):=by
 rcases w.flat with ⟨rfl,rfl,_⟩ | ⟨h1,h2,_⟩
 ·rfl
 ·rw[h1];simp only[rowsOf];rw[h2];simp[List.take_of_length_le]
theorem SlR.isTag (w:SlR tag R h x xs fp):A.isTag tag x=true:=by
 rcases w with ⟨_,⟨rfl,rfl,_⟩ | ⟨id,rows,fps,rfl,_⟩⟩<;>simp[A.isTag]
theorem AllR.ofWf {A:α→Prop} {W:List Cell→Prop} (hr: ∀r,W r→ ∃a f,R h r a f∧A a): ∀(rows:List (List Cell)),(∀r,r∈rows→W r)→ ∃xs fps,AllR R h rows xs fps∧ ∀a,a∈xs→A a
 | [],_=>⟨[],[],trivial,fun _ h=>nomatch h⟩
 | r::rs,w=>by
   obtain ⟨a,f,h1,h2⟩:=hr r (w r (by simp))
   obtain ⟨bs,fs,h3,h4⟩:=AllR.ofWf hr rs fun r hr=>w r (by simp[hr])
   exact ⟨a::bs,f::fs,⟨h1,h3⟩,fun b hb=>by (rcases List.mem_cons.1 hb with rfl | hb);exact h2;exact h4 b hb⟩
theorem SlR.ofWf {A:α→Prop} {n sz:Nat} {e:Sh} (hr: ∀r,r.length=sz∧Wf h n e r→ ∃a f,R h r a f∧A a) (w:Wf h (n+1) (.slice tag sz e) [x]): ∃xs fp,SlR tag R h x xs fp∧ ∀a,a∈xs→A a:=by
 rcases w with w | ⟨id,rows,h1,h2,h3,h4,h5⟩
 ·cases w;exact ⟨[],[],SlR.nil _ _ _,fun _ h=>nomatch h⟩
 ·cases h1
  obtain ⟨xs,fps,q1,q2⟩:=AllR.ofWf hr rows h5
  exact ⟨xs,_,⟨q1.len▸h4,.inr ⟨id,rows,fps,by rw[q1.len],h3,h2,rfl,q1⟩⟩,q2⟩
end
theorem push_put (h:Heap) (a b:List (List Cell)):(h.push a).put h.next b=h.push b:=by
 simp only[Heap.push,Heap.put]
 congr 1;funext i;split<;>rfl
theorem push_get (h:Heap) (a:List (List Cell)):(h.push a).get h.next=some a:=by simp[Heap.push]
theorem push_next (h:Heap) (a:List (List Cell)):(h.push a).next=h.next+1:=rfl
theorem push_floor (h:Heap) (a:List (List Cell)):(h.push a).floor=h.floor:=rfl
theorem put_put (h:Heap) (id:Nat) (a b:List (List Cell)):(h.put id a).put id b=h.put id b:=by
 simp only[Heap.put]
 congr 1;funext i;split<;>rfl
theorem storeP_push {h:Heap} {rows:List (List Cell)} (hf:h.floor≤h.next) {i:Nat} {old new:List Cell} (h1:rows[i]? =some old) (h2:new.length=old.length):storeP (h.push rows) h.next i 0 new=some (h.push (rows.set i new)):=by
 simp only[storeP,push_floor,push_get]
 rw[if_pos hf]
 simp only[Option.bind_some,h1,splice?,List.take_zero,List.nil_append,Nat.zero_add]
 rw[if_pos (by omega),h2,List.drop_length]
 simp only[List.append_nil,Option.bind_some,push_put]
theorem storeP_at {h:Heap} {id:Nat} {rows:List (List Cell)} (hf:h.floor≤id) (hr:h.get id=some rows) {i j:Nat} {old new r:List Cell} (h1:rows[i]? =some old) (h2:splice? old j new=some r):storeP h id i j new=some (h.put id (rows.set i r)):=by
 simp only[storeP]
 rw[if_pos hf,hr]
 simp only[Option.bind_some,h1,h2]
theorem HExt.fl {h h':Heap} (hx:HExt h h') (hf:h'.floor=h.floor) (h0:h.floor≤h.next):h'.floor≤h'.next:=by rw[hf];exact Nat.le_trans h0 hx.1
structure On (h h':Heap):Prop where
 ext:HExt h h'
 fl:h'.floor=h.floor
theorem On.refl (h:Heap):On h h:=⟨HExt.refl h,rfl⟩
theorem On.trans {a b c:Heap} (p:On a b) (q:On b c):On a c:=⟨p.ext.trans q.ext,q.fl.trans p.fl⟩
theorem On.push (h:Heap) (rows:List (List Cell)):On h (h.push rows):=⟨HExt.push h rows,rfl⟩
theorem On.le {h h':Heap} (o:On h h') (hf:h.floor≤h.next):h'.floor≤h'.next:=o.ext.fl o.fl hf
structure Fre (h:Heap) (fp:List Nat):Prop where
 lo: ∀id,id∈fp→h.next≤id
 nd:fp.Nodup
theorem Fre.one (h:Heap):Fre h [h.next]:=⟨fun id hid=>by simp at hid;omega,by simp⟩
theorem Fre.nil (h:Heap):Fre h []:=⟨fun id hid=>(nomatch hid),List.nodup_nil⟩
theorem RelOk.on {α:Type} {R:Rel α} (ok:RelOk R) {h h':Heap} {cs:List Cell} {a:α} {fp:List Nat} (w:R h cs a fp) (o:On h h'):R h' cs a fp:=ok.mono w o.ext
theorem SlR.on {α:Type} {R:Rel α} {tag:Nat} {h h':Heap} {x:Cell} {xs:List α} {fp:List Nat} (w:SlR tag R h x xs fp) (ok:RelOk R) (o:On h h'):SlR tag R h' x xs fp:=w.mono ok o.ext
def fillR {α:Type} (f:α→List Cell) (z:List Cell) (xs:List α) (i:Nat):List (List Cell):=(xs.take i).map f++List.replicate (xs.length-i) z
theorem fillR_0 {α:Type} (f:α→List Cell) (z:List Cell) (xs:List α):fillR f z xs 0=List.replicate xs.length z:=by simp[fillR]
theorem fillR_n {α:Type} (f:α→List Cell) (z:List Cell) (xs:List α):fillR f z xs xs.length=xs.map f:=by simp[fillR]
theorem fillR_get {α:Type} (f:α→List Cell) (z:List Cell) (xs:List α) {i:Nat} (hi:i<xs.length):(fillR f z xs i)[i]? =some z:=by
 simp only[fillR]
 rw[List.getElem?_append_right (by simp;omega)]
 rw[List.getElem?_replicate,if_pos]
 simp only[List.length_map,List.length_take];omega
theorem fillR_set {α:Type} (f:α→List Cell) (z:List Cell) (xs:List α) {i:Nat} (hi:i<xs.length):(fillR f z xs i).set i (f xs[i])=fillR f z xs (i+1):=by
 simp only[fillR]
 rw[List.set_append_right _ _ (by simp;omega),show i-((xs.take i).map f).length=0 from by simp;omega,show xs.length-i=(xs.length-(i+1))+1 from by omega,List.replicate_succ,List.set_cons_zero,
  show xs.take (i+1)=xs.take i++[xs[i]] from by rw[List.take_add_one,List.getElem?_eq_getElem hi];rfl,List.map_append,List.append_assoc]
 rfl
def putM (h:Heap) (id:Nat) (rows:List (List Cell)) (i:Nat):Option (List Cell)→Option Heap
 | some r=>some (h.put id (rows.set i r))
 | none=>none
theorem putM_s (h:Heap) (id:Nat) (rows:List (List Cell)) (i:Nat) (r:List Cell):putM h id rows i (some r)=some (h.put id (rows.set i r)):=rfl
theorem storeP_put {h:Heap} {id:Nat} (hf:h.floor≤id) {rows:List (List Cell)} {i:Nat} (hi:i<rows.length) (old new:List Cell) (j:Nat):storeP (h.put id (rows.set i old)) id i j new=putM h id rows i (splice? old j new):=by
 have hf':(h.put id (rows.set i old)).floor≤id:=hf
 have hg:(h.put id (rows.set i old)).get id=some (rows.set i old):=by simp[Heap.put]
 simp only[storeP]
 rw[if_pos hf',hg]
 simp only[Option.bind_some,List.getElem?_set_self hi]
 cases splice? old j new with
 | none=>rfl
 | some r=>simp only[Option.bind_some,List.set_set,put_put,putM]
theorem put_same {h:Heap} {id:Nat} {rows:List (List Cell)} (hr:h.get id=some rows):h.put id rows=h:=by
 obtain ⟨a,b,g⟩:=h
 simp only[Heap.put]
 congr 1;funext i;split
 ·rename_i he;subst he;exact hr.symm
 ·rfl
def mixR {α:Type} (f:α→List Cell) (ms xs:List α) (i:Nat):List (List Cell):=(ms.take i).map f++(xs.drop i).map f
theorem mixR_0 {α:Type} (f:α→List Cell) (ms xs:List α):mixR f ms xs 0=xs.map f:=by simp[mixR]
theorem mixR_n {α:Type} (f:α→List Cell) {ms xs:List α} (hl:ms.length=xs.length):mixR f ms xs xs.length=ms.map f:=by simp[mixR,←hl]
theorem mixR_len {α:Type} (f:α→List Cell) {ms xs:List α} (hl:ms.length=xs.length) (i:Nat):(mixR f ms xs i).length=xs.length:=by simp[mixR];omega
theorem mixR_split {α:Type} (f:α→List Cell) {ms xs:List α} (hl:ms.length=xs.length) {i:Nat} (hi:i<xs.length) (c:List Cell):(mixR f ms xs i).set i c=(ms.take i).map f++c::(xs.drop (i+1)).map f:=by
 simp only[mixR]
 rw[List.set_append_right _ _ (by simp;omega),show i-((ms.take i).map f).length=0 from by simp;omega,List.drop_eq_getElem_cons hi,List.map_cons,List.set_cons_zero]
theorem mixR_cur {α:Type} (f:α→List Cell) {ms xs:List α} (hl:ms.length=xs.length) {i:Nat} (hi:i<xs.length):(mixR f ms xs i).set i (f xs[i])=mixR f ms xs i:=by
 rw[mixR_split f hl hi,mixR,List.drop_eq_getElem_cons hi];rfl
theorem mixR_set {α:Type} (f:α→List Cell) {ms xs:List α} (hl:ms.length=xs.length) {i:Nat} (hi:i<xs.length):(mixR f ms xs i).set i (f (ms[i]'(by omega)))=mixR f ms xs (i+1):=by
 have hi':i<ms.length:=by omega
 rw[mixR_split f hl hi,mixR,show ms.take (i+1)=ms.take i++[ms[i]] from by rw[List.take_add_one,List.getElem?_eq_getElem hi'];rfl,List.map_append,List.append_assoc]
 rfl
structure Mk (h h':Heap) (fp:List Nat):Prop where
 next:h'.next=h.next
 fl:h'.floor=h.floor
 get: ∀id,id∉fp→h'.get id=h.get id
theorem Mk.refl (h:Heap) (fp:List Nat):Mk h h fp:=⟨rfl,rfl,fun _ _=>rfl⟩
theorem Mk.put (h:Heap) (id:Nat) (rows:List (List Cell)):Mk h (h.put id rows) [id]:=⟨rfl,rfl,fun k hk=>by simp only[Heap.put];rw[if_neg (by simpa using hk)]⟩
theorem RelOk.mk' {α:Type} {R:Rel α} (ok:RelOk R) {h h':Heap} {cs:List Cell} {a:α} {fp fq:List Nat} (w:R h cs a fp) (m:Mk h h' fq) (hd: ∀id,id∈fp→id∉fq):R h' cs a fp:=ok.mv w (by rw[m.next];exact Nat.le_refl _) fun id hid=>m.get id (hd id hid)
theorem Mk.trans {a b c:Heap} {p q:List Nat} (m:Mk a b p) (n:Mk b c q):Mk a c (p++q):=⟨n.next.trans m.next,n.fl.trans m.fl,fun id hid=>by
 rw[List.mem_append,not_or] at hid
 rw[n.get id hid.2,m.get id hid.1]⟩
theorem SlR.mk {α:Type} {R:Rel α} {tag:Nat} {h h':Heap} {x:Cell} {xs:List α} {fp fq:List Nat} (w:SlR tag R h x xs fp) (ok:RelOk R) (m:Mk h h' fq) (hd: ∀id,id∈fp→id∉fq):SlR tag R h' x xs fp:=w.mv ok (by rw[m.next];exact Nat.le_refl _) fun id hid=>m.get id (hd id hid)
theorem wfU {x:Int} (h:(Lit.int .u64 x).wf=true):0≤x∧x≤18446744073709551615:=by
 simp only[Lit.wf,Bool.and_eq_true,decide_eq_true_eq] at h;exact h
theorem wfI {x:Int} (h:(Lit.int .i64 x).wf=true): -9223372036854775808≤x∧x≤9223372036854775807:=by
 simp only[Lit.wf,Bool.and_eq_true,decide_eq_true_eq] at h;exact h
theorem wrapI1 (z:Int) (h1:0≤z) (h2:z≤9200000000000000000):IntKind.i64.wrap (z+1)=z+1:=wrapI _ (by omega) (by omega)
theorem wrapU1 (z:Int) (h1:0≤z) (h2:z≤9200000000000000000):IntKind.u64.wrap z=z:=wrapU _ (by omega) (by omega)
def Turn (r next:Option (Ex×St)) (p:Bool) (Q:St→Prop):Prop:=(p=true∧r=next)∨(p=false∧ ∃s,r=some (.ret,s)∧Q s)
section
variable {F:Nat→Option RF} {Z:CallF} {live:List Nat} {b:RC}
theorem loop_allN (n:Nat) (st:Nat→St) (P:Nat→Bool) (Q:St→Prop) (hs: ∀i,i<n→Turn (loop F Z live b (st i)) (loop F Z live b (st (i+1))) (P i) Q):
 Turn (loop F Z live b (st 0)) (loop F Z live b (st n)) ((List.range n).all P) Q:=by
 induction n with
 | zero=>exact .inl ⟨rfl,rfl⟩
 | succ n ih=>
   have hl:(List.range (n+1)).all P=((List.range n).all P&&P n):=by rw[List.range_succ,List.all_append];simp
   rcases ih fun i hi=>hs i (by omega) with ⟨h1,h2⟩ | ⟨h1,h2⟩
   ·rcases hs n (by omega) with ⟨h3,h4⟩ | ⟨h3,s,h4,h5⟩
    ·exact .inl ⟨by rw[hl,h1,h3];rfl,h2.trans h4⟩
    ·exact .inr ⟨by rw[hl,h1,h3];rfl,s,h2.trans h4,h5⟩
   ·exact .inr ⟨by rw[hl,h1];rfl,h2⟩
theorem loop_all {α:Type} (xs:List α) (st:Nat→St) (P:α→Bool) (Q:St→Prop) (hs: ∀i (hi:i<xs.length),Turn (loop F Z live b (st i)) (loop F Z live b (st (i+1))) (P xs[i]) Q):
 Turn (loop F Z live b (st 0)) (loop F Z live b (st xs.length)) (xs.all P) Q:=by
 have he:xs.all P=(List.range xs.length).all (fun i=>(xs[i]?).all P):=by
  rw[Bool.eq_iff_iff,List.all_eq_true,List.all_eq_true]
  constructor
  ·intro h i hi
   have hi':i<xs.length:=by simpa using hi
   rw[List.getElem?_eq_getElem hi']
   exact h _ (List.getElem_mem hi')
  ·intro h a ha
   obtain ⟨i,hi,rfl⟩:=List.mem_iff_getElem.1 ha
   have:=h i (by simpa using hi)
   rwa [List.getElem?_eq_getElem hi] at this
 rw[he]
 exact loop_allN _ _ _ _ fun i hi=>by rw[List.getElem?_eq_getElem hi];exact hs i hi
theorem all_same {α:Type} [DecidableEq α] {xs ys:List α} (he:xs.length=ys.length):(List.range xs.length).all (fun i=>decide (xs[i]? =ys[i]?))=decide (xs=ys):=by
 rw[Bool.eq_iff_iff,List.all_eq_true,decide_eq_true_eq]
 constructor
 ·intro hall
  apply List.ext_getElem?
  intro i
  by_cases hi:i<xs.length
  ·simpa using hall i (by simpa using hi)
  ·rw[List.getElem?_eq_none (by omega),List.getElem?_eq_none (by omega)]
 ·rintro rfl i _;simp
theorem loop_goes (n:Nat) (I:Nat→St→Prop) (hs: ∀i s,i<n→I i s→ ∃s',I (i+1) s'∧loop F Z live b s=loop F Z live b s') {s:St} (h0:I 0 s): ∃s',I n s'∧loop F Z live b s=loop F Z live b s':=by
 induction n with
 | zero=>exact ⟨s,h0,rfl⟩
 | succ n ih=>
   obtain ⟨s1,h1,h2⟩:=ih fun i s hi=>hs i s (by omega)
   obtain ⟨s2,h3,h4⟩:=hs n s1 (by omega) h1
   exact ⟨s2,h3,h2.trans h4⟩
theorem loop_goesF (n:Nat) (st:Nat→St) (hs: ∀i,i<n→loop F Z live b (st i)=loop F Z live b (st (i+1))):loop F Z live b (st 0)=loop F Z live b (st n):=by
 induction n with
 | zero=>rfl
 | succ n ih=>exact (ih fun i hi=>hs i (by omega)).trans (hs n (by omega))
end
end Go.Proofs.Yteagcdhkobeanaa.A
namespace Go.Proofs.Yteagcdhkobeanaa.A
open Go
set_option linter.unusedSimpArgs false
set_option linter.unusedVariables false
structure Hand where
 lo:Int
 from_:Int
 to:Int
 epoch:Int
 phase:Int
 deriving DecidableEq
namespace Hand
def enc (t:Hand):List Cell:=[.int .u64 t.lo,.int .i64 t.from_,.int .i64 t.to,.int .i64 t.epoch,.int .i64 t.phase]
theorem len (t:Hand):t.enc.length=5:=rfl
theorem tak (t:Hand):t.enc.take 5=t.enc:=rfl
def none_:Hand:=⟨0,0,0,0,0⟩
structure Ok (t:Hand):Prop where
 lo:0≤t.lo∧t.lo≤18446744073709551615
 from_: -9223372036854775808≤t.from_∧t.from_≤9223372036854775807
 to: -9223372036854775808≤t.to∧t.to≤9223372036854775807
 epoch: -9223372036854775808≤t.epoch∧t.epoch≤9223372036854775807
 phase: -9223372036854775808≤t.phase∧t.phase≤9223372036854775807
end Hand
end Go.Proofs.Yteagcdhkobeanaa.A
namespace Go.Proofs.Yteagcdhkobeanaa.A
open Go
set_option linter.unusedSimpArgs false
set_option linter.unusedVariables false
section
variable {F:Nat→Option RF} {Z:CallF} {h:Heap} {x y:Cell} {xs ys:List Hand} {fp fq:List Nat}
def Hand.zero:List Cell:=[.int .u64 0,.int .i64 0,.int .i64 0,.int .i64 0,.int .i64 0]
end
end Go.Proofs.Yteagcdhkobeanaa.A
namespace Go.Proofs.Yteagcdhkobeanaa.A
open Go
set_option linter.unusedSimpArgs false
set_option linter.unusedVariables false
structure Account where
 id:Int
 bal:Int
 hold:Int
 due:Int
 tx:Int
 deriving DecidableEq
namespace Account
def enc (t:Account):List Cell:=[.int .u64 t.id,.int .u64 t.bal,.int .u64 t.hold,.int .u64 t.due,.int .i64 t.tx]
theorem len (t:Account):t.enc.length=5:=rfl
theorem tak (t:Account):t.enc.take 5=t.enc:=rfl
def none_:Account:=⟨0,0,0,0,0⟩
structure Ok (t:Account):Prop where
 id:0≤t.id∧t.id≤18446744073709551615
 bal:0≤t.bal∧t.bal≤18446744073709551615
 hold:0≤t.hold∧t.hold≤18446744073709551615
 due:0≤t.due∧t.due≤18446744073709551615
 tx: -9223372036854775808≤t.tx∧t.tx≤9223372036854775807
end Account
theorem Wf.isAccount {h:Heap} {n:Nat} {cs:List Cell} (w:Wf h (n+2) shAccount cs): ∃t:Account,cs=t.enc∧t.Ok:=by
 obtain ⟨_,_,rfl,_,⟨id0,rfl,h0⟩,_,_,rfl,_,⟨bal0,rfl,h1⟩,_,_,rfl,_,⟨hold0,rfl,h2⟩,_,_,rfl,_,⟨due0,rfl,h3⟩,_,_,rfl,_,⟨tx0,rfl,h4⟩,rfl⟩:=w
 exact ⟨⟨id0,bal0,hold0,due0,tx0⟩,rfl,⟨wfU h0,wfU h1,wfU h2,wfU h3,wfI h4⟩⟩
theorem Wf.isAccountS {h:Heap} {n:Nat} {x:Cell} (w:Wf h (n+3) shAccountS [x]): ∃xs fp,SlR 12 (Fl Account.enc) h x xs fp∧ ∀t,t∈xs→t.Ok:=
 SlR.ofWf (fun r hr=>by obtain ⟨t,rfl,ht⟩:=Wf.isAccount hr.2;exact ⟨t,[],⟨rfl,rfl⟩,ht⟩) w
theorem Wf.isAccountS' {h:Heap} {n:Nat} {a:List Cell} (w:Wf h (n+3) shAccountS a): ∃x xs fp,a=[x]∧SlR 12 (Fl Account.enc) h x xs fp∧ ∀t,t∈xs→t.Ok:=by
 have hx: ∃x,a=[x]:=by rcases w with w | ⟨_,_,w,_⟩<;>exact ⟨_,w⟩
 obtain ⟨x,rfl⟩:=hx
 obtain ⟨xs,fp,v,ok⟩:=Wf.isAccountS w
 exact ⟨x,xs,fp,rfl,v,ok⟩
end Go.Proofs.Yteagcdhkobeanaa.A
namespace Go.Proofs.Yteagcdhkobeanaa.A
open Go
set_option linter.unusedSimpArgs false
set_option linter.unusedVariables false
section
variable {F:Nat→Option RF} {Z:CallF} {h:Heap} {x y:Cell} {xs ys:List Account} {fp fq:List Nat}
def Account.zero:List Cell:=[.int .u64 0,.int .u64 0,.int .u64 0,.int .u64 0,.int .i64 0]
theorem toAccount_run (hL:Has F tLAccount) (p:Account) (h:Heap):call F Z 141 [.agg p.enc] h=some (.agg p.enc,h):=by
 rw[call_run F Z (hL.lk (g:=141) rfl) _ _ rfl]
 simp only[Account.enc,rn,RO.dst,lk,drop,Nat.reduceBEq,Nat.reduceAdd,Nat.reduceLeDiff,↓reduceIte,reduceCtorEq]
set_option maxHeartbeats 1000000 in
theorem eqAccount_run (hL:Has F tLAccount) (p q:Account) (h:Heap):call F Z 142 [.agg p.enc,.agg q.enc] h=some (.c (.bool (decide (p=q))),h):=by
 rw[call_run F Z (hL.lk (g:=142) rfl) _ _ rfl]
 obtain ⟨id1,bal1,hold1,due1,tx1⟩:=p
 obtain ⟨id2,bal2,hold2,due2,tx2⟩:=q
 simp only[Account.enc,rn,RO.dst,lk,drop,Nat.reduceBEq,Nat.reduceAdd,Nat.reduceLeDiff,↓reduceIte,reduceCtorEq]
 (repeat' ((first | (rw[gF_if];split) | (rw[condC_if];split) | (rw[pickR_if];split))<;>(rename_i hh;(try simp only[Bool.not_eq_true,decide_eq_true_eq] at hh);simp only[hh,rn,RO.dst,lk,drop,Nat.reduceBEq,Nat.reduceAdd,Nat.reduceLeDiff,↓reduceIte,reduceCtorEq])))<;>refine fin_bool ?_<;>simp_all<;>(try (intros;omega))
theorem szAccountS_run (hL:Has F tLAccount) (w:SlR 12 (Fl Account.enc) h x xs fp) (left:Int) (h1:0≤left) (h2:left≤1048576):call F Z 136 [.c x,.c (.int .i64 left)] h=some (.c (.int .i64 (if left-xs.length<0 then -1 else left-xs.length)),h):=by
 have:=w.le2
 rw[call_run F Z (hL.lk (g:=136) rfl) _ _ rfl]
 simp only[rn,RO.dst,lk,drop,Nat.reduceBEq,Nat.reduceAdd,Nat.reduceLeDiff,↓reduceIte,reduceCtorEq,w.len,wrapI (left-xs.length) (by omega) (by omega)]
 (repeat' ((first | (rw[gF_if];split) | (rw[condC_if];split) | (rw[pickR_if];split))<;>(rename_i hh;(try simp only[Bool.not_eq_true,decide_eq_true_eq] at hh);simp only[hh,rn,RO.dst,lk,drop,Nat.reduceBEq,Nat.reduceAdd,Nat.reduceLeDiff,↓reduceIte,reduceCtorEq])))<;>simp_all
theorem szAccountS_c (hL:Has F tLAccount) (w:SlR 12 (Fl Account.enc) h x xs fp) (left:Int) (h1:0≤left) (h2:left≤1048576): ∃r,call F Z 136 [.c x,.c (.int .i64 left)] h=some (.c (.int .i64 r),h)∧r≤left∧(0≤r→xs.length≤1048576):=
 ⟨_,szAccountS_run hL w left h1 h2,by split<;>omega,by split<;>omega⟩
theorem toAccountS_run (hL:Has F tLAccount) (hf:h.floor≤h.next) (w:SlR 12 (Fl Account.enc) h x xs fp) (hn:xs.length≤1048576):call F Z 137 [.c x] h=some (.c (.sl 11 h.next 0 xs.length),h.push (xs.map Account.enc)):=by
 rw[call_run F Z (hL.lk (g:=137) rfl) _ _ rfl]
 simp only[rn,RO.dst,lk,drop,Nat.reduceBEq,Nat.reduceAdd,Nat.reduceLeDiff,↓reduceIte,reduceCtorEq,w.len]
 rw[if_pos (by omega)]
 simp only[rn,RO.dst,lk,drop,Nat.reduceBEq,Nat.reduceAdd,Nat.reduceLeDiff,↓reduceIte,reduceCtorEq,Int.toNat_natCast]
 have key:loop F Z [0,3,4] r137L0 ⟨[(0,.c x),(3,.c (.sl 11 h.next 0 xs.length)),(4,.c (.int .i64 (0:Nat)))],[],[],h.push (fillR Account.enc Account.zero xs 0)⟩=loop F Z [0,3,4] r137L0 ⟨[(0,.c x),(3,.c (.sl 11 h.next 0 xs.length)),(4,.c (.int .i64 (xs.length:Nat)))],[],[],h.push (fillR Account.enc Account.zero xs xs.length)⟩:=
  loop_goesF xs.length (fun i=>⟨[(0,.c x),(3,.c (.sl 11 h.next 0 xs.length)),(4,.c (.int .i64 (i:Nat)))],[],[],h.push (fillR Account.enc Account.zero xs i)⟩) fun i hi=>by
   have w':=w.mono (Fl.ok _) (HExt.push h (fillR Account.enc Account.zero xs i))
   have hlt:(i:Int)<xs.length:=by omega
   have h0:(0:Int)≤i:=by omega
   rw[loop_run]
   simp only[r137L0,rn,RO.dst,lk,drop,Nat.reduceBEq,Nat.reduceAdd,Nat.reduceLeDiff,↓reduceIte,reduceCtorEq,w.len,hlt,w.idx hi,w'.load hi,Account.len,Account.tak,toAccount_run hL,h0,and_self,Int.toNat_natCast,storeP_push hf (fillR_get Account.enc Account.zero xs hi) (Account.len xs[i]),wrapS i (by omega)]
   rw[←fillR_set Account.enc Account.zero xs hi]
 rw[fillR_0] at key
 rw[fillR_n] at key
 rw[show ((0:Nat):Int)=0 from rfl] at key
 simp only[Account.zero] at key
 rw[key,loop_run]
 have hlt: ¬(xs.length:Int)<xs.length:=by omega
 simp only[r137L0,rn,RO.dst,lk,drop,Nat.reduceBEq,Nat.reduceAdd,Nat.reduceLeDiff,↓reduceIte,reduceCtorEq,w.len,hlt]
theorem toAccountS_c (hL:Has F tLAccount) (hf:h.floor≤h.next) (w:SlR 12 (Fl Account.enc) h x xs fp) (hn:xs.length≤1048576): ∃y h' fq,call F Z 137 [.c x] h=some (.c y,h')∧On h h'∧SlR 11 (Fl Account.enc) h' y xs fq∧Fre h fq:=
 ⟨_,_,_,toAccountS_run hL hf w hn,On.push _ _,SlR.ofFlat w.le (push_get _ _) (by rw[push_next];omega),Fre.one h⟩
theorem eqAccountS_run (hL:Has F tLAccount) (w:SlR 11 (Fl Account.enc) h x xs fp) (v:SlR 11 (Fl Account.enc) h y ys fq):call F Z 139 [.c x,.c y] h=some (.c (.bool (decide (xs=ys))),h):=by
 have hw:=w.le2
 have hv:=v.le2
 rw[call_run F Z (hL.lk (g:=139) rfl) _ _ rfl]
 simp only[rn,RO.dst,lk,drop,Nat.reduceBEq,Nat.reduceAdd,Nat.reduceLeDiff,↓reduceIte,reduceCtorEq,w.len,v.len]
 rw[condC_if]
 split
 ·rename_i hne
  have:xs≠ys:=by rintro rfl;simp at hne
  simp only[rn,RO.dst,lk,drop,Nat.reduceBEq,Nat.reduceAdd,Nat.reduceLeDiff,↓reduceIte,reduceCtorEq,this]
 ·rename_i he
  have he:xs.length=ys.length:=by simp at he;omega
  simp only[rn,RO.dst,lk,drop,Nat.reduceBEq,Nat.reduceAdd,Nat.reduceLeDiff,↓reduceIte,reduceCtorEq]
  have key:=loop_allN (F:=F) (Z:=Z) (live:=[0,1,5]) (b:=r139L0) xs.length (fun i=>⟨[(0,.c x),(1,.c y),(5,.c (.int .i64 (i:Nat)))],[],[],h⟩) (fun i=>decide (xs[i]? =ys[i]?)) (fun s=>lk s.env 4=some (.c (.bool false))∧s.hp=h) fun i hi=>by
   have hi':i<ys.length:=by omega
   have hlt:(i:Int)<xs.length:=by omega
   rw[loop_run]
   simp only[r139L0,rn,RO.dst,lk,drop,Nat.reduceBEq,Nat.reduceAdd,Nat.reduceLeDiff,↓reduceIte,reduceCtorEq,w.len,hlt,w.idx hi,v.idx hi',w.load hi,v.load hi',Account.len,Account.tak,eqAccount_run hL,wrapS i (by omega)]
   rw[List.getElem?_eq_getElem hi,List.getElem?_eq_getElem hi']
   (repeat' ((first | (rw[gF_if];split) | (rw[condC_if];split) | (rw[pickR_if];split))<;>(rename_i hh;(try simp only[Bool.not_eq_true,decide_eq_true_eq] at hh);simp only[hh,rn,RO.dst,lk,drop,Nat.reduceBEq,Nat.reduceAdd,Nat.reduceLeDiff,↓reduceIte,reduceCtorEq,wrapS i (by omega)])))
   ·exact .inr ⟨by simp_all,_,rfl,rfl,rfl⟩
   ·exact .inl ⟨by simp_all,rfl⟩
  rw[all_same he] at key
  rcases key with ⟨k1,k2⟩ | ⟨k1,s,k2,k3,k4⟩
  ·simp only[show ((0:Nat):Int)=0 from rfl] at k2
   rw[k2,loop_run]
   have hlt: ¬(xs.length:Int)<xs.length:=by omega
   simp only[r139L0,rn,RO.dst,lk,drop,Nat.reduceBEq,Nat.reduceAdd,Nat.reduceLeDiff,↓reduceIte,reduceCtorEq,w.len,hlt,k1]
  ·simp only[show ((0:Nat):Int)=0 from rfl] at k2
   rw[k2]
   simp only[rn,RO.dst,lk,drop,Nat.reduceBEq,Nat.reduceAdd,Nat.reduceLeDiff,↓reduceIte,reduceCtorEq,k3,k4,k1]
def Account.mk_ (k:Int):Account:=⟨k,k+1,k+1+1,k+1+1+1,k+1+1+1+1⟩
def Account.marks (n:Nat) (k:Int):List Account:=(List.range n).map fun i:Nat=>Account.mk_ (k+5*(i:Int))
theorem Account.marks_len (n:Nat) (k:Int):(Account.marks n k).length=n:=by simp[Account.marks]
set_option maxHeartbeats 1000000 in
theorem markAccountS_run (hL:Has F tLAccount) (w:SlR 11 (Fl Account.enc) h x xs fp) (hlo: ∀id,id∈fp→h.floor≤id) (k:Int) (h1:0≤k) (h2:k+5*xs.length≤9200000000000000000):
 ∃h',call F Z 261 [.c x,.c (.int .i64 k)] h=some (.c (.int .i64 (k+5*xs.length)),h')∧Mk h h' fp∧SlR 11 (Fl Account.enc) h' x (Account.marks xs.length k) fp:=by
 have hle:=w.le2
 have hlm:=Account.marks_len xs.length k
 rw[call_run F Z (hL.lk (g:=261) rfl) _ _ rfl]
 simp only[rn,RO.dst,lk,drop,Nat.reduceBEq,Nat.reduceAdd,Nat.reduceLeDiff,↓reduceIte,reduceCtorEq]
 rcases w.flat with ⟨rfl,rfl,rfl⟩ | ⟨hx,hg,hn,rfl⟩
 ·rw[loop_run]
  simp only[r261L0,rn,RO.dst,lk,drop,Nat.reduceBEq,Nat.reduceAdd,Nat.reduceLeDiff,↓reduceIte,reduceCtorEq,show ¬((0:Int)<0) from by omega]
  exact ⟨h,by simp,Mk.refl _ _,by simpa[Account.marks] using w⟩
 ·have hfl:h.floor≤x.sid:=hlo _ (by simp)
  have key:loop F Z [0,1,5] r261L0 ⟨[(0,.c x),(1,.c (.int .i64 (k+5*(0:Nat)))),(5,.c (.int .i64 (0:Nat)))],[],[],h.put x.sid (mixR Account.enc (Account.marks xs.length k) xs 0)⟩=loop F Z [0,1,5] r261L0 ⟨[(0,.c x),(1,.c (.int .i64 (k+5*(xs.length:Nat)))),(5,.c (.int .i64 (xs.length:Nat)))],[],[],h.put x.sid (mixR Account.enc (Account.marks xs.length k) xs xs.length)⟩:=
   loop_goesF xs.length (fun i=>⟨[(0,.c x),(1,.c (.int .i64 (k+5*(i:Nat)))),(5,.c (.int .i64 (i:Nat)))],[],[],h.put x.sid (mixR Account.enc (Account.marks xs.length k) xs i)⟩) fun i hi=>by
    have hlt:(i:Int)<xs.length:=by omega
    have hi2:i<(mixR Account.enc (Account.marks xs.length k) xs i).length:=by rw[mixR_len _ hlm];exact hi
    have hms:(Account.marks xs.length k)[i]'(by omega)=Account.mk_ (k+5*i):=by simp[Account.marks]
    have hset:=mixR_set Account.enc hlm hi
    rw[hms] at hset
    have hput:=storeP_put (h:=h) hfl hi2
    rw[←mixR_cur Account.enc hlm hi,←hset,loop_run]
    simp (disch:=omega) only[r261L0,rn,RO.dst,lk,drop,Nat.reduceBEq,Nat.reduceAdd,Nat.reduceLeDiff,↓reduceIte,reduceCtorEq,w.len,hlt,w.idx hi,hput,putM_s,wrapI1,wrapU1,Account.enc,Int.reduceEq,Account.mk_]
    rw[show k+5*((i:Nat):Int)+1+1+1+1+1=k+5*((i+1:Nat):Int) from by omega,show ((i:Nat):Int)+1=((i+1:Nat):Int) from rfl]
  rw[mixR_0,put_same hg,mixR_n _ hlm] at key
  simp only[show ((0:Nat):Int)=0 from rfl,Int.mul_zero,Int.add_zero] at key
  rw[key,loop_run]
  have hlt: ¬(xs.length:Int)<xs.length:=by omega
  simp only[r261L0,rn,RO.dst,lk,drop,Nat.reduceBEq,Nat.reduceAdd,Nat.reduceLeDiff,↓reduceIte,reduceCtorEq,w.len,hlt]
  refine ⟨_,rfl,Mk.put _ _ _,?_⟩
  have:=SlR.ofFlat (tag:=11) (h:=h.put x.sid ((Account.marks xs.length k).map Account.enc)) (enc:=Account.enc) (xs:=Account.marks xs.length k) (id:=x.sid) (by rw[hlm];exact w.le) (by simp[Heap.put]) hn
  rw[hlm,←hx] at this
  exact this
set_option maxHeartbeats 1000000 in
theorem heldAccountS_run (hL:Has F tLAccount) {n:Nat} {k:Int} (w:SlR 11 (Fl Account.enc) h x (Account.marks n k) fp) (h1:0≤k) (h2:k+5*n≤9200000000000000000):
 call F Z 262 [.c x,.c (.int .i64 k)] h=some (.c (.int .i64 (k+5*n)),h):=by
 have hle:=w.le2
 have hwl:=w.len
 rw[Account.marks_len] at hle hwl
 rw[call_run F Z (hL.lk (g:=262) rfl) _ _ rfl]
 simp only[rn,RO.dst,lk,drop,Nat.reduceBEq,Nat.reduceAdd,Nat.reduceLeDiff,↓reduceIte,reduceCtorEq]
 have key:loop F Z [0,1,5] r262L0 ⟨[(0,.c x),(1,.c (.int .i64 (k+5*(0:Nat)))),(5,.c (.int .i64 (0:Nat)))],[],[],h⟩=loop F Z [0,1,5] r262L0 ⟨[(0,.c x),(1,.c (.int .i64 (k+5*(n:Nat)))),(5,.c (.int .i64 (n:Nat)))],[],[],h⟩:=
  loop_goesF n (fun i=>⟨[(0,.c x),(1,.c (.int .i64 (k+5*(i:Nat)))),(5,.c (.int .i64 (i:Nat)))],[],[],h⟩) fun i hi0=>by
   have hi:i<(Account.marks n k).length:=by rw[Account.marks_len];exact hi0
   have hlt:(i:Int)<n:=by omega
   have hms:(Account.marks n k)[i]=Account.mk_ (k+5*i):=by simp[Account.marks]
   have hld:=w.load hi
   rw[hms] at hld
   rw[loop_run]
   simp (disch:=omega) only[r262L0,rn,RO.dst,lk,drop,Nat.reduceBEq,Nat.reduceAdd,Nat.reduceLeDiff,↓reduceIte,reduceCtorEq,hwl,hlt,w.idx hi,hld,wrapI1,wrapU1,Account.enc,Account.mk_,Int.reduceEq]
   rw[show k+5*((i:Nat):Int)+1+1+1+1+1=k+5*((i+1:Nat):Int) from by omega,show ((i:Nat):Int)+1=((i+1:Nat):Int) from rfl]
 simp only[show ((0:Nat):Int)=0 from rfl,Int.mul_zero,Int.add_zero] at key
 rw[key,loop_run]
 have hlt: ¬(n:Int)<n:=by omega
 simp only[r262L0,rn,RO.dst,lk,drop,Nat.reduceBEq,Nat.reduceAdd,Nat.reduceLeDiff,↓reduceIte,reduceCtorEq,hwl,hlt]
end
end Go.Proofs.Yteagcdhkobeanaa.A
namespace Go.Proofs.Yteagcdhkobeanaa.A
open Go
set_option linter.unusedSimpArgs false
set_option linter.unusedVariables false
structure Acc (tag:Nat) (h0 h:Heap) (x:Cell) (rows:List (List Cell)):Prop where
 on:On h0 h
 sh: ∃fp,SlR tag (Fl fun r=>r) h x rows fp∧Fre h0 fp
def catX (tag:Nat) (h:Heap) (x:Cell) (n:Nat):Cell:=match x with
 | .sl _ _ _ m=> .sl tag h.next 0 (m+n)
 | _=>if n=0 then .nil else .sl tag h.next 0 n
def catH (h:Heap) (x:Cell) (new:List (List Cell)):Heap:=match x with
 | .sl _ id _ _=>(h.kill id).push (((h.get id).getD [])++new)
 | _=>if new.length=0 then h else h.push new
theorem Fre.app {h h1:Heap} {p q:List Nat} (f:Fre h p) (hl: ∀id,id∈p→id<h1.next) (f1:Fre h1 q) (hn:h.next≤h1.next):Fre h (p++q):=
 ⟨fun id hid=>by
  rcases List.mem_append.1 hid with hid | hid
  ·exact f.lo id hid
  ·have:=f1.lo id hid
   omega,List.nodup_append.2 ⟨f.nd,f1.nd,fun a ha b hb=>by
    have:=hl a ha
    have:=f1.lo b hb
    omega⟩⟩
section
variable {tag:Nat} {h0 h:Heap} {x y:Cell} {rows new:List (List Cell)}
theorem Acc.nil (tag:Nat) (h:Heap):Acc tag h h .nil []:=⟨On.refl h,[],SlR.nil _ _ _,Fre.nil h⟩
theorem Acc.none (o:On h0 h):Acc tag h0 h .nil []:=⟨o,[],SlR.nil _ _ _,Fre.nil h0⟩
theorem Fre.at {h0 h:Heap} (hn:h0.next≤h.next):Fre h0 [h.next]:=⟨fun id hid=>by simp at hid;omega,by simp⟩
theorem Acc.lit (o:On h0 h) (rows:List (List Cell)) (hl:rows.length≤140737488355328):Acc tag h0 (h.push rows) (.sl tag h.next 0 rows.length) rows:=
 ⟨o.trans (On.push h rows),[h.next],SlR.ofFlat (enc:=fun r=>r) (by unfold maxLen;omega) (by rw[push_get];simp) (by rw[push_next];omega),Fre.at o.ext.1⟩
theorem Acc.lit0 (o:On h0 h):Acc tag h0 (h.push []) (.sl tag h.next 0 0) []:=Acc.lit o [] (by simp)
theorem Acc.push (a:Acc tag h0 h x rows) (r:List (List Cell)):Acc tag h0 (h.push r) x rows:=by
 obtain ⟨o,fp,w,f⟩:=a
 exact ⟨o.trans (On.push h r),fp,w.on (Fl.ok _) (On.push h r),f⟩
theorem Acc.cat_eq (a:Acc tag h0 h x rows) (hf:h0.floor≤h0.next) {bytes:Nat} (hy:A.isTag tag y=true) (hr:rowsOf h y=some new) (hb:(rows.length+new.length)*bytes≤140737488355328):
 appF h tag bytes x y=some (catX tag h x new.length,catH h x new):=by
 obtain ⟨o,fp,w,f⟩:=a
 rw[appF,if_pos hy,hr]
 simp only[Option.bind_some]
 rcases w.flat with ⟨rfl,rfl,rfl⟩ | ⟨hx,hg,hn,rfl⟩
 ·simp only[List.length_nil,Nat.zero_add] at hb
  simp only[catX,catH]
  split
  ·rfl
  ·simp[hb]
 ·have hfl:h.floor≤x.sid:=by rw[o.fl];exact Nat.le_trans hf (f.lo _ (by simp))
  rw[hx]
  simp only[Cell.sid,catX,catH] at hg hfl hb ⊢
  simp only[hg,Option.bind_some,List.length_map]
  simp[hfl,hb]
theorem Acc.cat (a:Acc tag h0 h x rows) (hf:h0.floor≤h0.next) (hl:rows.length+new.length≤140737488355328):Acc tag h0 (catH h x new) (catX tag h x new.length) (rows++new):=by
 obtain ⟨o,fp,w,f⟩:=a
 rcases w.flat with ⟨rfl,rfl,rfl⟩ | ⟨hx,hg,hn,rfl⟩
 ·simp only[catX,catH]
  split
  ·rename_i h0'
   have:new=[]:=List.eq_nil_of_length_eq_zero h0'
   subst this
   exact Acc.none o
  ·simp only[List.nil_append]
   exact Acc.lit o new (by simp at hl;omega)
 ·have hlo:h0.next≤x.sid:=f.lo _ (by simp)
  have o1:On h0 (h.kill x.sid):=⟨⟨o.ext.1,fun id hid=>by
   simp only[Heap.kill]
   rw[if_neg (by omega)]
   exact o.ext.2 id hid⟩,o.fl⟩
  rw[hx] at o1 ⊢
  simp only[Cell.sid,catX,catH] at hg o1 ⊢
  simp only[hg,Option.getD_some,List.map_id_fun',id]
  have:=Acc.lit (tag:=tag) o1 (rows++new) (by simpa using hl)
  rw[List.length_append] at this
  exact this
theorem Acc.one_eq (a:Acc tag h0 h x rows) (hf:h0.floor≤h0.next) {bytes:Nat} (hb:(rows.length+1)*bytes≤140737488355328) (row:List Cell):
 appF (h.push [row]) tag bytes x (.sl tag h.next 0 1)=some (catX tag (h.push [row]) x 1,catH (h.push [row]) x [row]):=
 (a.push [row]).cat_eq (y:= .sl tag h.next 0 1) (new:=[row]) hf (by simp[A.isTag]) (by simp[rowsOf,push_get]) hb
theorem Acc.one (a:Acc tag h0 h x rows) (hf:h0.floor≤h0.next) (hl:rows.length+1≤140737488355328) (row:List Cell):Acc tag h0 (catH (h.push [row]) x [row]) (catX tag (h.push [row]) x 1) (rows++[row]):=
 (a.push [row]).cat hf (new:=[row]) hl
theorem SlR.ofRaw {α:Type} {enc:α→List Cell} {xs:List α} {fp:List Nat} (w:SlR tag (Fl fun r=>r) h x (xs.map enc) fp):SlR tag (Fl enc) h x xs fp:=by
 have hl:=w.le
 rw[List.length_map] at hl
 rcases w.flat with ⟨rfl,h2,rfl⟩ | ⟨hx,hg,hn,rfl⟩
 ·have:xs=[]:=List.map_eq_nil_iff.1 h2
  subst this
  exact SlR.nil _ _ _
 ·rw[List.length_map] at hx
  rw[hx]
  exact SlR.ofFlat hl (by rw[hg];simp) hn
theorem Acc.flat {α:Type} {enc:α→List Cell} {xs:List α} (a:Acc tag h0 h x (xs.map enc)):On h0 h∧ ∃fp,SlR tag (Fl enc) h x xs fp∧Fre h0 fp:=by
 obtain ⟨o,fp,w,f⟩:=a
 exact ⟨o,fp,w.ofRaw,f⟩
end
end Go.Proofs.Yteagcdhkobeanaa.A
namespace Go.Proofs.Yteagcdhkobeanaa.A
open Go
set_option linter.unusedSimpArgs false
set_option linter.unusedVariables false
structure Book where
 list:List Account
 deriving DecidableEq
def Book.RL:Rel Book:=fun h cs t fp=> ∃x1 p1,cs=[x1]∧fp=p1∧SlR 12 (Fl Account.enc) h x1 t.list p1
theorem Book.okL:RelOk Book.RL where
 lt:=by
  rintro h cs t fp ⟨x1,p1,rfl,rfl,w1⟩ id hid
  exact w1.lt (Fl.ok _) id hid
 mv:=by
  rintro h h' cs t fp ⟨x1,p1,rfl,rfl,w1⟩ hn hg
  exact ⟨x1,_,rfl,rfl,w1.mv (Fl.ok _) hn hg⟩
def Book.RI:Rel Book:=fun h cs t fp=> ∃x1 p1,cs=[x1]∧fp=p1∧SlR 11 (Fl Account.enc) h x1 t.list p1
theorem Book.okI:RelOk Book.RI where
 lt:=by
  rintro h cs t fp ⟨x1,p1,rfl,rfl,w1⟩ id hid
  exact w1.lt (Fl.ok _) id hid
 mv:=by
  rintro h h' cs t fp ⟨x1,p1,rfl,rfl,w1⟩ hn hg
  exact ⟨x1,_,rfl,rfl,w1.mv (Fl.ok _) hn hg⟩
theorem Book.lenL {h:Heap} {cs:List Cell} {t:Book} {fp:List Nat} (v:Book.RL h cs t fp):cs.length=1∧cs.take 1=cs∧cs.drop 1=[]:=by
 obtain ⟨x1,p1,rfl,_⟩:=v
 exact ⟨rfl,rfl,rfl⟩
theorem Book.lenI {h:Heap} {cs:List Cell} {t:Book} {fp:List Nat} (v:Book.RI h cs t fp):cs.length=1∧cs.take 1=cs∧cs.drop 1=[]:=by
 obtain ⟨x1,p1,rfl,_⟩:=v
 exact ⟨rfl,rfl,rfl⟩
namespace Book
structure Ok (t:Book):Prop where
 list: ∀a,a∈t.list→a.Ok
def Small (t:Book):Prop:=t.list.length≤1048576
def wt (t:Book):Int:=5*((t.list.length:Nat):Int)
def marked (t:Book) (k:Int):Book:={t with list:=Account.marks t.list.length (k)}
theorem wt_nn (t:Book):0≤t.wt:=by
 simp only[wt];omega
theorem wt_le {t:Book} (sm:t.Small):t.wt≤5242880:=by
 unfold Small at sm
 simp only[wt];omega
end Book
section
variable {F:Nat→Option RF} {Z:CallF} {h:Heap} {cs cs':List Cell} {t u:Book} {fp fq:List Nat}
theorem szBook_c (hLBook:Has F tLBook) (hLAccount:Has F tLAccount) (v:Book.RL h cs t fp) (left:Int) (h1:0≤left) (h2:left≤1048576): ∃r,call F Z 128 [.agg cs,.c (.int .i64 left)] h=some (.c (.int .i64 r),h)∧r≤left∧(0≤r→t.Small):=by
 obtain ⟨x1,p1,rfl,rfl,w1⟩:=v
 rw[call_run F Z (hLBook.lk (g:=128) rfl) _ _ rfl]
 simp only[rn,RO.dst,lk,drop,Nat.reduceBEq,Nat.reduceAdd,Nat.reduceLeDiff,↓reduceIte,reduceCtorEq]
 obtain ⟨l0,s0,a0,b0⟩:=szAccountS_c (Z:=Z) hLAccount w1 left (by omega) (by omega)
 simp only[rn,RO.dst,lk,drop,Nat.reduceBEq,Nat.reduceAdd,Nat.reduceLeDiff,↓reduceIte,reduceCtorEq,s0]
 by_cases n0:l0<0
 ·simp only[rn,RO.dst,lk,drop,Nat.reduceBEq,Nat.reduceAdd,Nat.reduceLeDiff,↓reduceIte,reduceCtorEq,n0]
  exact ⟨_,rfl,by omega,by omega⟩
 simp only[rn,RO.dst,lk,drop,Nat.reduceBEq,Nat.reduceAdd,Nat.reduceLeDiff,↓reduceIte,reduceCtorEq,n0]
 exact ⟨_,rfl,by omega,fun _=>b0 (by omega)⟩
theorem toBook_c (hLBook:Has F tLBook) (hLAccount:Has F tLAccount) (hf:h.floor≤h.next) (v:Book.RL h cs t fp) (sm:t.Small): ∃cs' h' fq,call F Z 130 [.agg cs] h=some (.agg cs',h')∧On h h'∧Book.RI h' cs' t fq∧Fre h fq:=by
 obtain ⟨x1,p1,rfl,rfl,w1⟩:=v
 have sm0:=sm
 obtain ⟨y1,g0,q1,e0,o0,u1,r0⟩:=toAccountS_c (Z:=Z) hLAccount hf w1 sm0
 rw[call_run F Z (hLBook.lk (g:=130) rfl) _ _ rfl]
 simp only[rn,RO.dst,lk,drop,Nat.reduceBEq,Nat.reduceAdd,Nat.reduceLeDiff,↓reduceIte,reduceCtorEq,e0]
 exact ⟨_,_,_,rfl,o0,⟨y1,_,rfl,rfl,u1⟩,r0⟩
set_option maxHeartbeats 1000000 in
theorem eqBook_r (hLBook:Has F tLBook) (hLAccount:Has F tLAccount) (v:Book.RI h cs t fp) (v':Book.RI h cs' u fq):call F Z 133 [.agg cs,.agg cs'] h=some (.c (.bool (decide (t=u))),h):=by
 obtain ⟨x1,p1,rfl,rfl,w1⟩:=v
 obtain ⟨x1',p1',rfl,rfl,w1'⟩:=v'
 obtain ⟨list1⟩:=t
 obtain ⟨list2⟩:=u
 have e0:=eqAccountS_run (Z:=Z) hLAccount w1 w1'
 clear w1 w1'
 rw[call_run F Z (hLBook.lk (g:=133) rfl) _ _ rfl]
 simp only[rn,RO.dst,lk,drop,Nat.reduceBEq,Nat.reduceAdd,Nat.reduceLeDiff,↓reduceIte,reduceCtorEq,e0]
 (repeat' ((first | (rw[gF_if];split) | (rw[condC_if];split) | (rw[pickR_if];split))<;>(rename_i hh;(try simp only[Bool.not_eq_true,decide_eq_true_eq] at hh);simp only[hh,rn,RO.dst,lk,drop,Nat.reduceBEq,Nat.reduceAdd,Nat.reduceLeDiff,↓reduceIte,reduceCtorEq,e0])))<;>clear e0<;>refine fin_bool ?_<;>simp_all<;>(try (intros;omega))
theorem markBook_r (hLBook:Has F tLBook) (hLAccount:Has F tLAccount) (v:Book.RI h cs t fp) (nd:fp.Nodup) (hlo: ∀id,id∈fp→h.floor≤id) (k:Int) (h1:0≤k) (h2:k+t.wt≤9200000000000000000): ∃h',call F Z 231 [.agg cs,.c (.int .i64 k)] h=some (.c (.int .i64 (k+t.wt)),h')∧Mk h h' fp∧Book.RI h' cs (t.marked k) fp:=by
 obtain ⟨x1,p1,rfl,rfl,w1⟩:=v
 simp only[Book.wt] at h2 ⊢
 obtain ⟨h',e0,m0,u1⟩:=markAccountS_run (Z:=Z) hLAccount w1 hlo k h1 h2
 rw[call_run F Z (hLBook.lk (g:=231) rfl) _ _ rfl]
 simp only[rn,RO.dst,lk,drop,Nat.reduceBEq,Nat.reduceAdd,Nat.reduceLeDiff,↓reduceIte,reduceCtorEq,e0]
 exact ⟨_,rfl,m0,⟨x1,_,rfl,rfl,u1⟩⟩
end
end Go.Proofs.Yteagcdhkobeanaa.A
namespace Go.Proofs.Yteagcdhkobeanaa.A
open Go
set_option linter.unusedSimpArgs false
set_option linter.unusedVariables false
structure Fin where
 tx:Int
 id:Int
 deriving DecidableEq
namespace Fin
def enc (t:Fin):List Cell:=[.int .i64 t.tx,.int .u64 t.id]
theorem len (t:Fin):t.enc.length=2:=rfl
theorem tak (t:Fin):t.enc.take 2=t.enc:=rfl
def none_:Fin:=⟨0,0⟩
structure Ok (t:Fin):Prop where
 tx: -9223372036854775808≤t.tx∧t.tx≤9223372036854775807
 id:0≤t.id∧t.id≤18446744073709551615
end Fin
theorem Wf.isFin {h:Heap} {n:Nat} {cs:List Cell} (w:Wf h (n+2) shFin cs): ∃t:Fin,cs=t.enc∧t.Ok:=by
 obtain ⟨_,_,rfl,_,⟨tx0,rfl,h0⟩,_,_,rfl,_,⟨id0,rfl,h1⟩,rfl⟩:=w
 exact ⟨⟨tx0,id0⟩,rfl,⟨wfI h0,wfU h1⟩⟩
theorem Wf.isFinS {h:Heap} {n:Nat} {x:Cell} (w:Wf h (n+3) shFinS [x]): ∃xs fp,SlR 10 (Fl Fin.enc) h x xs fp∧ ∀t,t∈xs→t.Ok:=
 SlR.ofWf (fun r hr=>by obtain ⟨t,rfl,ht⟩:=Wf.isFin hr.2;exact ⟨t,[],⟨rfl,rfl⟩,ht⟩) w
theorem Wf.isFinS' {h:Heap} {n:Nat} {a:List Cell} (w:Wf h (n+3) shFinS a): ∃x xs fp,a=[x]∧SlR 10 (Fl Fin.enc) h x xs fp∧ ∀t,t∈xs→t.Ok:=by
 have hx: ∃x,a=[x]:=by rcases w with w | ⟨_,_,w,_⟩<;>exact ⟨_,w⟩
 obtain ⟨x,rfl⟩:=hx
 obtain ⟨xs,fp,v,ok⟩:=Wf.isFinS w
 exact ⟨x,xs,fp,rfl,v,ok⟩
end Go.Proofs.Yteagcdhkobeanaa.A
namespace Go.Proofs.Yteagcdhkobeanaa.A
open Go
set_option linter.unusedSimpArgs false
set_option linter.unusedVariables false
section
variable {F:Nat→Option RF} {Z:CallF} {h:Heap} {x y:Cell} {xs ys:List Fin} {fp fq:List Nat}
def Fin.zero:List Cell:=[.int .i64 0,.int .u64 0]
theorem toFin_run (hL:Has F tLFin) (p:Fin) (h:Heap):call F Z 138 [.agg p.enc] h=some (.agg p.enc,h):=by
 rw[call_run F Z (hL.lk (g:=138) rfl) _ _ rfl]
 simp only[Fin.enc,rn,RO.dst,lk,drop,Nat.reduceBEq,Nat.reduceAdd,Nat.reduceLeDiff,↓reduceIte,reduceCtorEq]
set_option maxHeartbeats 1000000 in
theorem eqFin_run (hL:Has F tLFin) (p q:Fin) (h:Heap):call F Z 140 [.agg p.enc,.agg q.enc] h=some (.c (.bool (decide (p=q))),h):=by
 rw[call_run F Z (hL.lk (g:=140) rfl) _ _ rfl]
 obtain ⟨tx1,id1⟩:=p
 obtain ⟨tx2,id2⟩:=q
 simp only[Fin.enc,rn,RO.dst,lk,drop,Nat.reduceBEq,Nat.reduceAdd,Nat.reduceLeDiff,↓reduceIte,reduceCtorEq]
 (repeat' ((first | (rw[gF_if];split) | (rw[condC_if];split) | (rw[pickR_if];split))<;>(rename_i hh;(try simp only[Bool.not_eq_true,decide_eq_true_eq] at hh);simp only[hh,rn,RO.dst,lk,drop,Nat.reduceBEq,Nat.reduceAdd,Nat.reduceLeDiff,↓reduceIte,reduceCtorEq])))<;>refine fin_bool ?_<;>simp_all<;>(try (intros;omega))
theorem szFinS_run (hL:Has F tLFin) (w:SlR 10 (Fl Fin.enc) h x xs fp) (left:Int) (h1:0≤left) (h2:left≤1048576):call F Z 129 [.c x,.c (.int .i64 left)] h=some (.c (.int .i64 (if left-xs.length<0 then -1 else left-xs.length)),h):=by
 have:=w.le2
 rw[call_run F Z (hL.lk (g:=129) rfl) _ _ rfl]
 simp only[rn,RO.dst,lk,drop,Nat.reduceBEq,Nat.reduceAdd,Nat.reduceLeDiff,↓reduceIte,reduceCtorEq,w.len,wrapI (left-xs.length) (by omega) (by omega)]
 (repeat' ((first | (rw[gF_if];split) | (rw[condC_if];split) | (rw[pickR_if];split))<;>(rename_i hh;(try simp only[Bool.not_eq_true,decide_eq_true_eq] at hh);simp only[hh,rn,RO.dst,lk,drop,Nat.reduceBEq,Nat.reduceAdd,Nat.reduceLeDiff,↓reduceIte,reduceCtorEq])))<;>simp_all
theorem szFinS_c (hL:Has F tLFin) (w:SlR 10 (Fl Fin.enc) h x xs fp) (left:Int) (h1:0≤left) (h2:left≤1048576): ∃r,call F Z 129 [.c x,.c (.int .i64 left)] h=some (.c (.int .i64 r),h)∧r≤left∧(0≤r→xs.length≤1048576):=
 ⟨_,szFinS_run hL w left h1 h2,by split<;>omega,by split<;>omega⟩
theorem toFinS_run (hL:Has F tLFin) (hf:h.floor≤h.next) (w:SlR 10 (Fl Fin.enc) h x xs fp) (hn:xs.length≤1048576):call F Z 131 [.c x] h=some (.c (.sl 9 h.next 0 xs.length),h.push (xs.map Fin.enc)):=by
 rw[call_run F Z (hL.lk (g:=131) rfl) _ _ rfl]
 simp only[rn,RO.dst,lk,drop,Nat.reduceBEq,Nat.reduceAdd,Nat.reduceLeDiff,↓reduceIte,reduceCtorEq,w.len]
 rw[if_pos (by omega)]
 simp only[rn,RO.dst,lk,drop,Nat.reduceBEq,Nat.reduceAdd,Nat.reduceLeDiff,↓reduceIte,reduceCtorEq,Int.toNat_natCast]
 have key:loop F Z [0,3,4] r131L0 ⟨[(0,.c x),(3,.c (.sl 9 h.next 0 xs.length)),(4,.c (.int .i64 (0:Nat)))],[],[],h.push (fillR Fin.enc Fin.zero xs 0)⟩=loop F Z [0,3,4] r131L0 ⟨[(0,.c x),(3,.c (.sl 9 h.next 0 xs.length)),(4,.c (.int .i64 (xs.length:Nat)))],[],[],h.push (fillR Fin.enc Fin.zero xs xs.length)⟩:=
  loop_goesF xs.length (fun i=>⟨[(0,.c x),(3,.c (.sl 9 h.next 0 xs.length)),(4,.c (.int .i64 (i:Nat)))],[],[],h.push (fillR Fin.enc Fin.zero xs i)⟩) fun i hi=>by
   have w':=w.mono (Fl.ok _) (HExt.push h (fillR Fin.enc Fin.zero xs i))
   have hlt:(i:Int)<xs.length:=by omega
   have h0:(0:Int)≤i:=by omega
   rw[loop_run]
   simp only[r131L0,rn,RO.dst,lk,drop,Nat.reduceBEq,Nat.reduceAdd,Nat.reduceLeDiff,↓reduceIte,reduceCtorEq,w.len,hlt,w.idx hi,w'.load hi,Fin.len,Fin.tak,toFin_run hL,h0,and_self,Int.toNat_natCast,storeP_push hf (fillR_get Fin.enc Fin.zero xs hi) (Fin.len xs[i]),wrapS i (by omega)]
   rw[←fillR_set Fin.enc Fin.zero xs hi]
 rw[fillR_0] at key
 rw[fillR_n] at key
 rw[show ((0:Nat):Int)=0 from rfl] at key
 simp only[Fin.zero] at key
 rw[key,loop_run]
 have hlt: ¬(xs.length:Int)<xs.length:=by omega
 simp only[r131L0,rn,RO.dst,lk,drop,Nat.reduceBEq,Nat.reduceAdd,Nat.reduceLeDiff,↓reduceIte,reduceCtorEq,w.len,hlt]
theorem toFinS_c (hL:Has F tLFin) (hf:h.floor≤h.next) (w:SlR 10 (Fl Fin.enc) h x xs fp) (hn:xs.length≤1048576): ∃y h' fq,call F Z 131 [.c x] h=some (.c y,h')∧On h h'∧SlR 9 (Fl Fin.enc) h' y xs fq∧Fre h fq:=
 ⟨_,_,_,toFinS_run hL hf w hn,On.push _ _,SlR.ofFlat w.le (push_get _ _) (by rw[push_next];omega),Fre.one h⟩
theorem eqFinS_run (hL:Has F tLFin) (w:SlR 9 (Fl Fin.enc) h x xs fp) (v:SlR 9 (Fl Fin.enc) h y ys fq):call F Z 134 [.c x,.c y] h=some (.c (.bool (decide (xs=ys))),h):=by
 have hw:=w.le2
 have hv:=v.le2
 rw[call_run F Z (hL.lk (g:=134) rfl) _ _ rfl]
 simp only[rn,RO.dst,lk,drop,Nat.reduceBEq,Nat.reduceAdd,Nat.reduceLeDiff,↓reduceIte,reduceCtorEq,w.len,v.len]
 rw[condC_if]
 split
 ·rename_i hne
  have:xs≠ys:=by rintro rfl;simp at hne
  simp only[rn,RO.dst,lk,drop,Nat.reduceBEq,Nat.reduceAdd,Nat.reduceLeDiff,↓reduceIte,reduceCtorEq,this]
 ·rename_i he
  have he:xs.length=ys.length:=by simp at he;omega
  simp only[rn,RO.dst,lk,drop,Nat.reduceBEq,Nat.reduceAdd,Nat.reduceLeDiff,↓reduceIte,reduceCtorEq]
  have key:=loop_allN (F:=F) (Z:=Z) (live:=[0,1,5]) (b:=r134L0) xs.length (fun i=>⟨[(0,.c x),(1,.c y),(5,.c (.int .i64 (i:Nat)))],[],[],h⟩) (fun i=>decide (xs[i]? =ys[i]?)) (fun s=>lk s.env 4=some (.c (.bool false))∧s.hp=h) fun i hi=>by
   have hi':i<ys.length:=by omega
   have hlt:(i:Int)<xs.length:=by omega
   rw[loop_run]
   simp only[r134L0,rn,RO.dst,lk,drop,Nat.reduceBEq,Nat.reduceAdd,Nat.reduceLeDiff,↓reduceIte,reduceCtorEq,w.len,hlt,w.idx hi,v.idx hi',w.load hi,v.load hi',Fin.len,Fin.tak,eqFin_run hL,wrapS i (by omega)]
   rw[List.getElem?_eq_getElem hi,List.getElem?_eq_getElem hi']
   (repeat' ((first | (rw[gF_if];split) | (rw[condC_if];split) | (rw[pickR_if];split))<;>(rename_i hh;(try simp only[Bool.not_eq_true,decide_eq_true_eq] at hh);simp only[hh,rn,RO.dst,lk,drop,Nat.reduceBEq,Nat.reduceAdd,Nat.reduceLeDiff,↓reduceIte,reduceCtorEq,wrapS i (by omega)])))
   ·exact .inr ⟨by simp_all,_,rfl,rfl,rfl⟩
   ·exact .inl ⟨by simp_all,rfl⟩
  rw[all_same he] at key
  rcases key with ⟨k1,k2⟩ | ⟨k1,s,k2,k3,k4⟩
  ·simp only[show ((0:Nat):Int)=0 from rfl] at k2
   rw[k2,loop_run]
   have hlt: ¬(xs.length:Int)<xs.length:=by omega
   simp only[r134L0,rn,RO.dst,lk,drop,Nat.reduceBEq,Nat.reduceAdd,Nat.reduceLeDiff,↓reduceIte,reduceCtorEq,w.len,hlt,k1]
  ·simp only[show ((0:Nat):Int)=0 from rfl] at k2
   rw[k2]
   simp only[rn,RO.dst,lk,drop,Nat.reduceBEq,Nat.reduceAdd,Nat.reduceLeDiff,↓reduceIte,reduceCtorEq,k3,k4,k1]
def Fin.mk_ (k:Int):Fin:=⟨k,k+1⟩
def Fin.marks (n:Nat) (k:Int):List Fin:=(List.range n).map fun i:Nat=>Fin.mk_ (k+2*(i:Int))
theorem Fin.marks_len (n:Nat) (k:Int):(Fin.marks n k).length=n:=by simp[Fin.marks]
set_option maxHeartbeats 1000000 in
theorem markFinS_run (hL:Has F tLFin) (w:SlR 9 (Fl Fin.enc) h x xs fp) (hlo: ∀id,id∈fp→h.floor≤id) (k:Int) (h1:0≤k) (h2:k+2*xs.length≤9200000000000000000):
 ∃h',call F Z 232 [.c x,.c (.int .i64 k)] h=some (.c (.int .i64 (k+2*xs.length)),h')∧Mk h h' fp∧SlR 9 (Fl Fin.enc) h' x (Fin.marks xs.length k) fp:=by
 have hle:=w.le2
 have hlm:=Fin.marks_len xs.length k
 rw[call_run F Z (hL.lk (g:=232) rfl) _ _ rfl]
 simp only[rn,RO.dst,lk,drop,Nat.reduceBEq,Nat.reduceAdd,Nat.reduceLeDiff,↓reduceIte,reduceCtorEq]
 rcases w.flat with ⟨rfl,rfl,rfl⟩ | ⟨hx,hg,hn,rfl⟩
 ·rw[loop_run]
  simp only[r232L0,rn,RO.dst,lk,drop,Nat.reduceBEq,Nat.reduceAdd,Nat.reduceLeDiff,↓reduceIte,reduceCtorEq,show ¬((0:Int)<0) from by omega]
  exact ⟨h,by simp,Mk.refl _ _,by simpa[Fin.marks] using w⟩
 ·have hfl:h.floor≤x.sid:=hlo _ (by simp)
  have key:loop F Z [0,1,5] r232L0 ⟨[(0,.c x),(1,.c (.int .i64 (k+2*(0:Nat)))),(5,.c (.int .i64 (0:Nat)))],[],[],h.put x.sid (mixR Fin.enc (Fin.marks xs.length k) xs 0)⟩=loop F Z [0,1,5] r232L0 ⟨[(0,.c x),(1,.c (.int .i64 (k+2*(xs.length:Nat)))),(5,.c (.int .i64 (xs.length:Nat)))],[],[],h.put x.sid (mixR Fin.enc (Fin.marks xs.length k) xs xs.length)⟩:=
   loop_goesF xs.length (fun i=>⟨[(0,.c x),(1,.c (.int .i64 (k+2*(i:Nat)))),(5,.c (.int .i64 (i:Nat)))],[],[],h.put x.sid (mixR Fin.enc (Fin.marks xs.length k) xs i)⟩) fun i hi=>by
    have hlt:(i:Int)<xs.length:=by omega
    have hi2:i<(mixR Fin.enc (Fin.marks xs.length k) xs i).length:=by rw[mixR_len _ hlm];exact hi
    have hms:(Fin.marks xs.length k)[i]'(by omega)=Fin.mk_ (k+2*i):=by simp[Fin.marks]
    have hset:=mixR_set Fin.enc hlm hi
    rw[hms] at hset
    have hput:=storeP_put (h:=h) hfl hi2
    rw[←mixR_cur Fin.enc hlm hi,←hset,loop_run]
    simp (disch:=omega) only[r232L0,rn,RO.dst,lk,drop,Nat.reduceBEq,Nat.reduceAdd,Nat.reduceLeDiff,↓reduceIte,reduceCtorEq,w.len,hlt,w.idx hi,hput,putM_s,wrapI1,wrapU1,Fin.enc,Int.reduceEq,Fin.mk_]
    rw[show k+2*((i:Nat):Int)+1+1=k+2*((i+1:Nat):Int) from by omega,show ((i:Nat):Int)+1=((i+1:Nat):Int) from rfl]
  rw[mixR_0,put_same hg,mixR_n _ hlm] at key
  simp only[show ((0:Nat):Int)=0 from rfl,Int.mul_zero,Int.add_zero] at key
  rw[key,loop_run]
  have hlt: ¬(xs.length:Int)<xs.length:=by omega
  simp only[r232L0,rn,RO.dst,lk,drop,Nat.reduceBEq,Nat.reduceAdd,Nat.reduceLeDiff,↓reduceIte,reduceCtorEq,w.len,hlt]
  refine ⟨_,rfl,Mk.put _ _ _,?_⟩
  have:=SlR.ofFlat (tag:=9) (h:=h.put x.sid ((Fin.marks xs.length k).map Fin.enc)) (enc:=Fin.enc) (xs:=Fin.marks xs.length k) (id:=x.sid) (by rw[hlm];exact w.le) (by simp[Heap.put]) hn
  rw[hlm,←hx] at this
  exact this
set_option maxHeartbeats 1000000 in
theorem heldFinS_run (hL:Has F tLFin) {n:Nat} {k:Int} (w:SlR 9 (Fl Fin.enc) h x (Fin.marks n k) fp) (h1:0≤k) (h2:k+2*n≤9200000000000000000):
 call F Z 234 [.c x,.c (.int .i64 k)] h=some (.c (.int .i64 (k+2*n)),h):=by
 have hle:=w.le2
 have hwl:=w.len
 rw[Fin.marks_len] at hle hwl
 rw[call_run F Z (hL.lk (g:=234) rfl) _ _ rfl]
 simp only[rn,RO.dst,lk,drop,Nat.reduceBEq,Nat.reduceAdd,Nat.reduceLeDiff,↓reduceIte,reduceCtorEq]
 have key:loop F Z [0,1,5] r234L0 ⟨[(0,.c x),(1,.c (.int .i64 (k+2*(0:Nat)))),(5,.c (.int .i64 (0:Nat)))],[],[],h⟩=loop F Z [0,1,5] r234L0 ⟨[(0,.c x),(1,.c (.int .i64 (k+2*(n:Nat)))),(5,.c (.int .i64 (n:Nat)))],[],[],h⟩:=
  loop_goesF n (fun i=>⟨[(0,.c x),(1,.c (.int .i64 (k+2*(i:Nat)))),(5,.c (.int .i64 (i:Nat)))],[],[],h⟩) fun i hi0=>by
   have hi:i<(Fin.marks n k).length:=by rw[Fin.marks_len];exact hi0
   have hlt:(i:Int)<n:=by omega
   have hms:(Fin.marks n k)[i]=Fin.mk_ (k+2*i):=by simp[Fin.marks]
   have hld:=w.load hi
   rw[hms] at hld
   rw[loop_run]
   simp (disch:=omega) only[r234L0,rn,RO.dst,lk,drop,Nat.reduceBEq,Nat.reduceAdd,Nat.reduceLeDiff,↓reduceIte,reduceCtorEq,hwl,hlt,w.idx hi,hld,wrapI1,wrapU1,Fin.enc,Fin.mk_,Int.reduceEq]
   rw[show k+2*((i:Nat):Int)+1+1=k+2*((i+1:Nat):Int) from by omega,show ((i:Nat):Int)+1=((i+1:Nat):Int) from rfl]
 simp only[show ((0:Nat):Int)=0 from rfl,Int.mul_zero,Int.add_zero] at key
 rw[key,loop_run]
 have hlt: ¬(n:Int)<n:=by omega
 simp only[r234L0,rn,RO.dst,lk,drop,Nat.reduceBEq,Nat.reduceAdd,Nat.reduceLeDiff,↓reduceIte,reduceCtorEq,hwl,hlt]
end
end Go.Proofs.Yteagcdhkobeanaa.A
namespace Go.Proofs.Yteagcdhkobeanaa.A
open Go
set_option linter.unusedSimpArgs false
set_option linter.unusedVariables false
structure Shard where
 lo:Int
 hi:Int
 state:Int
 epoch:Int
 book:Book
 finished:List Fin
 deriving DecidableEq
def Shard.RL:Rel Shard:=fun h cs t fp=> ∃x1 p1 x2 p2,cs=[.int .u64 t.lo,.int .u64 t.hi,.int .i64 t.state,.int .i64 t.epoch,x1,x2]∧fp=p1++p2∧SlR 12 (Fl Account.enc) h x1 t.book.list p1∧SlR 10 (Fl Fin.enc) h x2 t.finished p2
theorem Shard.okL:RelOk Shard.RL where
 lt:=by
  rintro h cs t fp ⟨x1,p1,x2,p2,rfl,rfl,w1,w2⟩ id hid
  simp only[List.mem_append] at hid
  rcases hid with hid | hid
  ·exact w1.lt (Fl.ok _) id hid
  ·exact w2.lt (Fl.ok _) id hid
 mv:=by
  rintro h h' cs t fp ⟨x1,p1,x2,p2,rfl,rfl,w1,w2⟩ hn hg
  exact ⟨x1,_,x2,_,rfl,rfl,w1.mv (Fl.ok _) hn fun id hid=>hg id (by simp[hid]),w2.mv (Fl.ok _) hn fun id hid=>hg id (by simp[hid])⟩
def Shard.RI:Rel Shard:=fun h cs t fp=> ∃x1 p1 x2 p2,cs=[.int .u64 t.lo,.int .u64 t.hi,.int .i64 t.state,.int .i64 t.epoch,x1,x2]∧fp=p1++p2∧SlR 11 (Fl Account.enc) h x1 t.book.list p1∧SlR 9 (Fl Fin.enc) h x2 t.finished p2
theorem Shard.okI:RelOk Shard.RI where
 lt:=by
  rintro h cs t fp ⟨x1,p1,x2,p2,rfl,rfl,w1,w2⟩ id hid
  simp only[List.mem_append] at hid
  rcases hid with hid | hid
  ·exact w1.lt (Fl.ok _) id hid
  ·exact w2.lt (Fl.ok _) id hid
 mv:=by
  rintro h h' cs t fp ⟨x1,p1,x2,p2,rfl,rfl,w1,w2⟩ hn hg
  exact ⟨x1,_,x2,_,rfl,rfl,w1.mv (Fl.ok _) hn fun id hid=>hg id (by simp[hid]),w2.mv (Fl.ok _) hn fun id hid=>hg id (by simp[hid])⟩
theorem Shard.lenL {h:Heap} {cs:List Cell} {t:Shard} {fp:List Nat} (v:Shard.RL h cs t fp):cs.length=6∧cs.take 6=cs∧cs.drop 6=[]:=by
 obtain ⟨x1,p1,x2,p2,rfl,_⟩:=v
 exact ⟨rfl,rfl,rfl⟩
theorem Shard.lenI {h:Heap} {cs:List Cell} {t:Shard} {fp:List Nat} (v:Shard.RI h cs t fp):cs.length=6∧cs.take 6=cs∧cs.drop 6=[]:=by
 obtain ⟨x1,p1,x2,p2,rfl,_⟩:=v
 exact ⟨rfl,rfl,rfl⟩
namespace Shard
structure Ok (t:Shard):Prop where
 lo:0≤t.lo∧t.lo≤18446744073709551615
 hi:0≤t.hi∧t.hi≤18446744073709551615
 state: -9223372036854775808≤t.state∧t.state≤9223372036854775807
 epoch: -9223372036854775808≤t.epoch∧t.epoch≤9223372036854775807
 book:t.book.Ok
 finished: ∀a,a∈t.finished→a.Ok
def Small (t:Shard):Prop:=t.book.Small∧t.finished.length≤1048576
def wt (t:Shard):Int:=t.book.wt+2*((t.finished.length:Nat):Int)
def marked (t:Shard) (k:Int):Shard:={t with book:=t.book.marked (k),finished:=Fin.marks t.finished.length (k+t.book.wt)}
theorem wt_nn (t:Shard):0≤t.wt:=by
 have:=t.book.wt_nn
 simp only[wt];omega
theorem wt_le {t:Shard} (sm:t.Small):t.wt≤7340032:=by
 unfold Small at sm
 have:=Book.wt_le sm.1
 simp only[wt];omega
end Shard
theorem Wf.isShard {h:Heap} {n:Nat} {cs:List Cell} (w:Wf h (n+5) shShard cs): ∃t fp,Shard.RL h cs t fp∧t.Ok:=by
 obtain ⟨_,_,rfl,_,⟨i1,rfl,j1⟩,_,_,rfl,_,⟨i2,rfl,j2⟩,_,_,rfl,_,⟨i3,rfl,j3⟩,_,_,rfl,_,⟨i4,rfl,j4⟩,_,_,rfl,_,⟨_,_,rfl,_,m5,rfl⟩,_,_,rfl,_,m6,rfl⟩:=w
 obtain ⟨x1,l1,p1,rfl,w1,o1⟩:=Wf.isAccountS' m5
 obtain ⟨x2,l2,p2,rfl,w2,o2⟩:=Wf.isFinS' m6
 exact ⟨⟨i1,i2,i3,i4,⟨l1⟩,l2⟩,_,⟨x1,_,x2,_,rfl,rfl,w1,w2⟩,⟨wfU j1,wfU j2,wfI j3,wfI j4,⟨o1⟩,o2⟩⟩
section
variable {F:Nat→Option RF} {Z:CallF} {h:Heap} {cs cs':List Cell} {t u:Shard} {fp fq:List Nat}
theorem szShard_c (hLShard:Has F tLShard) (hLBook:Has F tLBook) (hLAccount:Has F tLAccount) (hLFin:Has F tLFin) (v:Shard.RL h cs t fp) (left:Int) (h1:0≤left) (h2:left≤1048576): ∃r,call F Z 111 [.agg cs,.c (.int .i64 left)] h=some (.c (.int .i64 r),h)∧r≤left∧(0≤r→t.Small):=by
 obtain ⟨x1,p1,x2,p2,rfl,rfl,w1,w2⟩:=v
 rw[call_run F Z (hLShard.lk (g:=111) rfl) _ _ rfl]
 simp only[rn,RO.dst,lk,drop,Nat.reduceBEq,Nat.reduceAdd,Nat.reduceLeDiff,↓reduceIte,reduceCtorEq]
 obtain ⟨l0,s0,a0,b0⟩:=szBook_c (Z:=Z) hLBook hLAccount (⟨x1,_,rfl,rfl,w1⟩:Book.RL _ _ _ _) left (by omega) (by omega)
 simp only[rn,RO.dst,lk,drop,Nat.reduceBEq,Nat.reduceAdd,Nat.reduceLeDiff,↓reduceIte,reduceCtorEq,s0]
 by_cases n0:l0<0
 ·simp only[rn,RO.dst,lk,drop,Nat.reduceBEq,Nat.reduceAdd,Nat.reduceLeDiff,↓reduceIte,reduceCtorEq,n0]
  exact ⟨_,rfl,by omega,by omega⟩
 obtain ⟨l1,s1,a1,b1⟩:=szFinS_c (Z:=Z) hLFin w2 l0 (by omega) (by omega)
 simp only[rn,RO.dst,lk,drop,Nat.reduceBEq,Nat.reduceAdd,Nat.reduceLeDiff,↓reduceIte,reduceCtorEq,s1,n0]
 by_cases n1:l1<0
 ·simp only[rn,RO.dst,lk,drop,Nat.reduceBEq,Nat.reduceAdd,Nat.reduceLeDiff,↓reduceIte,reduceCtorEq,n1]
  exact ⟨_,rfl,by omega,by omega⟩
 simp only[rn,RO.dst,lk,drop,Nat.reduceBEq,Nat.reduceAdd,Nat.reduceLeDiff,↓reduceIte,reduceCtorEq,n1]
 exact ⟨_,rfl,by omega,fun _=>⟨b0 (by omega),b1 (by omega)⟩⟩
theorem toShard_c (hLShard:Has F tLShard) (hLBook:Has F tLBook) (hLAccount:Has F tLAccount) (hLFin:Has F tLFin) (hf:h.floor≤h.next) (v:Shard.RL h cs t fp) (sm:t.Small): ∃cs' h' fq,call F Z 112 [.agg cs] h=some (.agg cs',h')∧On h h'∧Shard.RI h' cs' t fq∧Fre h fq:=by
 obtain ⟨x1,p1,x2,p2,rfl,rfl,w1,w2⟩:=v
 obtain ⟨sm0,sm1⟩:=sm
 obtain ⟨_,g0,_,e0,o0,⟨y1,q1,rfl,rfl,u1⟩,r0⟩:=toBook_c (Z:=Z) hLBook hLAccount hf (⟨x1,_,rfl,rfl,w1⟩:Book.RL _ _ _ _) sm0
 replace w2:=w2.on (Fl.ok _) o0
 have f0:=o0.le hf
 obtain ⟨y2,g1,q2,e1,o1,u2,r1⟩:=toFinS_c (Z:=Z) hLFin f0 w2 sm1
 have v1:=u1
 replace u1:=u1.on (Fl.ok _) o1
 rw[call_run F Z (hLShard.lk (g:=112) rfl) _ _ rfl]
 simp only[rn,RO.dst,lk,drop,Nat.reduceBEq,Nat.reduceAdd,Nat.reduceLeDiff,↓reduceIte,reduceCtorEq,e0,e1]
 exact ⟨_,_,_,rfl,o0.trans o1,⟨y1,_,y2,_,rfl,rfl,u1,u2⟩,Fre.app r0 (Book.okI.lt (⟨y1,_,rfl,rfl,v1⟩:Book.RI g0 _ t.book _)) r1 o0.ext.1⟩
set_option maxHeartbeats 1000000 in
theorem eqShard_r (hLShard:Has F tLShard) (hLBook:Has F tLBook) (hLAccount:Has F tLAccount) (hLFin:Has F tLFin) (v:Shard.RI h cs t fp) (v':Shard.RI h cs' u fq):call F Z 114 [.agg cs,.agg cs'] h=some (.c (.bool (decide (t=u))),h):=by
 obtain ⟨x1,p1,x2,p2,rfl,rfl,w1,w2⟩:=v
 obtain ⟨x1',p1',x2',p2',rfl,rfl,w1',w2'⟩:=v'
 obtain ⟨lo1,hi1,state1,epoch1,book1,finished1⟩:=t
 obtain ⟨lo2,hi2,state2,epoch2,book2,finished2⟩:=u
 have e0:=eqBook_r (Z:=Z) hLBook hLAccount (⟨x1,_,rfl,rfl,w1⟩:Book.RI h _ book1 _) (⟨x1',_,rfl,rfl,w1'⟩:Book.RI h _ book2 _)
 have e1:=eqFinS_run (Z:=Z) hLFin w2 w2'
 clear w1 w1' w2 w2'
 rw[call_run F Z (hLShard.lk (g:=114) rfl) _ _ rfl]
 simp only[rn,RO.dst,lk,drop,Nat.reduceBEq,Nat.reduceAdd,Nat.reduceLeDiff,↓reduceIte,reduceCtorEq,e0,e1]
 (repeat' ((first | (rw[gF_if];split) | (rw[condC_if];split) | (rw[pickR_if];split))<;>(rename_i hh;(try simp only[Bool.not_eq_true,decide_eq_true_eq] at hh);simp only[hh,rn,RO.dst,lk,drop,Nat.reduceBEq,Nat.reduceAdd,Nat.reduceLeDiff,↓reduceIte,reduceCtorEq,e0,e1])))<;>clear e0 e1<;>refine fin_bool ?_<;>simp_all<;>(try (intros;omega))
theorem markShard_r (hLShard:Has F tLShard) (hLBook:Has F tLBook) (hLAccount:Has F tLAccount) (hLFin:Has F tLFin) (v:Shard.RI h cs t fp) (nd:fp.Nodup) (hlo: ∀id,id∈fp→h.floor≤id) (k:Int) (h1:0≤k) (h2:k+t.wt≤9200000000000000000): ∃h',call F Z 192 [.agg cs,.c (.int .i64 k)] h=some (.c (.int .i64 (k+t.wt)),h')∧Mk h h' fp∧Shard.RI h' cs (t.marked k) fp:=by
 obtain ⟨x1,p1,x2,p2,rfl,rfl,w1,w2⟩:=v
 simp only[Shard.wt] at h2 ⊢
 obtain ⟨nd1,nd2,nd3⟩:=List.nodup_append.1 nd
 have:=t.book.wt_nn
 obtain ⟨g1,e0,m0,⟨y1,q1,uc,uq,u1⟩⟩:=markBook_r (Z:=Z) hLBook hLAccount (⟨x1,_,rfl,rfl,w1⟩:Book.RI h _ t.book _) nd1 (fun id hid=>hlo id (by simp[hid])) (k) (by omega) (by omega)
 simp only[List.cons.injEq,and_true] at uc
 subst uc
 subst uq
 have w2':=w2.mk (Fl.ok _) m0 (fun id h1 h2=>nd3 id h2 id h1 rfl)
 obtain ⟨g2,e1,m1,u2⟩:=markFinS_run (Z:=Z) hLFin w2' (fun id hid=>by rw[m0.fl];exact hlo id (by simp[hid])) (k+t.book.wt) (by omega) (by omega)
 have u1':=u1.mk (Fl.ok _) m1 (fun id h1 h2=>nd3 id h1 id h2 rfl)
 rw[call_run F Z (hLShard.lk (g:=192) rfl) _ _ rfl]
 simp only[rn,RO.dst,lk,drop,Nat.reduceBEq,Nat.reduceAdd,Nat.reduceLeDiff,↓reduceIte,reduceCtorEq,e0,e1]
 exact ⟨g2,by rw[Int.add_assoc],m0.trans m1,⟨x1,_,x2,_,rfl,rfl,u1',u2⟩⟩
end
end Go.Proofs.Yteagcdhkobeanaa.A
namespace Go.Proofs.Yteagcdhkobeanaa.A
open Go
set_option linter.unusedSimpArgs false
set_option linter.unusedVariables false
structure HandMsg where
 step:Int
 lo:Int
 to:Int
 epoch:Int
 shard:Shard
 deriving DecidableEq
def HandMsg.RL:Rel HandMsg:=fun h cs t fp=> ∃x1 p1 x2 p2,cs=[.int .i64 t.step,.int .u64 t.lo,.int .i64 t.to,.int .i64 t.epoch,.int .u64 t.shard.lo,.int .u64 t.shard.hi,.int .i64 t.shard.state,.int .i64 t.shard.epoch,x1,x2]∧fp=p1++p2∧SlR 12 (Fl Account.enc) h x1 t.shard.book.list p1∧SlR 10 (Fl Fin.enc) h x2 t.shard.finished p2
theorem HandMsg.okL:RelOk HandMsg.RL where
 lt:=by
  rintro h cs t fp ⟨x1,p1,x2,p2,rfl,rfl,w1,w2⟩ id hid
  simp only[List.mem_append] at hid
  rcases hid with hid | hid
  ·exact w1.lt (Fl.ok _) id hid
  ·exact w2.lt (Fl.ok _) id hid
 mv:=by
  rintro h h' cs t fp ⟨x1,p1,x2,p2,rfl,rfl,w1,w2⟩ hn hg
  exact ⟨x1,_,x2,_,rfl,rfl,w1.mv (Fl.ok _) hn fun id hid=>hg id (by simp[hid]),w2.mv (Fl.ok _) hn fun id hid=>hg id (by simp[hid])⟩
def HandMsg.RI:Rel HandMsg:=fun h cs t fp=> ∃x1 p1 x2 p2,cs=[.int .i64 t.step,.int .u64 t.lo,.int .i64 t.to,.int .i64 t.epoch,.int .u64 t.shard.lo,.int .u64 t.shard.hi,.int .i64 t.shard.state,.int .i64 t.shard.epoch,x1,x2]∧fp=p1++p2∧SlR 11 (Fl Account.enc) h x1 t.shard.book.list p1∧SlR 9 (Fl Fin.enc) h x2 t.shard.finished p2
theorem HandMsg.okI:RelOk HandMsg.RI where
 lt:=by
  rintro h cs t fp ⟨x1,p1,x2,p2,rfl,rfl,w1,w2⟩ id hid
  simp only[List.mem_append] at hid
  rcases hid with hid | hid
  ·exact w1.lt (Fl.ok _) id hid
  ·exact w2.lt (Fl.ok _) id hid
 mv:=by
  rintro h h' cs t fp ⟨x1,p1,x2,p2,rfl,rfl,w1,w2⟩ hn hg
  exact ⟨x1,_,x2,_,rfl,rfl,w1.mv (Fl.ok _) hn fun id hid=>hg id (by simp[hid]),w2.mv (Fl.ok _) hn fun id hid=>hg id (by simp[hid])⟩
theorem HandMsg.lenL {h:Heap} {cs:List Cell} {t:HandMsg} {fp:List Nat} (v:HandMsg.RL h cs t fp):cs.length=10∧cs.take 10=cs∧cs.drop 10=[]:=by
 obtain ⟨x1,p1,x2,p2,rfl,_⟩:=v
 exact ⟨rfl,rfl,rfl⟩
theorem HandMsg.lenI {h:Heap} {cs:List Cell} {t:HandMsg} {fp:List Nat} (v:HandMsg.RI h cs t fp):cs.length=10∧cs.take 10=cs∧cs.drop 10=[]:=by
 obtain ⟨x1,p1,x2,p2,rfl,_⟩:=v
 exact ⟨rfl,rfl,rfl⟩
namespace HandMsg
structure Ok (t:HandMsg):Prop where
 step: -9223372036854775808≤t.step∧t.step≤9223372036854775807
 lo:0≤t.lo∧t.lo≤18446744073709551615
 to: -9223372036854775808≤t.to∧t.to≤9223372036854775807
 epoch: -9223372036854775808≤t.epoch∧t.epoch≤9223372036854775807
 shard:t.shard.Ok
def Small (t:HandMsg):Prop:=t.shard.Small
def wt (t:HandMsg):Int:=t.shard.wt
def marked (t:HandMsg) (k:Int):HandMsg:={t with shard:=t.shard.marked (k)}
theorem wt_nn (t:HandMsg):0≤t.wt:=by
 have:=t.shard.wt_nn
 simp only[wt];omega
theorem wt_le {t:HandMsg} (sm:t.Small):t.wt≤7340032:=by
 unfold Small at sm
 have:=Shard.wt_le sm
 simp only[wt];omega
end HandMsg
theorem Wf.isHandMsg {h:Heap} {n:Nat} {cs:List Cell} (w:Wf h (n+6) shHandMsg cs): ∃t fp,HandMsg.RL h cs t fp∧t.Ok:=by
 obtain ⟨_,_,rfl,_,⟨i1,rfl,j1⟩,_,_,rfl,_,⟨i2,rfl,j2⟩,_,_,rfl,_,⟨i3,rfl,j3⟩,_,_,rfl,_,⟨i4,rfl,j4⟩,_,_,rfl,_,⟨_,_,rfl,_,⟨i5,rfl,j5⟩,_,_,rfl,_,⟨i6,rfl,j6⟩,_,_,rfl,_,⟨i7,rfl,j7⟩,_,_,rfl,_,⟨i8,rfl,j8⟩,_,_,rfl,_,⟨_,_,rfl,_,m9,rfl⟩,_,_,rfl,_,m10,rfl⟩,rfl⟩:=w
 obtain ⟨x1,l1,p1,rfl,w1,o1⟩:=Wf.isAccountS' m9
 obtain ⟨x2,l2,p2,rfl,w2,o2⟩:=Wf.isFinS' m10
 exact ⟨⟨i1,i2,i3,i4,⟨i5,i6,i7,i8,⟨l1⟩,l2⟩⟩,_,⟨x1,_,x2,_,rfl,rfl,w1,w2⟩,⟨wfI j1,wfU j2,wfI j3,wfI j4,⟨wfU j5,wfU j6,wfI j7,wfI j8,⟨o1⟩,o2⟩⟩⟩
section
variable {F:Nat→Option RF} {Z:CallF} {h:Heap} {cs cs':List Cell} {t u:HandMsg} {fp fq:List Nat}
theorem szHandMsg_c (hLHandMsg:Has F tLHandMsg) (hLShard:Has F tLShard) (hLBook:Has F tLBook) (hLAccount:Has F tLAccount) (hLFin:Has F tLFin) (v:HandMsg.RL h cs t fp) (left:Int) (h1:0≤left) (h2:left≤1048576): ∃r,call F Z 82 [.agg cs,.c (.int .i64 left)] h=some (.c (.int .i64 r),h)∧r≤left∧(0≤r→t.Small):=by
 obtain ⟨x1,p1,x2,p2,rfl,rfl,w1,w2⟩:=v
 rw[call_run F Z (hLHandMsg.lk (g:=82) rfl) _ _ rfl]
 simp only[rn,RO.dst,lk,drop,Nat.reduceBEq,Nat.reduceAdd,Nat.reduceLeDiff,↓reduceIte,reduceCtorEq]
 obtain ⟨l0,s0,a0,b0⟩:=szShard_c (Z:=Z) hLShard hLBook hLAccount hLFin (⟨x1,_,x2,_,rfl,rfl,w1,w2⟩:Shard.RL _ _ _ _) left (by omega) (by omega)
 simp only[rn,RO.dst,lk,drop,Nat.reduceBEq,Nat.reduceAdd,Nat.reduceLeDiff,↓reduceIte,reduceCtorEq,s0]
 by_cases n0:l0<0
 ·simp only[rn,RO.dst,lk,drop,Nat.reduceBEq,Nat.reduceAdd,Nat.reduceLeDiff,↓reduceIte,reduceCtorEq,n0]
  exact ⟨_,rfl,by omega,by omega⟩
 simp only[rn,RO.dst,lk,drop,Nat.reduceBEq,Nat.reduceAdd,Nat.reduceLeDiff,↓reduceIte,reduceCtorEq,n0]
 exact ⟨_,rfl,by omega,fun _=>b0 (by omega)⟩
theorem toHandMsg_c (hLHandMsg:Has F tLHandMsg) (hLShard:Has F tLShard) (hLBook:Has F tLBook) (hLAccount:Has F tLAccount) (hLFin:Has F tLFin) (hf:h.floor≤h.next) (v:HandMsg.RL h cs t fp) (sm:t.Small): ∃cs' h' fq,call F Z 83 [.agg cs] h=some (.agg cs',h')∧On h h'∧HandMsg.RI h' cs' t fq∧Fre h fq:=by
 obtain ⟨x1,p1,x2,p2,rfl,rfl,w1,w2⟩:=v
 have sm0:=sm
 obtain ⟨_,g0,_,e0,o0,⟨y1,q1,y2,q2,rfl,rfl,u1,u2⟩,r0⟩:=toShard_c (Z:=Z) hLShard hLBook hLAccount hLFin hf (⟨x1,_,x2,_,rfl,rfl,w1,w2⟩:Shard.RL _ _ _ _) sm0
 rw[call_run F Z (hLHandMsg.lk (g:=83) rfl) _ _ rfl]
 simp only[rn,RO.dst,lk,drop,Nat.reduceBEq,Nat.reduceAdd,Nat.reduceLeDiff,↓reduceIte,reduceCtorEq,e0]
 exact ⟨_,_,_,rfl,o0,⟨y1,_,y2,_,rfl,rfl,u1,u2⟩,r0⟩
set_option maxHeartbeats 1000000 in
theorem eqHandMsg_r (hLHandMsg:Has F tLHandMsg) (hLShard:Has F tLShard) (hLBook:Has F tLBook) (hLAccount:Has F tLAccount) (hLFin:Has F tLFin) (v:HandMsg.RI h cs t fp) (v':HandMsg.RI h cs' u fq):call F Z 87 [.agg cs,.agg cs'] h=some (.c (.bool (decide (t=u))),h):=by
 obtain ⟨x1,p1,x2,p2,rfl,rfl,w1,w2⟩:=v
 obtain ⟨x1',p1',x2',p2',rfl,rfl,w1',w2'⟩:=v'
 obtain ⟨step1,lo1,to1,epoch1,shard1⟩:=t
 obtain ⟨step2,lo2,to2,epoch2,shard2⟩:=u
 have e0:=eqShard_r (Z:=Z) hLShard hLBook hLAccount hLFin (⟨x1,_,x2,_,rfl,rfl,w1,w2⟩:Shard.RI h _ shard1 _) (⟨x1',_,x2',_,rfl,rfl,w1',w2'⟩:Shard.RI h _ shard2 _)
 clear w1 w1' w2 w2'
 rw[call_run F Z (hLHandMsg.lk (g:=87) rfl) _ _ rfl]
 simp only[rn,RO.dst,lk,drop,Nat.reduceBEq,Nat.reduceAdd,Nat.reduceLeDiff,↓reduceIte,reduceCtorEq,e0]
 (repeat' ((first | (rw[gF_if];split) | (rw[condC_if];split) | (rw[pickR_if];split))<;>(rename_i hh;(try simp only[Bool.not_eq_true,decide_eq_true_eq] at hh);simp only[hh,rn,RO.dst,lk,drop,Nat.reduceBEq,Nat.reduceAdd,Nat.reduceLeDiff,↓reduceIte,reduceCtorEq,e0])))<;>clear e0<;>refine fin_bool ?_<;>simp_all<;>(try (intros;omega))
end
end Go.Proofs.Yteagcdhkobeanaa.A
namespace Go.Proofs.Yteagcdhkobeanaa.A
open Go
set_option linter.unusedSimpArgs false
set_option linter.unusedVariables false
def Hand.ok (h:Hand):Bool:=handOk h.lo h.from_ h.to h.epoch h.phase
def Hand.sends (h:Hand):Int:=if h.phase=1 then h.epoch+1 else h.epoch
def Hand.done (h:Hand) (step lo epoch:Int):Hand×Bool:=if h.ok=true∧h.phase≠3∧step=h.phase∧lo=h.lo∧epoch=h.sends then ({h with phase:=h.phase+1},true) else (h,false)
section
variable {F:Nat→Option RF} {Z:CallF} {h:Heap} {cs:List Cell} {fp:List Nat} {m:HandMsg}
end
end Go.Proofs.Yteagcdhkobeanaa.A
namespace Go.Proofs.Yteagcdhkobeanaa.A
open Go
set_option linter.unusedSimpArgs false
set_option linter.unusedVariables false
def Step2 (r:Option (Ex×St)) (J Q:St→Prop) (L:St→Option (Ex×St)):Prop:=(∃s',J s'∧r=L s')∨ ∃s',r=some (.ret,s')∧Q s'
section
variable {F:Nat→Option RF} {Z:CallF} {live:List Nat} {b:RC}
theorem loop_acc {α:Type} (xs:List α) (g:α→List (List Cell)) (tag:Nat) (h0:Heap) (st:Nat→Cell→Heap→St) (hg: ∀a,(g a).length≤1)
 (hs: ∀i (hi:i<xs.length) y h rows,Acc tag h0 h y rows→rows.length≤i→ ∃y' h',Acc tag h0 h' y' (rows++g xs[i])∧loop F Z live b (st i y h)=loop F Z live b (st (i+1) y' h')) {y:Cell} {h:Heap} (a0:Acc tag h0 h y []):
 ∃y' h',Acc tag h0 h' y' (xs.flatMap g)∧loop F Z live b (st 0 y h)=loop F Z live b (st xs.length y' h'):=by
 have key: ∀n,n≤xs.length→ ∃y' h',Acc tag h0 h' y' ((xs.take n).flatMap g)∧((xs.take n).flatMap g).length≤n∧loop F Z live b (st 0 y h)=loop F Z live b (st n y' h'):=by
  intro n
  induction n with
  | zero=>intro _;exact ⟨y,h,by simpa using a0,by simp,rfl⟩
  | succ n ih=>
    intro hn
    obtain ⟨y1,h1,a1,l1,e1⟩:=ih (by omega)
    obtain ⟨y2,h2,a2,e2⟩:=hs n (by omega) y1 h1 _ a1 l1
    have ht:(xs.take (n+1)).flatMap g=(xs.take n).flatMap g++g xs[n]:=by
     rw[List.take_add_one,List.getElem?_eq_getElem (by omega),List.flatMap_append];simp
    refine ⟨y2,h2,by rw[ht];exact a2,?_,e1.trans e2⟩
    rw[ht,List.length_append]
    have:=hg xs[n]
    omega
 obtain ⟨y',h',a',_,e'⟩:=key xs.length (Nat.le_refl _)
 rw[List.take_length] at a'
 exact ⟨y',h',a',e'⟩
theorem loop_find {α:Type} (xs:List α) (p:α→Bool) (st:Nat→St) (Q:Nat→St→Prop) (hs: ∀i (hi:i<xs.length),Turn (loop F Z live b (st i)) (loop F Z live b (st (i+1))) (!p xs[i]) (Q i)):
 (xs.findIdx? p=none∧loop F Z live b (st 0)=loop F Z live b (st xs.length))∨ ∃i,xs.findIdx? p=some i∧i<xs.length∧ ∃s,loop F Z live b (st 0)=some (.ret,s)∧Q i s:=by
 have key: ∀n,n≤xs.length→((∀i (hi:i<xs.length),i<n→p xs[i]=false)∧loop F Z live b (st 0)=loop F Z live b (st n))∨ ∃i,xs.findIdx? p=some i∧i<xs.length∧ ∃s,loop F Z live b (st 0)=some (.ret,s)∧Q i s:=by
  intro n
  induction n with
  | zero=>intro _;exact .inl ⟨fun i hi h=>absurd h (Nat.not_lt_zero _),rfl⟩
  | succ n ih=>
    intro hn
    rcases ih (by omega) with ⟨h1,h2⟩ | h
    ·rcases hs n (by omega) with ⟨h3,h4⟩ | ⟨h3,s,h4,h5⟩
     ·refine .inl ⟨fun i hi hl=> ?_,h2.trans h4⟩
      by_cases he:i=n
      ·subst he;simpa using h3
      ·exact h1 i hi (by omega)
     ·refine .inr ⟨n,?_,by omega,s,h2.trans h4,h5⟩
      rw[List.findIdx?_eq_some_iff_getElem]
      refine ⟨by omega,by simpa using h3,fun j hj=> ?_⟩
      simpa using h1 j (by omega) (by omega)
    ·exact .inr h
 rcases key xs.length (Nat.le_refl _) with ⟨h1,h2⟩ | h
 ·refine .inl ⟨?_,h2⟩
  rw[List.findIdx?_eq_none_iff]
  intro a ha
  obtain ⟨i,hi,rfl⟩:=List.mem_iff_getElem.1 ha
  exact h1 i hi hi
 ·exact .inr h
theorem loop_rel (n:Nat) (I:Nat→St→Prop) (Q:St→Prop) (hs: ∀i s,i<n→I i s→Step2 (loop F Z live b s) (I (i+1)) Q (loop F Z live b)) {s:St} (h0:I 0 s):
 (∃s',I n s'∧loop F Z live b s=loop F Z live b s')∨ ∃s',loop F Z live b s=some (.ret,s')∧Q s':=by
 induction n with
 | zero=>exact .inl ⟨s,h0,rfl⟩
 | succ n ih=>
   rcases ih fun i s hi=>hs i s (by omega) with ⟨s1,i1,e1⟩ | h
   ·rcases hs n s1 (by omega) i1 with ⟨s2,i2,e2⟩ | ⟨s2,e2,q2⟩
    ·exact .inl ⟨s2,i2,e1.trans e2⟩
    ·exact .inr ⟨s2,e1.trans e2,q2⟩
   ·exact .inr h
def findI {α:Type} (p:α→Bool) (xs:List α):Int:=match xs.findIdx? p with
 | some i=>(i:Int)
 | none=> -1
end
end Go.Proofs.Yteagcdhkobeanaa.A
namespace Go.Proofs.Yteagcdhkobeanaa.A
open Go
set_option linter.unusedSimpArgs false
set_option linter.unusedVariables false
theorem On.up (h:Heap):On h {h with floor:=h.floor}:=⟨⟨Nat.le_refl _,fun _ _=>rfl⟩,rfl⟩
theorem SlR.up {α:Type} {R:Rel α} {tag:Nat} {h:Heap} {x:Cell} {xs:List α} {fp:List Nat} (w:SlR tag R h x xs fp) (ok:RelOk R) (n:Nat):SlR tag R {h with floor:=n} x xs fp:=w.mv ok (Nat.le_refl _) fun _ _=>rfl
theorem quietly {F:Nat→Option RF} {Z:CallF} {h h':Heap} {f:Nat} {vs:List V} {r:V} (e:call F Z f vs ⟨h.next,h.next,h.get⟩=some (r,h')) (o:On ⟨h.next,h.next,h.get⟩ h'):
 ∃h' g,call F Z f vs ⟨h.next,h.next,h.get⟩=some (r,h')∧Heap.mk h'.next h.floor h'.get=g∧On h g:=⟨h',_,e,rfl,⟨⟨o.ext.1,o.ext.2⟩,rfl⟩⟩
theorem RelOk.up {α:Type} {R:Rel α} (ok:RelOk R) {h:Heap} {cs:List Cell} {a:α} {fp:List Nat} (w:R h cs a fp) (n:Nat):R ⟨h.next,n,h.get⟩ cs a fp:=ok.mv w (Nat.le_refl _) fun _ _=>rfl
end Go.Proofs.Yteagcdhkobeanaa.A
namespace Go.Proofs.Yteagcdhkobeanaa.A
open Go
set_option linter.unusedSimpArgs false
set_option linter.unusedVariables false
def cmpI (a b:Int):Int:=if a<b then -1 else if b<a then 1 else 0
def orI (a b:Int):Int:=if a=0 then b else a
def cmpFin (f g:Fin):Int:=orI (cmpI f.tx g.tx) (cmpI f.id g.id)
theorem fin_eqs (a b c d:Int):eqsR false [.i .i64,.i .u64] (some (.agg [.int .i64 a,.int .u64 b])) (some (.agg [.int .i64 c,.int .u64 d]))=some (.bool (decide ((⟨a,b⟩:Fin)=⟨c,d⟩))):=by
 have hc:cellsEq? [.i .i64,.i .u64] [.int .i64 a,.int .u64 b] [.int .i64 c,.int .u64 d]=some (decide ((⟨a,b⟩:Fin)=⟨c,d⟩)):=by
  simp only[cellsEq?,eqK,and_self,if_true,Option.bind_some]
  cases h1:(a==c)<;>cases h2:(b==d)<;>simp_all
 simp only[eqsR,List.length_cons,List.length_nil,and_self,if_true,hc,Option.bind_some,Bool.false_xor]
section
variable {F:Nat→Option RF} {Z:CallF} {h:Heap} {x:Cell} {xs:List Fin} {fp:List Nat}
theorem Compare_int_run (h1:Has F tLibcmpCompareint) (h2:Has F tLibcmpisNaNint) (a b:Int) (h:Heap):call F Z 273 [.c (.int .i64 a),.c (.int .i64 b)] h=some (.c (.int .i64 (cmpI a b)),h):=by
 have hn: ∀(a:Int) (h:Heap),call F Z 276 [.c (.int .i64 a)] h=some (.c (.bool false),h):=by
  intro a h
  rw[call_run F Z (h2.lk (g:=276) rfl) _ _ rfl]
  simp only[rn,RO.dst,lk,drop,Nat.reduceBEq,Nat.reduceAdd,Nat.reduceLeDiff,↓reduceIte,reduceCtorEq]
 rw[call_run F Z (h1.lk (g:=273) rfl) _ _ rfl]
 simp only[rn,RO.dst,lk,drop,Nat.reduceBEq,Nat.reduceAdd,Nat.reduceLeDiff,↓reduceIte,reduceCtorEq,hn]
 (repeat' ((first | (rw[gF_if];split) | (rw[condC_if];split) | (rw[pickR_if];split))<;>(rename_i hh;(try simp only[Bool.not_eq_true,decide_eq_true_eq] at hh);simp only[hh,rn,RO.dst,lk,drop,Nat.reduceBEq,Nat.reduceAdd,Nat.reduceLeDiff,↓reduceIte,reduceCtorEq,hn])))<;>simp_all[cmpI]<;>omega
theorem Compare_u64_run (h1:Has F tLibcmpCompareuint64) (h2:Has F tLibcmpisNaNuint64) (a b:Int) (h:Heap):call F Z 274 [.c (.int .u64 a),.c (.int .u64 b)] h=some (.c (.int .i64 (cmpI a b)),h):=by
 have hn: ∀(a:Int) (h:Heap),call F Z 277 [.c (.int .u64 a)] h=some (.c (.bool false),h):=by
  intro a h
  rw[call_run F Z (h2.lk (g:=277) rfl) _ _ rfl]
  simp only[rn,RO.dst,lk,drop,Nat.reduceBEq,Nat.reduceAdd,Nat.reduceLeDiff,↓reduceIte,reduceCtorEq]
 rw[call_run F Z (h1.lk (g:=274) rfl) _ _ rfl]
 simp only[rn,RO.dst,lk,drop,Nat.reduceBEq,Nat.reduceAdd,Nat.reduceLeDiff,↓reduceIte,reduceCtorEq,hn]
 (repeat' ((first | (rw[gF_if];split) | (rw[condC_if];split) | (rw[pickR_if];split))<;>(rename_i hh;(try simp only[Bool.not_eq_true,decide_eq_true_eq] at hh);simp only[hh,rn,RO.dst,lk,drop,Nat.reduceBEq,Nat.reduceAdd,Nat.reduceLeDiff,↓reduceIte,reduceCtorEq,hn])))<;>simp_all[cmpI]<;>omega
theorem indexFin_run (hL:Has F tLibslicesIndeximplFinimplFin) (w:SlR 9 (Fl Fin.enc) h x xs fp) (f:Fin):call F Z 272 [.c x,.agg f.enc] h=some (.c (.int .i64 (findI (fun a=>decide (f=a)) xs)),h):=by
 have hle:=w.le2
 rw[call_run F Z (hL.lk (g:=272) rfl) _ _ rfl]
 simp only[rn,RO.dst,lk,drop,Nat.reduceBEq,Nat.reduceAdd,Nat.reduceLeDiff,↓reduceIte,reduceCtorEq,w.len]
 have key:=loop_find (F:=F) (Z:=Z) (live:=[0,3,7,8]) (b:=r272L0) xs (fun a=>decide (f=a)) (fun i=>⟨[(0,.c x),(7,.c (.int .i64 (xs.length:Nat))),(8,.c (.int .i64 (i:Nat)))],[(3,3,0)],[(3,f.enc)],h⟩) (fun i s=>lk s.env 4=some (.c (.int .i64 (i:Nat)))∧s.hp=h) fun i hi=>by
  have hlt:(i:Int)<xs.length:=by omega
  have hws:=wrapS i (by omega)
  have hxi:=w.idx hi
  have hld:=w.load hi
  generalize xs[i]=a at *
  obtain ⟨t,d⟩:=a
  obtain ⟨t',d'⟩:=f
  rw[loop_run]
  conv in (codeF _ _ r272L0 _)=>unfold r272L0
  have fe:=fin_eqs t' d' t d
  simp only[rn,RO.dst,lk,drop,Nat.reduceBEq,Nat.reduceAdd,Nat.reduceLeDiff,↓reduceIte,reduceCtorEq,hlt,hxi,hld,Fin.enc,fe]
  clear hxi hld fe w
  (repeat' ((first | (rw[gF_if];split) | (rw[condC_if];split) | (rw[pickR_if];split))<;>(rename_i hh;(try simp only[Bool.not_eq_true,decide_eq_true_eq] at hh);simp only[hh,rn,RO.dst,lk,drop,Nat.reduceBEq,Nat.reduceAdd,Nat.reduceLeDiff,↓reduceIte,reduceCtorEq,hws])))<;>first
   | exact .inl ⟨by simp_all,rfl⟩
   | exact .inr ⟨by simp_all,_,rfl,rfl,rfl⟩
 have hlt: ¬(xs.length:Int)<xs.length:=by omega
 simp only[show ((0:Nat):Int)=0 from rfl] at key
 rcases key with ⟨k1,k2⟩ | ⟨i,k1,hi,s,k2,k3,k4⟩
 ·rw[k2,loop_run]
  conv in (codeF _ _ r272L0 _)=>unfold r272L0
  simp only[rn,RO.dst,lk,drop,Nat.reduceBEq,Nat.reduceAdd,Nat.reduceLeDiff,↓reduceIte,reduceCtorEq,hlt,findI,k1]
 ·rw[k2]
  simp only[rn,RO.dst,lk,drop,Nat.reduceBEq,Nat.reduceAdd,Nat.reduceLeDiff,↓reduceIte,reduceCtorEq,k3,k4,findI,k1]
theorem containsFin_run (hL:Has F tLibslicesIndeximplFinimplFin) (hC:Has F tLibslicesContainsimplFinimplFin) (w:SlR 9 (Fl Fin.enc) h x xs fp) (f:Fin):call F Z 266 [.c x,.agg f.enc] h=some (.c (.bool (decide (f∈xs))),h):=by
 rw[call_run F Z (hC.lk (g:=266) rfl) _ _ rfl]
 simp only[rn,RO.dst,lk,drop,Nat.reduceBEq,Nat.reduceAdd,Nat.reduceLeDiff,↓reduceIte,reduceCtorEq,Fin.len,Fin.tak,indexFin_run hL w f]
 congr 4
 unfold findI
 cases hf:xs.findIdx? (fun a=>decide (f=a)) with
 | none=>
   rw[List.findIdx?_eq_none_iff] at hf
   have: ¬f∈xs:=fun hm=>by simpa using hf f hm
   simp[this]
 | some i=>
   rw[List.findIdx?_eq_some_iff_getElem] at hf
   obtain ⟨hi,h2,_⟩:=hf
   have:f∈xs:=by
    have:f=xs[i]:=by simpa using h2
    rw[this];exact List.getElem_mem hi
   simp[this]
theorem Or2_run (hO:Has F tLibcmpOrint) {o:Nat} (a b:Int) (hg:h.get o=some [[.int .i64 a],[.int .i64 b]]):call F Z 275 [.c (.sl 15 o 0 2)] h=some (.c (.int .i64 (orI a b)),h):=by
 have l0: ∀j n,loadP h o 0 j n=cut? [.int .i64 a] j n:=fun j n=>by simp[loadP,rowOf,hg]
 have l1: ∀j n,loadP h o 1 j n=cut? [.int .i64 b] j n:=fun j n=>by simp[loadP,rowOf,hg]
 have i0:idxR 15 (some (.sl 15 o 0 2)) (some 0)=some (.ptr o 0 0):=rfl
 have i1:idxR 15 (some (.sl 15 o 0 2)) (some 1)=some (.ptr o 1 0):=rfl
 have w1:IntKind.i64.wrap (0+1)=1:=wrapI _ (by omega) (by omega)
 have w2:IntKind.i64.wrap (1+1)=2:=wrapI _ (by omega) (by omega)
 have c0:(0:Int)<((2:Nat):Int):=by omega
 have c1:(1:Int)<((2:Nat):Int):=by omega
 have c2: ¬(2:Int)<((2:Nat):Int):=by omega
 rw[call_run F Z (hO.lk (g:=275) rfl) _ _ rfl]
 simp only[rn,RO.dst,lk,drop,Nat.reduceBEq,Nat.reduceAdd,Nat.reduceLeDiff,↓reduceIte,reduceCtorEq]
 rw[loop_run]
 conv in (codeF _ _ r275L0 _)=>unfold r275L0
 by_cases ha:a=0
 ·subst ha
  simp only[rn,RO.dst,lk,drop,Nat.reduceBEq,Nat.reduceAdd,Nat.reduceLeDiff,↓reduceIte,reduceCtorEq,c0,i0,l0,w1]
  rw[loop_run]
  conv in (codeF _ _ r275L0 _)=>unfold r275L0
  by_cases hb:b=0
  ·subst hb
   simp only[rn,RO.dst,lk,drop,Nat.reduceBEq,Nat.reduceAdd,Nat.reduceLeDiff,↓reduceIte,reduceCtorEq,c1,i1,l1,w2]
   rw[loop_run]
   conv in (codeF _ _ r275L0 _)=>unfold r275L0
   simp only[rn,RO.dst,lk,drop,Nat.reduceBEq,Nat.reduceAdd,Nat.reduceLeDiff,↓reduceIte,reduceCtorEq,c2,orI]
  ·have hb':(b !=0)=true:=by simpa using hb
   simp only[rn,RO.dst,lk,drop,Nat.reduceBEq,Nat.reduceAdd,Nat.reduceLeDiff,↓reduceIte,reduceCtorEq,c1,i1,l1,hb',orI]
 ·have ha':(a !=0)=true:=by simpa using ha
  simp only[rn,RO.dst,lk,drop,Nat.reduceBEq,Nat.reduceAdd,Nat.reduceLeDiff,↓reduceIte,reduceCtorEq,c0,i0,l0,ha',orI,ha]
end
end Go.Proofs.Yteagcdhkobeanaa.A
namespace Go.Proofs.Yteagcdhkobeanaa.A
open Go
set_option linter.unusedSimpArgs false
set_option linter.unusedVariables false
def Account.at_ (xs:List Account) (i:Nat):Account:=xs[i]?.getD Account.none_
def Account.fine (a:Account):Bool:=decide (a.bal+a.hold+a.due≤18446744073709551615)&&(decide (0≤a.tx)&&(a.tx !=0||(a.hold==0&&a.due==0)))
def Account.fits (xs:List Account) (i:Nat):Bool:=(Account.at_ xs i).fine&&(i==0||decide ((Account.at_ xs (i-1)).id<(Account.at_ xs i).id))
def bookOk (xs:List Account):Bool:=(List.range xs.length).all (Account.fits xs)&&decide ((xs.length:Int)≤40)
section
variable {F:Nat→Option RF} {Z:CallF} {h:Heap} {x:Cell} {xs:List Account} {fp:List Nat}
set_option maxHeartbeats 4000000 in
theorem isBook_turn (w:SlR 11 (Fl Account.enc) h x xs fp) (hok: ∀t,t∈xs→t.Ok) (i:Nat) (hi:i<xs.length):
 Turn (loop F Z [1,10,11,12] r265L0 ⟨[(10,.c x),(11,.c (.int .i64 (xs.length:Nat))),(12,.c (.int .i64 (i:Nat)))],[(1,1,0)],[(1,[x])],h⟩)
  (loop F Z [1,10,11,12] r265L0 ⟨[(10,.c x),(11,.c (.int .i64 (xs.length:Nat))),(12,.c (.int .i64 ((i+1:Nat):Int)))],[(1,1,0)],[(1,[x])],h⟩) (Account.fits xs i) (fun s=>lk s.env 2=some (.c (.bool false))∧s.hp=h):=by
 have hle:=w.le2
 have hlt:(i:Int)<xs.length:=by omega
 have hws:=wrapS i (by omega)
 have o1:=hok _ (List.getElem_mem hi)
 have e1:Account.at_ xs i=xs[i]:=by simp[Account.at_,List.getElem?_eq_getElem hi]
 have hfit:Account.fits xs i=(xs[i].fine&&(i==0||decide ((Account.at_ xs (i-1)).id<xs[i].id))):=by simp only[Account.fits,e1]
 have hpre:0<i→IntKind.i64.wrap ((i:Int)-1)=((i-1:Nat):Int):=fun hp=>by rw[wrapI _ (by omega) (by omega)];omega
 rw[hfit]
 have hxi:=w.idx hi
 have hld:=w.load hi
 have hpi:0<i→idxR 11 (some x) (some ((i-1:Nat):Int))=some (.ptr x.sid (i-1) 0):=fun hp=>w.idx (by omega)
 have hpl:0<i→ ∀j n,loadP h x.sid (i-1) j n=cut? (Account.at_ xs (i-1)).enc j n:=fun hp=>w.loadD Account.none_ (by omega)
 clear w hfit e1 hok
 generalize Account.at_ xs (i-1)=pa at *
 generalize xs[i]=a at *
 obtain ⟨id,bal,hold,due,tx⟩:=a
 obtain ⟨a1,a2,a3,a4,a5⟩:=o1
 dsimp only at a1 a2 a3 a4 a5
 obtain ⟨b1,_⟩:=a2
 obtain ⟨b2,_⟩:=a3
 obtain ⟨b3,_⟩:=a4
 have hwb:IntKind.u64.wrap (bal+hold)=(bal+hold)%18446744073709551616:=rfl
 have b4:0≤(bal+hold)%18446744073709551616:=by omega
 have b5:(0:Int)≤0:=by omega
 have b6:(0:Int)≤1:=by omega
 have hwc:IntKind.u64.wrap ((bal+hold+0) / 18446744073709551616+((bal+hold)%18446744073709551616+due+0) / 18446744073709551616)=(bal+hold+0) / 18446744073709551616+((bal+hold)%18446744073709551616+due+0) / 18446744073709551616:=wrapU _ (by omega) (by omega)
 rw[loop_run]
 conv in (codeF _ _ r265L0 _)=>unfold r265L0
 simp only[rn,RO.dst,lk,drop,Nat.reduceBEq,Nat.reduceAdd,Nat.reduceLeDiff,↓reduceIte,reduceCtorEq,hlt,hxi,hld,Account.enc,b1,b2,b3,b4,b5,b6,and_self,hwb,hwc]
 by_cases hp:0<i
 ·have g1:(i:Int)>0:=by omega
  have hi0:(i==0)=false:=by simp;omega
  have q1:=hpre hp
  have q2:=hpi hp
  have q3:=hpl hp
  clear hxi hld hpre hpi hpl
  (repeat' ((first | (rw[gF_if];split) | (rw[condC_if];split) | (rw[pickR_if];split))<;>(rename_i hh;(try simp only[Bool.not_eq_true,decide_eq_true_eq] at hh);simp only[hh,rn,RO.dst,lk,drop,Nat.reduceBEq,Nat.reduceAdd,Nat.reduceLeDiff,↓reduceIte,reduceCtorEq,hws,g1,q1,q2,q3,Account.enc])))
  all_goals clear q2 q3
  all_goals first
   | (exfalso;omega)
   | exact .inl ⟨by simp_all[Account.fine]<;>omega,rfl⟩
   | exact .inr ⟨by simp_all[Account.fine]<;>omega,_,rfl,rfl,rfl⟩
 ·have g1: ¬(i:Int)>0:=by omega
  have hi0:(i==0)=true:=by simp;omega
  clear hxi hld hpre hpi hpl
  (repeat' ((first | (rw[gF_if];split) | (rw[condC_if];split) | (rw[pickR_if];split))<;>(rename_i hh;(try simp only[Bool.not_eq_true,decide_eq_true_eq] at hh);simp only[hh,rn,RO.dst,lk,drop,Nat.reduceBEq,Nat.reduceAdd,Nat.reduceLeDiff,↓reduceIte,reduceCtorEq,hws,g1,Account.enc])))
  all_goals first
   | (exfalso;omega)
   | exact .inl ⟨by simp_all[Account.fine]<;>omega,rfl⟩
   | exact .inr ⟨by simp_all[Account.fine]<;>omega,_,rfl,rfl,rfl⟩
theorem isBook_run (hI10:Has F tI10) (w:SlR 11 (Fl Account.enc) h x xs fp) (hok: ∀t,t∈xs→t.Ok):call F Z 265 [.agg [x]] h=some (.c (.bool (bookOk xs)),h):=by
 have key:=loop_allN (F:=F) (Z:=Z) (live:=[1,10,11,12]) (b:=r265L0) xs.length (fun i=>⟨[(10,.c x),(11,.c (.int .i64 (xs.length:Nat))),(12,.c (.int .i64 (i:Nat)))],[(1,1,0)],[(1,[x])],h⟩) (Account.fits xs) (fun s=>lk s.env 2=some (.c (.bool false))∧s.hp=h) fun i hi=>isBook_turn w hok i hi
 rw[call_run F Z (hI10.lk (g:=265) rfl) _ _ rfl]
 simp only[rn,RO.dst,lk,drop,Nat.reduceBEq,Nat.reduceAdd,Nat.reduceLeDiff,↓reduceIte,reduceCtorEq,w.len]
 simp only[show ((0:Nat):Int)=0 from rfl] at key
 have hlt: ¬(xs.length:Int)<xs.length:=by omega
 rcases key with ⟨k1,k2⟩ | ⟨k1,s,k2,k3,k4⟩
 ·rw[k2,loop_run]
  conv in (codeF _ _ r265L0 _)=>unfold r265L0
  simp only[rn,RO.dst,lk,drop,Nat.reduceBEq,Nat.reduceAdd,Nat.reduceLeDiff,↓reduceIte,reduceCtorEq,w.len,hlt,bookOk,k1,Bool.true_and]
 ·rw[k2]
  simp only[rn,RO.dst,lk,drop,Nat.reduceBEq,Nat.reduceAdd,Nat.reduceLeDiff,↓reduceIte,reduceCtorEq,k3,k4,bookOk,k1,Bool.false_and]
set_option maxHeartbeats 4000000 in
theorem sBookOk_turn (w:SlR 11 (Fl Account.enc) h x xs fp) (hok: ∀t,t∈xs→t.Ok) (i:Nat) (hi:i<xs.length):
 Turn (loop F Z [1,3] r241L0 ⟨[(3,.c (.int .i64 (i:Nat)))],[(1,1,0)],[(1,[x])],h⟩)
  (loop F Z [1,3] r241L0 ⟨[(3,.c (.int .i64 ((i+1:Nat):Int)))],[(1,1,0)],[(1,[x])],h⟩) (Account.fits xs i) (fun s=>lk s.env 2=some (.c (.bool false))∧s.hp=h):=by
 have hle:=w.le2
 have w0:=w.len
 have hlt:(i:Int)<xs.length:=by omega
 have hws:=wrapS i (by omega)
 have o1:=hok _ (List.getElem_mem hi)
 have e1:Account.at_ xs i=xs[i]:=by simp[Account.at_,List.getElem?_eq_getElem hi]
 have hfit:Account.fits xs i=(xs[i].fine&&(i==0||decide ((Account.at_ xs (i-1)).id<xs[i].id))):=by simp only[Account.fits,e1]
 have hpre:0<i→IntKind.i64.wrap ((i:Int)-1)=((i-1:Nat):Int):=fun hp=>by rw[wrapI _ (by omega) (by omega)];omega
 rw[hfit]
 have hxi:=w.idx hi
 have hld:=w.load hi
 have hpi:0<i→idxR 11 (some x) (some ((i-1:Nat):Int))=some (.ptr x.sid (i-1) 0):=fun hp=>w.idx (by omega)
 have hpl:0<i→ ∀j n,loadP h x.sid (i-1) j n=cut? (Account.at_ xs (i-1)).enc j n:=fun hp=>w.loadD Account.none_ (by omega)
 clear w hfit e1 hok
 generalize Account.at_ xs (i-1)=pa at *
 generalize xs[i]=a at *
 obtain ⟨id,bal,hold,due,tx⟩:=a
 obtain ⟨a1,a2,a3,a4,a5⟩:=o1
 dsimp only at a1 a2 a3 a4 a5
 obtain ⟨b1,b1'⟩:=a2
 obtain ⟨b2,_⟩:=a3
 obtain ⟨b3,_⟩:=a4
 have hwb:IntKind.u64.wrap (18446744073709551615-bal)=18446744073709551615-bal:=wrapU _ (by omega) (by omega)
 have hwc:hold≤18446744073709551615-bal→IntKind.u64.wrap (18446744073709551615-bal-hold)=18446744073709551615-bal-hold:=fun hh=>wrapU _ (by omega) (by omega)
 have hwl:=w0
 rw[loop_run]
 conv in (codeF _ _ r241L0 _)=>unfold r241L0
 simp only[rn,RO.dst,lk,drop,Nat.reduceBEq,Nat.reduceAdd,Nat.reduceLeDiff,↓reduceIte,reduceCtorEq,hwl,hlt,hxi,hld,Account.enc,hwb]
 by_cases hp:0<i
 ·have g1:(i:Int)>0:=by omega
  have hi0:(i==0)=false:=by simp;omega
  have q1:=hpre hp
  have q2:=hpi hp
  have q3:=hpl hp
  clear hxi hld hpre hpi hpl
  (repeat' ((first | (rw[gF_if];split) | (rw[condC_if];split) | (rw[pickR_if];split))<;>(rename_i hh;(try simp only[Bool.not_eq_true,decide_eq_true_eq] at hh);simp only[hh,rn,RO.dst,lk,drop,Nat.reduceBEq,Nat.reduceAdd,Nat.reduceLeDiff,↓reduceIte,reduceCtorEq,hws,g1,q1,q2,q3,Account.enc,hwb])))
  all_goals clear q2 q3
  all_goals first
   | (exfalso;omega)
   | exact .inl ⟨by simp_all[Account.fine]<;>omega,rfl⟩
   | exact .inr ⟨by simp_all[Account.fine]<;>omega,_,rfl,rfl,rfl⟩
 ·have g1: ¬(i:Int)>0:=by omega
  have hi0:(i==0)=true:=by simp;omega
  clear hxi hld hpre hpi hpl
  (repeat' ((first | (rw[gF_if];split) | (rw[condC_if];split) | (rw[pickR_if];split))<;>(rename_i hh;(try simp only[Bool.not_eq_true,decide_eq_true_eq] at hh);simp only[hh,rn,RO.dst,lk,drop,Nat.reduceBEq,Nat.reduceAdd,Nat.reduceLeDiff,↓reduceIte,reduceCtorEq,hws,g1,Account.enc,hwb])))
  all_goals first
   | (exfalso;omega)
   | exact .inl ⟨by simp_all[Account.fine]<;>omega,rfl⟩
   | exact .inr ⟨by simp_all[Account.fine]<;>omega,_,rfl,rfl,rfl⟩
theorem sBookOk_run (hS10:Has F tS10) (w:SlR 11 (Fl Account.enc) h x xs fp) (hok: ∀t,t∈xs→t.Ok):call F Z 241 [.agg [x]] h=some (.c (.bool (bookOk xs)),h):=by
 have key:=loop_allN (F:=F) (Z:=Z) (live:=[1,3]) (b:=r241L0) xs.length (fun i=>⟨[(3,.c (.int .i64 (i:Nat)))],[(1,1,0)],[(1,[x])],h⟩) (Account.fits xs) (fun s=>lk s.env 2=some (.c (.bool false))∧s.hp=h) fun i hi=>sBookOk_turn w hok i hi
 rw[call_run F Z (hS10.lk (g:=241) rfl) _ _ rfl]
 simp only[rn,RO.dst,lk,drop,Nat.reduceBEq,Nat.reduceAdd,Nat.reduceLeDiff,↓reduceIte,reduceCtorEq,w.len]
 simp only[show ((0:Nat):Int)=0 from rfl] at key
 have hlt: ¬(xs.length:Int)<xs.length:=by omega
 by_cases hn:(xs.length:Int)>40
 ·have: ¬(xs.length:Int)≤40:=by omega
  simp only[rn,RO.dst,lk,drop,Nat.reduceBEq,Nat.reduceAdd,Nat.reduceLeDiff,↓reduceIte,reduceCtorEq,hn,bookOk,this,Bool.and_false]
 ·have h40:(xs.length:Int)≤40:=by omega
  simp only[rn,RO.dst,lk,drop,Nat.reduceBEq,Nat.reduceAdd,Nat.reduceLeDiff,↓reduceIte,reduceCtorEq,hn]
  rcases key with ⟨k1,k2⟩ | ⟨k1,s,k2,k3,k4⟩
  ·rw[k2,loop_run]
   conv in (codeF _ _ r241L0 _)=>unfold r241L0
   simp only[rn,RO.dst,lk,drop,Nat.reduceBEq,Nat.reduceAdd,Nat.reduceLeDiff,↓reduceIte,reduceCtorEq,w.len,hlt,bookOk,k1,Bool.true_and,h40]
  ·rw[k2]
   simp only[rn,RO.dst,lk,drop,Nat.reduceBEq,Nat.reduceAdd,Nat.reduceLeDiff,↓reduceIte,reduceCtorEq,k3,k4,bookOk,k1,Bool.false_and]
end
end Go.Proofs.Yteagcdhkobeanaa.A
namespace Go.Proofs.Yteagcdhkobeanaa.A
open Go
set_option linter.unusedSimpArgs false
set_option linter.unusedVariables false
def Fin.at_ (xs:List Fin) (i:Nat):Fin:=xs[i]?.getD Fin.none_
def Shard.acc (s:Shard) (a:Account):Bool:=decide (s.lo≤a.id)&&(decide (a.id≤s.hi)&& !decide ((⟨a.tx,a.id⟩:Fin)∈s.finished))
def Shard.finAt (s:Shard) (i:Nat):Bool:=decide (1≤(Fin.at_ s.finished i).tx)&&(decide (s.lo≤(Fin.at_ s.finished i).id)&&(decide ((Fin.at_ s.finished i).id≤s.hi)&&(i==0||decide (cmpFin (Fin.at_ s.finished (i-1)) (Fin.at_ s.finished i)<0))))
section
variable {F:Nat→Option RF} {Z:CallF} {h:Heap} {x:Cell} {xs:List Fin} {fp:List Nat}
theorem compareFins_run (hI13:Has F tI13) (h1:Has F tLibcmpCompareint) (h2:Has F tLibcmpCompareuint64) (h3:Has F tLibcmpOrint) (h4:Has F tLibcmpisNaNint) (h5:Has F tLibcmpisNaNuint64) (f g:Fin) (h:Heap):
 call F Z 267 [.agg f.enc,.agg g.enc] h=some (.c (.int .i64 (cmpFin f g)),h.push [[.int .i64 (cmpI f.tx g.tx)],[.int .i64 (cmpI f.id g.id)]]):=by
 obtain ⟨t,d⟩:=f
 obtain ⟨t',d'⟩:=g
 have ho:=Or2_run (Z:=Z) (h:=⟨(h.push [[.int .i64 (cmpI t t')],[.int .i64 (cmpI d d')]]).next,(h.push [[.int .i64 (cmpI t t')],[.int .i64 (cmpI d d')]]).next,(h.push [[.int .i64 (cmpI t t')],[.int .i64 (cmpI d d')]]).get⟩) h3 (o:=h.next) (cmpI t t') (cmpI d d') (push_get _ _)
 rw[call_run F Z (hI13.lk (g:=267) rfl) _ _ rfl]
 simp only[rn,RO.dst,lk,drop,Nat.reduceBEq,Nat.reduceAdd,Nat.reduceLeDiff,↓reduceIte,reduceCtorEq,Fin.enc,Compare_int_run h1 h4,Compare_u64_run h2 h5,List.replicate_succ,List.replicate_zero,fills,and_self,Nat.zero_lt_succ,Nat.reduceLT,List.set_cons_zero,List.set_cons_succ,ho]
 rfl
variable {s:Shard} {y:Cell} {fq:List Nat}
set_option maxHeartbeats 2000000 in
theorem isShard_accs (hL:Has F tLibslicesIndeximplFinimplFin) (hC:Has F tLibslicesContainsimplFinimplFin) (w:SlR 11 (Fl Account.enc) h x s.book.list fp) (v:SlR 9 (Fl Fin.enc) h y s.finished fq):
 Turn (loop F Z [1,46,47,48] r244L1 ⟨[(46,.c x),(47,.c (.int .i64 (s.book.list.length:Nat))),(48,.c (.int .i64 (0:Nat)))],[(1,1,0)],[(1,[.int .u64 s.lo,.int .u64 s.hi,.int .i64 s.state,.int .i64 s.epoch,x,y])],h⟩)
  (loop F Z [1,46,47,48] r244L1 ⟨[(46,.c x),(47,.c (.int .i64 (s.book.list.length:Nat))),(48,.c (.int .i64 (s.book.list.length:Nat)))],[(1,1,0)],[(1,[.int .u64 s.lo,.int .u64 s.hi,.int .i64 s.state,.int .i64 s.epoch,x,y])],h⟩) (s.book.list.all s.acc) (fun s=>lk s.env 2=some (.c (.bool false))∧s.hp=h):=by
 have hle:=w.le2
 refine loop_all (F:=F) (Z:=Z) (live:=[1,46,47,48]) (b:=r244L1) s.book.list (fun i=>⟨[(46,.c x),(47,.c (.int .i64 (s.book.list.length:Nat))),(48,.c (.int .i64 (i:Nat)))],[(1,1,0)],[(1,[.int .u64 s.lo,.int .u64 s.hi,.int .i64 s.state,.int .i64 s.epoch,x,y])],h⟩) s.acc _ fun i hi=> ?_
 have hlt:(i:Int)<s.book.list.length:=by omega
 have hws:=wrapS i (by omega)
 have hxi:=w.idx hi
 have hld:=w.load hi
 have hc: ∀t d,call F Z 266 [.c y,.agg [.int .i64 t,.int .u64 d]] h=some (.c (.bool (decide ((⟨t,d⟩:Fin)∈s.finished))),h):=fun t d=>containsFin_run hL hC v ⟨t,d⟩
 rw[loop_run]
 conv in (codeF _ _ r244L1 _)=>unfold r244L1
 simp only[rn,RO.dst,lk,drop,Nat.reduceBEq,Nat.reduceAdd,Nat.reduceLeDiff,↓reduceIte,reduceCtorEq,hlt,hxi,hld,Account.enc,hc]
 generalize s.book.list[i]=a
 clear hxi hld w v
 (repeat' ((first | (rw[gF_if];split) | (rw[condC_if];split) | (rw[pickR_if];split))<;>(rename_i hh;(try simp only[Bool.not_eq_true,decide_eq_true_eq] at hh);simp only[hh,rn,RO.dst,lk,drop,Nat.reduceBEq,Nat.reduceAdd,Nat.reduceLeDiff,↓reduceIte,reduceCtorEq,hws,hc])))<;>clear hc<;>first
  | exact .inl ⟨by simp_all[Shard.acc]<;>omega,rfl⟩
  | exact .inr ⟨by simp_all[Shard.acc]<;>omega,_,rfl,rfl,rfl⟩
set_option maxHeartbeats 4000000 in
theorem isShard_fins (hI13:Has F tI13) (h1:Has F tLibcmpCompareint) (h2:Has F tLibcmpCompareuint64) (h3:Has F tLibcmpOrint) (h4:Has F tLibcmpisNaNint) (h5:Has F tLibcmpisNaNuint64) (v:SlR 9 (Fl Fin.enc) h y s.finished fq):
 (∃s',(∃g,s'=⟨[(76,.c y),(77,.c (.int .i64 (s.finished.length:Nat))),(78,.c (.int .i64 (s.finished.length:Nat)))],[(1,1,0)],[(1,[.int .u64 s.lo,.int .u64 s.hi,.int .i64 s.state,.int .i64 s.epoch,x,y])],g⟩∧On h g∧ ∀j,j<s.finished.length→s.finAt j=true)∧
  loop F Z [1,76,77,78] r244L0 ⟨[(76,.c y),(77,.c (.int .i64 (s.finished.length:Nat))),(78,.c (.int .i64 (0:Nat)))],[(1,1,0)],[(1,[.int .u64 s.lo,.int .u64 s.hi,.int .i64 s.state,.int .i64 s.epoch,x,y])],h⟩=loop F Z [1,76,77,78] r244L0 s')∨
  ∃s',loop F Z [1,76,77,78] r244L0 ⟨[(76,.c y),(77,.c (.int .i64 (s.finished.length:Nat))),(78,.c (.int .i64 (0:Nat)))],[(1,1,0)],[(1,[.int .u64 s.lo,.int .u64 s.hi,.int .i64 s.state,.int .i64 s.epoch,x,y])],h⟩=some (.ret,s')∧(lk s'.env 2=some (.c (.bool false))∧On h s'.hp∧ ∃j,j<s.finished.length∧s.finAt j=false):=by
 have hle:=v.le2
 refine loop_rel (F:=F) (Z:=Z) (live:=[1,76,77,78]) (b:=r244L0) s.finished.length (fun i s'=> ∃g,s'=⟨[(76,.c y),(77,.c (.int .i64 (s.finished.length:Nat))),(78,.c (.int .i64 (i:Nat)))],[(1,1,0)],[(1,[.int .u64 s.lo,.int .u64 s.hi,.int .i64 s.state,.int .i64 s.epoch,x,y])],g⟩∧On h g∧ ∀j,j<i→s.finAt j=true) _ (fun i s' hi ⟨g,hs,og,hall⟩=> ?_) ⟨h,rfl,On.refl h,fun j hj=>absurd hj (Nat.not_lt_zero _)⟩
 subst hs
 have hlt:(i:Int)<s.finished.length:=by omega
 have hws:=wrapS i (by omega)
 have hxi:=v.idx hi
 have vg:=v.on (Fl.ok _) og
 have hld: ∀j n,loadP g y.sid i j n=cut? (Fin.at_ s.finished i).enc j n:=vg.loadD Fin.none_ hi
 have hfin:s.finAt i=(decide (1≤(Fin.at_ s.finished i).tx)&&(decide (s.lo≤(Fin.at_ s.finished i).id)&&(decide ((Fin.at_ s.finished i).id≤s.hi)&&(i==0||decide (cmpFin (Fin.at_ s.finished (i-1)) (Fin.at_ s.finished i)<0))))):=rfl
 have good:s.finAt i=true→ ∀j,j<i+1→s.finAt j=true:=fun hg j hj=>by
  by_cases he:j=i
  ·rw[he];exact hg
  ·exact hall j (by omega)
 have bad:s.finAt i=false→ ∃j,j<s.finished.length∧s.finAt j=false:=fun hb=>⟨i,hi,hb⟩
 have hpre:0<i→IntKind.i64.wrap ((i:Int)-1)=((i-1:Nat):Int):=fun hp=>by rw[wrapI _ (by omega) (by omega)];omega
 have hpi:0<i→idxR 9 (some y) (some ((i-1:Nat):Int))=some (.ptr y.sid (i-1) 0):=fun hp=>v.idx (by omega)
 have hpl:0<i→ ∀j n,loadP g y.sid (i-1) j n=cut? (Fin.at_ s.finished (i-1)).enc j n:=fun hp=>vg.loadD Fin.none_ (by omega)
 clear v vg hall
 generalize s.finAt i=fa at *
 generalize Fin.at_ s.finished (i-1)=pf at *
 generalize Fin.at_ s.finished i=f at *
 have cf:=compareFins_run (Z:=Z) hI13 h1 h2 h3 h4 h5 pf f ⟨g.next,g.next,g.get⟩
 have og':=og.trans (On.push g [[.int .i64 (cmpI pf.tx f.tx)],[.int .i64 (cmpI pf.id f.id)]])
 obtain ⟨k,hk⟩: ∃k,Heap.mk ((Heap.mk g.next g.next g.get).push [[.int .i64 (cmpI pf.tx f.tx)],[.int .i64 (cmpI pf.id f.id)]]).next g.floor ((Heap.mk g.next g.next g.get).push [[.int .i64 (cmpI pf.tx f.tx)],[.int .i64 (cmpI pf.id f.id)]]).get=k:=⟨_,rfl⟩
 have ok':On h k:=by rw[←hk];exact og'
 obtain ⟨t,d⟩:=f
 obtain ⟨t',d'⟩:=pf
 simp only[Fin.enc] at cf hld hpl
 rw[loop_run]
 conv in (codeF _ _ r244L0 _)=>unfold r244L0
 simp only[rn,RO.dst,lk,drop,Nat.reduceBEq,Nat.reduceAdd,Nat.reduceLeDiff,↓reduceIte,reduceCtorEq,hlt,hxi,hld]
 by_cases hp:0<i
 ·have g1:(i:Int)>0:=by omega
  have hi0:(i==0)=false:=by simp;omega
  have q1:=hpre hp
  have q2:=hpi hp
  have q3:=hpl hp
  clear hxi hpre hpi hpl
  (repeat' ((first | (rw[gF_if];split) | (rw[condC_if];split) | (rw[pickR_if];split))<;>(rename_i hh;(try simp only[Bool.not_eq_true,decide_eq_true_eq] at hh);simp only[hh,rn,RO.dst,lk,drop,Nat.reduceBEq,Nat.reduceAdd,Nat.reduceLeDiff,↓reduceIte,reduceCtorEq,hws,g1,q1,q2,q3,cf,hk,hld])))
  all_goals clear q2 q3 cf hk hld og'
  all_goals first
   | (exfalso;omega)
   | exact Or.inl ⟨_,⟨_,rfl,og,good (by simp_all<;>omega)⟩,rfl⟩
   | exact Or.inl ⟨_,⟨_,rfl,ok',good (by simp_all<;>omega)⟩,rfl⟩
   | exact Or.inr ⟨_,rfl,rfl,og,bad (by simp_all<;>omega)⟩
   | exact Or.inr ⟨_,rfl,rfl,ok',bad (by simp_all<;>omega)⟩
 ·have g1: ¬(i:Int)>0:=by omega
  have hi0:(i==0)=true:=by simp;omega
  clear hxi hpre hpi hpl cf hk
  (repeat' ((first | (rw[gF_if];split) | (rw[condC_if];split) | (rw[pickR_if];split))<;>(rename_i hh;(try simp only[Bool.not_eq_true,decide_eq_true_eq] at hh);simp only[hh,rn,RO.dst,lk,drop,Nat.reduceBEq,Nat.reduceAdd,Nat.reduceLeDiff,↓reduceIte,reduceCtorEq,hws,g1,hld])))
  all_goals clear hld og'
  all_goals first
   | (exfalso;omega)
   | exact Or.inl ⟨_,⟨_,rfl,og,good (by simp_all<;>omega)⟩,rfl⟩
   | exact Or.inr ⟨_,rfl,rfl,og,bad (by simp_all<;>omega)⟩
end
end Go.Proofs.Yteagcdhkobeanaa.A
namespace Go.Proofs.Yteagcdhkobeanaa.A
open Go
set_option linter.unusedSimpArgs false
set_option linter.unusedVariables false
def Shard.head (s:Shard):Bool:=decide (s.lo≤s.hi)&&((s.state==0||s.state==1)&&(inR s.epoch 1 1000000&&(bookOk s.book.list&&decide ((s.finished.length:Int)≤60))))
def Shard.good (s:Shard):Bool:=s.head&&(s.book.list.all s.acc&&(List.range s.finished.length).all s.finAt)
section
variable {F:Nat→Option RF} {Z:CallF} {h:Heap} {cs:List Cell} {s:Shard} {fp:List Nat}
set_option maxHeartbeats 4000000 in
theorem isShard_run (hI10:Has F tI10) (hI13:Has F tI13) (h1:Has F tLibcmpCompareint) (h2:Has F tLibcmpCompareuint64) (h3:Has F tLibcmpOrint) (h4:Has F tLibcmpisNaNint) (h5:Has F tLibcmpisNaNuint64) (hL:Has F tLibslicesIndeximplFinimplFin) (hC:Has F tLibslicesContainsimplFinimplFin)
 (v:Shard.RI h cs s fp) (ok:s.Ok): ∃h',call F Z 244 [.agg cs] h=some (.c (.bool s.good),h')∧On h h':=by
 obtain ⟨x,p,y,q,rfl,rfl,w,u⟩:=v
 have hB:=isBook_run (Z:=Z) hI10 w ok.book.list
 have ka:=isShard_accs (Z:=Z) (s:=s) hL hC w u
 have kf:=isShard_fins (Z:=Z) (s:=s) (x:=x) hI13 h1 h2 h3 h4 h5 u
 have l1:=w.len
 have l2:=u.len
 have n1: ¬(s.book.list.length:Int)<s.book.list.length:=by omega
 have n2: ¬(s.finished.length:Int)<s.finished.length:=by omega
 clear w u
 rw[call_run F Z (hI13.lk (g:=244) rfl) _ _ rfl]
 simp only[show ((0:Nat):Int)=0 from rfl] at ka kf
 cases hd:s.head with
 | false=>
   have hg:s.good=false:=by simp[Shard.good,hd]
   rw[hg]
   simp only[rn,RO.dst,lk,drop,Nat.reduceBEq,Nat.reduceAdd,Nat.reduceLeDiff,↓reduceIte,reduceCtorEq,hB,l2]
   clear ka kf
   (repeat' ((first | (rw[gF_if];split) | (rw[condC_if];split) | (rw[pickR_if];split))<;>(rename_i hh;(try simp only[Bool.not_eq_true,decide_eq_true_eq] at hh);simp only[hh,rn,RO.dst,lk,drop,Nat.reduceBEq,Nat.reduceAdd,Nat.reduceLeDiff,↓reduceIte,reduceCtorEq,hB,l2,l1])))
   all_goals clear hB l1 l2
   all_goals first
    | exact ⟨_,rfl,On.refl h⟩
    | (exfalso;simp_all[Shard.head,inR];done)
    | (exfalso;simp_all[Shard.head,inR];omega)
 | true=>
   have hg:s.good=(s.book.list.all s.acc&&(List.range s.finished.length).all s.finAt):=by simp[Shard.good,hd]
   rw[hg]
   simp only[Shard.head,Bool.and_eq_true,decide_eq_true_eq,Bool.or_eq_true,beq_iff_eq,inR] at hd
   obtain ⟨d1,d2,⟨d3,d4⟩,d5,d6⟩:=hd
   rw[d5] at hB
   have c1: ¬s.lo>s.hi:=by omega
   have c3: ¬s.epoch<1:=by omega
   have c4: ¬s.epoch>1000000:=by omega
   have c6: ¬(s.finished.length:Int)>60:=by omega
   have c2:(s.state !=0)=false∨((s.state !=0)=true∧(s.state !=1)=false):=by
    rcases d2 with d2 | d2<;>simp[d2]
   rcases c2 with c2 | ⟨c2,c2'⟩
   ·simp only[rn,RO.dst,lk,drop,Nat.reduceBEq,Nat.reduceAdd,Nat.reduceLeDiff,↓reduceIte,reduceCtorEq,hB,l1,l2,c1,c2,c3,c4,c6]
    rcases ka with ⟨a1,a2⟩ | ⟨a1,s',a2,a3,a4⟩
    ·rw[a2,loop_run]
     conv in (codeF _ _ r244L1 _)=>unfold r244L1
     simp only[rn,RO.dst,lk,drop,Nat.reduceBEq,Nat.reduceAdd,Nat.reduceLeDiff,↓reduceIte,reduceCtorEq,n1,l2]
     rcases kf with ⟨s'',⟨g,hs,og,hall⟩,e⟩ | ⟨s'',e,b1,b2,j,hj,b3⟩
     ·subst hs
      rw[e,loop_run]
      conv in (codeF _ _ r244L0 _)=>unfold r244L0
      simp only[rn,RO.dst,lk,drop,Nat.reduceBEq,Nat.reduceAdd,Nat.reduceLeDiff,↓reduceIte,reduceCtorEq,n2]
      have ha:(List.range s.finished.length).all s.finAt=true:=List.all_eq_true.2 fun j hj=>hall j (by simpa using hj)
      exact ⟨_,by rw[a1,ha];rfl,og⟩
     ·rw[e]
      simp only[rn,RO.dst,lk,drop,Nat.reduceBEq,Nat.reduceAdd,Nat.reduceLeDiff,↓reduceIte,reduceCtorEq,b1]
      have ha:(List.range s.finished.length).all s.finAt=false:=by
       rw[List.all_eq_false]
       exact ⟨j,by simpa using hj,by simp[b3]⟩
      exact ⟨_,by rw[a1,ha];rfl,b2⟩
    ·rw[a2]
     simp only[rn,RO.dst,lk,drop,Nat.reduceBEq,Nat.reduceAdd,Nat.reduceLeDiff,↓reduceIte,reduceCtorEq,a3,a4]
     exact ⟨_,by rw[a1];rfl,On.refl h⟩
   ·simp only[rn,RO.dst,lk,drop,Nat.reduceBEq,Nat.reduceAdd,Nat.reduceLeDiff,↓reduceIte,reduceCtorEq,hB,l1,l2,c1,c2,c2',c3,c4,c6]
    rcases ka with ⟨a1,a2⟩ | ⟨a1,s',a2,a3,a4⟩
    ·rw[a2,loop_run]
     conv in (codeF _ _ r244L1 _)=>unfold r244L1
     simp only[rn,RO.dst,lk,drop,Nat.reduceBEq,Nat.reduceAdd,Nat.reduceLeDiff,↓reduceIte,reduceCtorEq,n1,l2]
     rcases kf with ⟨s'',⟨g,hs,og,hall⟩,e⟩ | ⟨s'',e,b1,b2,j,hj,b3⟩
     ·subst hs
      rw[e,loop_run]
      conv in (codeF _ _ r244L0 _)=>unfold r244L0
      simp only[rn,RO.dst,lk,drop,Nat.reduceBEq,Nat.reduceAdd,Nat.reduceLeDiff,↓reduceIte,reduceCtorEq,n2]
      have ha:(List.range s.finished.length).all s.finAt=true:=List.all_eq_true.2 fun j hj=>hall j (by simpa using hj)
      exact ⟨_,by rw[a1,ha];rfl,og⟩
     ·rw[e]
      simp only[rn,RO.dst,lk,drop,Nat.reduceBEq,Nat.reduceAdd,Nat.reduceLeDiff,↓reduceIte,reduceCtorEq,b1]
      have ha:(List.range s.finished.length).all s.finAt=false:=by
       rw[List.all_eq_false]
       exact ⟨j,by simpa using hj,by simp[b3]⟩
      exact ⟨_,by rw[a1,ha];rfl,b2⟩
    ·rw[a2]
     simp only[rn,RO.dst,lk,drop,Nat.reduceBEq,Nat.reduceAdd,Nat.reduceLeDiff,↓reduceIte,reduceCtorEq,a3,a4]
     exact ⟨_,by rw[a1];rfl,On.refl h⟩
end
end Go.Proofs.Yteagcdhkobeanaa.A
namespace Go.Proofs.Yteagcdhkobeanaa.A
open Go
set_option linter.unusedSimpArgs false
set_option linter.unusedVariables false
theorem cmpFin_lt (f g:Fin):decide (cmpFin f g<0)=(decide (f.tx<g.tx)||(f.tx==g.tx&&decide (f.id<g.id))):=by
 unfold cmpFin orI
 by_cases h1:f.tx<g.tx
 ·have e:cmpI f.tx g.tx= -1:=by simp[cmpI,h1]
  rw[if_neg (by rw[e];decide),e]
  simp[h1]
 ·by_cases h2:g.tx<f.tx
  ·have e:cmpI f.tx g.tx=1:=by simp[cmpI,h1,h2]
   rw[if_neg (by rw[e];decide),e]
   have:(f.tx==g.tx)=false:=by simp;omega
   simp[h1,this]
  ·have e:cmpI f.tx g.tx=0:=by simp[cmpI,h1,h2]
   rw[if_pos e]
   have ht:(f.tx==g.tx)=true:=by simp;omega
   by_cases h3:f.id<g.id
   ·have e3:cmpI f.id g.id= -1:=by simp[cmpI,h3]
    rw[e3];simp[h1,ht,h3]
   ·have e3: ¬cmpI f.id g.id<0:=by
     unfold cmpI
     rw[if_neg h3]
     split<;>omega
    simp[e3,h1,h3]
section
variable {F:Nat→Option RF} {Z:CallF} {h:Heap} {x:Cell} {xs:List Fin} {fp:List Nat}
theorem l13Before_run (hS13:Has F tS13) (f g:Fin) (h:Heap):call F Z 242 [.agg f.enc,.agg g.enc] h=some (.c (.bool (decide (cmpFin f g<0))),h):=by
 rw[cmpFin_lt]
 obtain ⟨t,d⟩:=f
 obtain ⟨t',d'⟩:=g
 rw[call_run F Z (hS13.lk (g:=242) rfl) _ _ rfl]
 simp only[Fin.enc,rn,RO.dst,lk,drop,Nat.reduceBEq,Nat.reduceAdd,Nat.reduceLeDiff,↓reduceIte,reduceCtorEq]
 (repeat' ((first | (rw[gF_if];split) | (rw[condC_if];split) | (rw[pickR_if];split))<;>(rename_i hh;(try simp only[Bool.not_eq_true,decide_eq_true_eq] at hh);simp only[hh,rn,RO.dst,lk,drop,Nat.reduceBEq,Nat.reduceAdd,Nat.reduceLeDiff,↓reduceIte,reduceCtorEq])))<;>refine fin_bool ?_<;>simp_all<;>omega
theorem l13Has_run (hS13:Has F tS13) (w:SlR 9 (Fl Fin.enc) h x xs fp) (f:Fin):call F Z 243 [.c x,.agg f.enc] h=some (.c (.bool (decide (f∈xs))),h):=by
 have hle:=w.le2
 have hwl:=w.len
 rw[call_run F Z (hS13.lk (g:=243) rfl) _ _ rfl]
 simp only[rn,RO.dst,lk,drop,Nat.reduceBEq,Nat.reduceAdd,Nat.reduceLeDiff,↓reduceIte,reduceCtorEq]
 have key:=loop_find (F:=F) (Z:=Z) (live:=[0,3,5]) (b:=r243L0) xs (fun a=>decide (a=f)) (fun i=>⟨[(0,.c x),(5,.c (.int .i64 (i:Nat)))],[(3,3,0)],[(3,f.enc)],h⟩) (fun i s=>lk s.env 4=some (.c (.bool true))∧s.hp=h) fun i hi=>by
  have hlt:(i:Int)<xs.length:=by omega
  have hws:=wrapS i (by omega)
  have hxi:=w.idx hi
  have hld:=w.load hi
  generalize xs[i]=a at *
  obtain ⟨t,d⟩:=a
  obtain ⟨t',d'⟩:=f
  rw[loop_run]
  conv in (codeF _ _ r243L0 _)=>unfold r243L0
  have fe:=fin_eqs t d t' d'
  simp only[rn,RO.dst,lk,drop,Nat.reduceBEq,Nat.reduceAdd,Nat.reduceLeDiff,↓reduceIte,reduceCtorEq,hwl,hlt,hxi,hld,Fin.enc,fe]
  clear hxi hld fe w
  (repeat' ((first | (rw[gF_if];split) | (rw[condC_if];split) | (rw[pickR_if];split))<;>(rename_i hh;(try simp only[Bool.not_eq_true,decide_eq_true_eq] at hh);simp only[hh,rn,RO.dst,lk,drop,Nat.reduceBEq,Nat.reduceAdd,Nat.reduceLeDiff,↓reduceIte,reduceCtorEq,hws])))<;>first
   | exact .inl ⟨by simp_all,rfl⟩
   | exact .inr ⟨by simp_all,_,rfl,rfl,rfl⟩
 have hlt: ¬(xs.length:Int)<xs.length:=by omega
 simp only[show ((0:Nat):Int)=0 from rfl] at key
 rcases key with ⟨k1,k2⟩ | ⟨i,k1,hi,s,k2,k3,k4⟩
 ·rw[k2,loop_run]
  conv in (codeF _ _ r243L0 _)=>unfold r243L0
  rw[List.findIdx?_eq_none_iff] at k1
  have: ¬f∈xs:=fun hm=>by simpa using k1 f hm
  simp only[rn,RO.dst,lk,drop,Nat.reduceBEq,Nat.reduceAdd,Nat.reduceLeDiff,↓reduceIte,reduceCtorEq,hwl,hlt,this]
 ·rw[k2]
  rw[List.findIdx?_eq_some_iff_getElem] at k1
  obtain ⟨hi,h2,_⟩:=k1
  have:f∈xs:=by
   have:xs[i]=f:=by simpa using h2
   rw[←this];exact List.getElem_mem hi
  simp only[rn,RO.dst,lk,drop,Nat.reduceBEq,Nat.reduceAdd,Nat.reduceLeDiff,↓reduceIte,reduceCtorEq,k3,k4,this]
end
end Go.Proofs.Yteagcdhkobeanaa.A
namespace Go.Proofs.Yteagcdhkobeanaa.A
open Go
set_option linter.unusedSimpArgs false
set_option linter.unusedVariables false
section
variable {F:Nat→Option RF} {Z:CallF} {h:Heap} {cs:List Cell} {s:Shard} {fp fq:List Nat} {x y:Cell}
set_option maxHeartbeats 2000000 in
theorem l13Shard_accs (hS13:Has F tS13) (w:SlR 11 (Fl Account.enc) h x s.book.list fp) (v:SlR 9 (Fl Fin.enc) h y s.finished fq):
 Turn (loop F Z [1,5] r204L0 ⟨[(5,.c (.int .i64 (0:Nat)))],[(1,1,0)],[(1,[.int .u64 s.lo,.int .u64 s.hi,.int .i64 s.state,.int .i64 s.epoch,x,y])],h⟩)
  (loop F Z [1,5] r204L0 ⟨[(5,.c (.int .i64 (s.book.list.length:Nat)))],[(1,1,0)],[(1,[.int .u64 s.lo,.int .u64 s.hi,.int .i64 s.state,.int .i64 s.epoch,x,y])],h⟩) (s.book.list.all s.acc) (fun s=>lk s.env 2=some (.c (.bool false))∧s.hp=h):=by
 have hle:=w.le2
 refine loop_all (F:=F) (Z:=Z) (live:=[1,5]) (b:=r204L0) s.book.list (fun i=>⟨[(5,.c (.int .i64 (i:Nat)))],[(1,1,0)],[(1,[.int .u64 s.lo,.int .u64 s.hi,.int .i64 s.state,.int .i64 s.epoch,x,y])],h⟩) s.acc _ fun i hi=> ?_
 have hlt:(i:Int)<s.book.list.length:=by omega
 have hws:=wrapS i (by omega)
 have hwl:=w.len
 have hxi:=w.idx hi
 have hld:=w.load hi
 have hc: ∀t d,call F Z 243 [.c y,.agg [.int .i64 t,.int .u64 d]] h=some (.c (.bool (decide ((⟨t,d⟩:Fin)∈s.finished))),h):=fun t d=>l13Has_run hS13 v ⟨t,d⟩
 rw[loop_run]
 conv in (codeF _ _ r204L0 _)=>unfold r204L0
 simp only[rn,RO.dst,lk,drop,Nat.reduceBEq,Nat.reduceAdd,Nat.reduceLeDiff,↓reduceIte,reduceCtorEq,hwl,hlt,hxi,hld,Account.enc,hc]
 generalize s.book.list[i]=a
 clear hxi hld w v
 (repeat' ((first | (rw[gF_if];split) | (rw[condC_if];split) | (rw[pickR_if];split))<;>(rename_i hh;(try simp only[Bool.not_eq_true,decide_eq_true_eq] at hh);simp only[hh,rn,RO.dst,lk,drop,Nat.reduceBEq,Nat.reduceAdd,Nat.reduceLeDiff,↓reduceIte,reduceCtorEq,hws,hc])))<;>clear hc<;>first
  | exact .inl ⟨by simp_all[Shard.acc]<;>omega,rfl⟩
  | exact .inr ⟨by simp_all[Shard.acc]<;>omega,_,rfl,rfl,rfl⟩
set_option maxHeartbeats 4000000 in
theorem l13Shard_fins (hS13:Has F tS13) (v:SlR 9 (Fl Fin.enc) h y s.finished fq):
 Turn (loop F Z [1,3] r204L1 ⟨[(3,.c (.int .i64 (0:Nat)))],[(1,1,0)],[(1,[.int .u64 s.lo,.int .u64 s.hi,.int .i64 s.state,.int .i64 s.epoch,x,y])],h⟩)
  (loop F Z [1,3] r204L1 ⟨[(3,.c (.int .i64 (s.finished.length:Nat)))],[(1,1,0)],[(1,[.int .u64 s.lo,.int .u64 s.hi,.int .i64 s.state,.int .i64 s.epoch,x,y])],h⟩) ((List.range s.finished.length).all s.finAt) (fun s=>lk s.env 2=some (.c (.bool false))∧s.hp=h):=by
 have hle:=v.le2
 refine loop_allN (F:=F) (Z:=Z) (live:=[1,3]) (b:=r204L1) s.finished.length (fun i=>⟨[(3,.c (.int .i64 (i:Nat)))],[(1,1,0)],[(1,[.int .u64 s.lo,.int .u64 s.hi,.int .i64 s.state,.int .i64 s.epoch,x,y])],h⟩) s.finAt _ fun i hi=> ?_
 have hlt:(i:Int)<s.finished.length:=by omega
 have hws:=wrapS i (by omega)
 have hwl:=v.len
 have hxi:=v.idx hi
 have hld: ∀j n,loadP h y.sid i j n=cut? (Fin.at_ s.finished i).enc j n:=v.loadD Fin.none_ hi
 have hfin:s.finAt i=(decide (1≤(Fin.at_ s.finished i).tx)&&(decide (s.lo≤(Fin.at_ s.finished i).id)&&(decide ((Fin.at_ s.finished i).id≤s.hi)&&(i==0||decide (cmpFin (Fin.at_ s.finished (i-1)) (Fin.at_ s.finished i)<0))))):=rfl
 have hpre:0<i→IntKind.i64.wrap ((i:Int)-1)=((i-1:Nat):Int):=fun hp=>by rw[wrapI _ (by omega) (by omega)];omega
 have hpi:0<i→idxR 9 (some y) (some ((i-1:Nat):Int))=some (.ptr y.sid (i-1) 0):=fun hp=>v.idx (by omega)
 have hpl:0<i→ ∀j n,loadP h y.sid (i-1) j n=cut? (Fin.at_ s.finished (i-1)).enc j n:=fun hp=>v.loadD Fin.none_ (by omega)
 clear v
 generalize s.finAt i=fa at *
 generalize Fin.at_ s.finished (i-1)=pf at *
 generalize Fin.at_ s.finished i=f at *
 have cf:=fun g=>l13Before_run (Z:=Z) hS13 pf f g
 obtain ⟨t,d⟩:=f
 obtain ⟨t',d'⟩:=pf
 simp only[Fin.enc] at cf hld hpl
 rw[loop_run]
 conv in (codeF _ _ r204L1 _)=>unfold r204L1
 simp only[rn,RO.dst,lk,drop,Nat.reduceBEq,Nat.reduceAdd,Nat.reduceLeDiff,↓reduceIte,reduceCtorEq,hwl,hlt,hxi,hld]
 by_cases hp:0<i
 ·have g1:(i:Int)>0:=by omega
  have hi0:(i==0)=false:=by simp;omega
  have q1:=hpre hp
  have q2:=hpi hp
  have q3:=hpl hp
  clear hxi hpre hpi hpl
  (repeat' ((first | (rw[gF_if];split) | (rw[condC_if];split) | (rw[pickR_if];split))<;>(rename_i hh;(try simp only[Bool.not_eq_true,decide_eq_true_eq] at hh);simp only[hh,rn,RO.dst,lk,drop,Nat.reduceBEq,Nat.reduceAdd,Nat.reduceLeDiff,↓reduceIte,reduceCtorEq,hws,g1,q1,q2,q3,cf,hld])))
  all_goals clear q2 q3 cf hld
  all_goals first
   | (exfalso;omega)
   | exact .inl ⟨by simp_all<;>omega,rfl⟩
   | exact .inr ⟨by simp_all<;>omega,_,rfl,rfl,rfl⟩
 ·have g1: ¬(i:Int)>0:=by omega
  have hi0:(i==0)=true:=by simp;omega
  clear hxi hpre hpi hpl cf
  (repeat' ((first | (rw[gF_if];split) | (rw[condC_if];split) | (rw[pickR_if];split))<;>(rename_i hh;(try simp only[Bool.not_eq_true,decide_eq_true_eq] at hh);simp only[hh,rn,RO.dst,lk,drop,Nat.reduceBEq,Nat.reduceAdd,Nat.reduceLeDiff,↓reduceIte,reduceCtorEq,hws,g1,hld])))
  all_goals clear hld
  all_goals first
   | (exfalso;omega)
   | exact .inl ⟨by simp_all<;>omega,rfl⟩
   | exact .inr ⟨by simp_all<;>omega,_,rfl,rfl,rfl⟩
set_option maxHeartbeats 4000000 in
theorem l13Shard_run (hS:Has F tS01d) (hS10:Has F tS10) (hS13:Has F tS13) (v:Shard.RI h cs s fp) (ok:s.Ok):call F Z 204 [.agg cs] h=some (.c (.bool s.good),h):=by
 obtain ⟨x,p,y,q,rfl,rfl,w,u⟩:=v
 have hB:=sBookOk_run (Z:=Z) hS10 w ok.book.list
 have ka:=l13Shard_accs (Z:=Z) (s:=s) hS13 w u
 have kf:=l13Shard_fins (Z:=Z) (s:=s) (x:=x) hS13 u
 have l1:=w.len
 have l2:=u.len
 have n1: ¬(s.book.list.length:Int)<s.book.list.length:=by omega
 have n2: ¬(s.finished.length:Int)<s.finished.length:=by omega
 clear w u
 rw[call_run F Z (hS13.lk (g:=204) rfl) _ _ rfl]
 simp only[show ((0:Nat):Int)=0 from rfl] at ka kf
 cases hd:s.head with
 | false=>
   have hg:s.good=false:=by simp[Shard.good,hd]
   rw[hg]
   simp only[rn,RO.dst,lk,drop,Nat.reduceBEq,Nat.reduceAdd,Nat.reduceLeDiff,↓reduceIte,reduceCtorEq,hB,l2,l01In_run hS]
   clear ka kf
   (repeat' ((first | (rw[gF_if];split) | (rw[condC_if];split) | (rw[pickR_if];split))<;>(rename_i hh;(try simp only[Bool.not_eq_true,decide_eq_true_eq] at hh);simp only[hh,rn,RO.dst,lk,drop,Nat.reduceBEq,Nat.reduceAdd,Nat.reduceLeDiff,↓reduceIte,reduceCtorEq,hB,l2,l1,l01In_run hS])))
   all_goals clear hB l1 l2
   all_goals first
    | rfl
    | (exfalso;simp_all[Shard.head,inR];done)
    | (exfalso;simp_all[Shard.head,inR];omega)
 | true=>
   have hg:s.good=(s.book.list.all s.acc&&(List.range s.finished.length).all s.finAt):=by simp[Shard.good,hd]
   rw[hg]
   simp only[Shard.head,Bool.and_eq_true,decide_eq_true_eq,Bool.or_eq_true,beq_iff_eq] at hd
   obtain ⟨d1,d2,d3,d5,d6⟩:=hd
   rw[d5] at hB
   have c1: ¬s.lo>s.hi:=by omega
   have c2:inR s.state 0 1=true:=by rcases d2 with d2 | d2<;>simp[inR,d2]
   have c6: ¬(s.finished.length:Int)>60:=by omega
   ·simp only[rn,RO.dst,lk,drop,Nat.reduceBEq,Nat.reduceAdd,Nat.reduceLeDiff,↓reduceIte,reduceCtorEq,hB,l1,l2,c1,c2,d3,c6,l01In_run hS]
    rcases kf with ⟨a1,a2⟩ | ⟨a1,s',a2,a3,a4⟩
    ·rw[a2,loop_run]
     conv in (codeF _ _ r204L1 _)=>unfold r204L1
     simp only[rn,RO.dst,lk,drop,Nat.reduceBEq,Nat.reduceAdd,Nat.reduceLeDiff,↓reduceIte,reduceCtorEq,l2,n2]
     rcases ka with ⟨b1,b2⟩ | ⟨b1,s',b2,b3,b4⟩
     ·rw[b2,loop_run]
      conv in (codeF _ _ r204L0 _)=>unfold r204L0
      simp only[rn,RO.dst,lk,drop,Nat.reduceBEq,Nat.reduceAdd,Nat.reduceLeDiff,↓reduceIte,reduceCtorEq,l1,n1,a1,b1,Bool.and_self]
     ·rw[b2]
      simp only[rn,RO.dst,lk,drop,Nat.reduceBEq,Nat.reduceAdd,Nat.reduceLeDiff,↓reduceIte,reduceCtorEq,b3,b4,b1,Bool.false_and]
    ·rw[a2]
     simp only[rn,RO.dst,lk,drop,Nat.reduceBEq,Nat.reduceAdd,Nat.reduceLeDiff,↓reduceIte,reduceCtorEq,a3,a4,a1,Bool.and_false]
end
end Go.Proofs.Yteagcdhkobeanaa.A
namespace Go.Proofs.Yteagcdhkobeanaa.A
open Go
set_option linter.unusedSimpArgs false
set_option linter.unusedVariables false
section
variable {α:Type} {R:Rel α} {tag:Nat} {h:Heap} {x:Cell} {xs:List α} {fp:List Nat}
theorem SlR.one (w:SlR tag R h x xs fp) {i:Nat} (hi:i<xs.length): ∃r f,(∀j n,loadP h x.sid i j n=cut? r j n)∧R h r xs[i] f∧ ∀id,id∈f→id∈fp:=by
 obtain ⟨r,f,h1,h2,h3⟩:=w.row hi
 exact ⟨r,f,fun j n=>by simp[loadP,h1],h2,h3⟩
structure Filled (R:Rel α) (h0 g:Heap) (o:Nat) (z:List Cell) (xs:List α) (i:Nat) (rows:List (List Cell)) (fps:List (List Nat)):Prop where
 on:On h0 g
 ge:h0.next≤o
 lt:o<g.next
 get:g.get o=some rows
 len:rows.length=xs.length
 rel:AllR R g (rows.take i) (xs.take i) fps
 rest: ∀j,i≤j→j<xs.length→rows[j]? =some z
 nd:fps.flatten.Nodup
 out: ∀id,id∈fps.flatten→o<id
theorem AllR.snoc {h:Heap}: ∀{rows:List (List Cell)} {xs:List α} {fps:List (List Nat)},AllR R h rows xs fps→ ∀{r a f},R h r a f→AllR R h (rows++[r]) (xs++[a]) (fps++[f])
 | [],[],[],_=>fun w=>⟨w,trivial⟩
 | _::_,_::_,_::_,⟨w1,w⟩=>fun w2=>⟨w1,w.snoc w2⟩
 | [],[],_::_,w=>w.elim
 | [],_::_,_,w=>w.elim
 | _::_,[],_,w=>w.elim
 | _::_,_::_,[],w=>w.elim
theorem Filled.start (h:Heap) (z:List Cell) (xs:List α):Filled R h (h.push (List.replicate xs.length z)) h.next z xs 0 (List.replicate xs.length z) [] where
 on:=On.push _ _
 ge:=Nat.le_refl _
 lt:=by rw[push_next];omega
 get:=push_get _ _
 len:=by simp
 rel:=trivial
 rest:=fun j _ hj=>by rw[List.getElem?_replicate,if_pos hj]
 nd:=List.nodup_nil
 out:=fun id hid=>by simp at hid
theorem Filled.step (ok:RelOk R) {h0 g g':Heap} {o:Nat} {z:List Cell} {i:Nat} {rows:List (List Cell)} {fps:List (List Nat)} (w:Filled R h0 g o z xs i rows fps) (hf:h0.floor≤h0.next) (hi:i<xs.length)
 {cs:List Cell} {fq:List Nat} (hz:cs.length=z.length) (o':On g g') (v:R g' cs xs[i] fq) (f:Fre g fq):
 storeP g' o i 0 cs=some (g'.put o (rows.set i cs))∧Filled R h0 (g'.put o (rows.set i cs)) o z xs (i+1) (rows.set i cs) (fps++[fq]):=by
 have hget:g'.get o=some rows:=by rw[o'.ext.2 o w.lt];exact w.get
 have hri:rows[i]? =some z:=w.rest i (Nat.le_refl _) hi
 have hfl:g'.floor≤o:=by rw[o'.fl,w.on.fl];exact Nat.le_trans hf w.ge
 have hlen:i<rows.length:=by rw[w.len];exact hi
 have hput: ∀id,id≠o→(g'.put o (rows.set i cs)).get id=g'.get id:=fun id hid=>by simp only[Heap.put];rw[if_neg hid]
 have hin: ∀id,id∈fps.flatten→id<g.next:=by
  intro id hid
  exact w.rel.lt ok id hid
 refine ⟨?_,?_⟩
 ·refine storeP_at hfl hget hri ?_
  rw[splice?,if_pos (by omega)]
  simp[←hz]
 ·refine ⟨⟨⟨Nat.le_trans w.on.ext.1 o'.ext.1,fun id hid=> ?_⟩,o'.fl.trans w.on.fl⟩,w.ge,Nat.lt_of_lt_of_le w.lt o'.ext.1,by simp[Heap.put],by simp[w.len],?_,fun j h1 h2=> ?_,?_,fun id hid=> ?_⟩
  ·have:=w.ge
   rw[hput id (by omega),o'.ext.2 id (Nat.lt_of_lt_of_le hid w.on.ext.1)]
   exact w.on.ext.2 id hid
  ·have e1:(rows.set i cs).take (i+1)=rows.take i++[cs]:=by
    rw[List.take_add_one,List.getElem?_set_self hlen]
    rw[List.take_set,List.set_eq_of_length_le (by simp;omega)]
    rfl
   have e2:xs.take (i+1)=xs.take i++[xs[i]]:=by rw[List.take_add_one,List.getElem?_eq_getElem hi];rfl
   rw[e1,e2]
   have v':R (g'.put o (rows.set i cs)) cs xs[i] fq:=ok.mv v (Nat.le_refl _) fun id hid=>hput id (by have:=f.lo id hid;have:=w.lt;omega)
   refine AllR.snoc (w.rel.mv (h':=g'.put o (rows.set i cs)) ok o'.ext.1 fun id hid=> ?_) v'
   rw[hput id (by have:=w.out id hid;omega)]
   exact o'.ext.2 id (hin id hid)
  ·rw[List.getElem?_set_ne (by omega)]
   exact w.rest j (by omega) h2
  ·rw[List.flatten_append]
   simp only[List.flatten_cons,List.flatten_nil,List.append_nil]
   exact List.nodup_append.2 ⟨w.nd,f.nd,fun a ha b hb=>by have:=hin a ha;have:=f.lo b hb;omega⟩
  ·rw[List.flatten_append] at hid
   simp only[List.flatten_cons,List.flatten_nil,List.append_nil] at hid
   rcases List.mem_append.1 hid with hid | hid
   ·exact w.out id hid
   ·have:=f.lo id hid
    have:=w.lt
    omega
theorem Filled.all {h0 g:Heap} {o:Nat} {z:List Cell} {rows:List (List Cell)} {fps:List (List Nat)} (w:Filled R h0 g o z xs xs.length rows fps) (hl:xs.length≤1048576) (tag:Nat):
 On h0 g∧SlR tag R g (.sl tag o 0 xs.length) xs (o::fps.flatten)∧Fre h0 (o::fps.flatten):=by
 have hr:=w.rel
 rw[List.take_length,←w.len,List.take_length] at hr
 refine ⟨w.on,⟨by unfold maxLen;omega,.inr ⟨o,rows,fps,rfl,w.get,w.lt,rfl,hr⟩⟩,⟨fun id hid=> ?_,?_⟩⟩
 ·have:=w.ge
  rcases List.mem_cons.1 hid with rfl | hid
  ·omega
  ·have:=w.out id hid;omega
 ·exact List.nodup_cons.2 ⟨fun hc=>by have:=w.out o hc;omega,w.nd⟩
end
end Go.Proofs.Yteagcdhkobeanaa.A
namespace Go.Proofs.Yteagcdhkobeanaa.A
open Go
set_option linter.unusedSimpArgs false
set_option linter.unusedVariables false
def Shard.zeroC:List Cell:=[.int .u64 0,.int .u64 0,.int .i64 0,.int .i64 0,.nil,.nil]
theorem Wf.isShardS' {h:Heap} {n:Nat} {a:List Cell} (w:Wf h (n+6) shShardS a): ∃x xs fp,a=[x]∧SlR 20 Shard.RL h x xs fp∧ ∀t,t∈xs→t.Ok:=by
 have hx: ∃x,a=[x]:=by rcases w with w | ⟨_,_,w,_⟩<;>exact ⟨_,w⟩
 obtain ⟨x,rfl⟩:=hx
 obtain ⟨xs,fp,v,ok⟩:=SlR.ofWf (R:=Shard.RL) (A:=fun t=>t.Ok) (fun r hr=>by obtain ⟨t,fp,v,ok⟩:=Wf.isShard hr.2;exact ⟨t,fp,v,ok⟩) w
 exact ⟨x,xs,fp,rfl,v,ok⟩
section
variable {F:Nat→Option RF} {Z:CallF} {h:Heap} {x y:Cell} {xs ys:List Shard} {fp fq:List Nat}
theorem szShardS_c (hLShard:Has F tLShard) (hLBook:Has F tLBook) (hLAccount:Has F tLAccount) (hLFin:Has F tLFin) (w:SlR 20 Shard.RL h x xs fp) (left:Int) (h1:0≤left) (h2:left≤1048576): ∃r,call F Z 203 [.c x,.c (.int .i64 left)] h=some (.c (.int .i64 r),h)∧r≤left∧(0≤r→xs.length≤1048576∧ ∀a,a∈xs→a.Small):=by
 have hle:=w.le2
 rw[call_run F Z (hLShard.lk (g:=203) rfl) _ _ rfl]
 simp only[rn,RO.dst,lk,drop,Nat.reduceBEq,Nat.reduceAdd,Nat.reduceLeDiff,↓reduceIte,reduceCtorEq,w.len,wrapI (left-xs.length) (by omega) (by omega)]
 by_cases n0:left-xs.length<0
 ·simp only[rn,RO.dst,lk,drop,Nat.reduceBEq,Nat.reduceAdd,Nat.reduceLeDiff,↓reduceIte,reduceCtorEq,n0]
  exact ⟨_,rfl,by omega,by omega⟩
 simp only[rn,RO.dst,lk,drop,Nat.reduceBEq,Nat.reduceAdd,Nat.reduceLeDiff,↓reduceIte,reduceCtorEq,n0]
 rcases loop_rel (F:=F) (Z:=Z) (live:=[0,1,5]) (b:=r203L0) xs.length (fun i s=> ∃l,s=⟨[(0,.c x),(1,.c (.int .i64 l)),(5,.c (.int .i64 (i:Nat)))],[],[],h⟩∧0≤l∧l≤left∧ ∀a,a∈xs.take i→a.Small) (fun s=>lk s.env 4=some (.c (.int .i64 (-1)))∧s.hp=h) (fun i s hi ⟨l,hs,q1,q2,q3⟩=>by
  subst hs
  obtain ⟨r,f,hld,hr,_⟩:=w.one hi
  obtain ⟨l1,l2,l3⟩:=Shard.lenL hr
  obtain ⟨l',e,k1,k2⟩:=szShard_c (Z:=Z) hLShard hLBook hLAccount hLFin hr l q1 (by omega)
  have hlt:(i:Int)<xs.length:=by omega
  rw[loop_run]
  conv in (codeF _ _ r203L0 _)=>unfold r203L0
  simp only[rn,RO.dst,lk,drop,Nat.reduceBEq,Nat.reduceAdd,Nat.reduceLeDiff,↓reduceIte,reduceCtorEq,w.len,hlt,w.idx hi,hld,l1,l2,e]
  by_cases n1:l'<0
  ·simp only[rn,RO.dst,lk,drop,Nat.reduceBEq,Nat.reduceAdd,Nat.reduceLeDiff,↓reduceIte,reduceCtorEq,n1]
   exact Or.inr ⟨_,rfl,rfl,rfl⟩
  ·simp only[rn,RO.dst,lk,drop,Nat.reduceBEq,Nat.reduceAdd,Nat.reduceLeDiff,↓reduceIte,reduceCtorEq,n1,wrapS i (by omega)]
   refine Or.inl ⟨_,⟨l',rfl,by omega,by omega,fun a ha=> ?_⟩,rfl⟩
   rw[List.take_add_one,List.getElem?_eq_getElem hi] at ha
   rcases List.mem_append.1 ha with ha | ha
   ·exact q3 a ha
   ·simp at ha;subst ha;exact k2 (by omega)) (s:=⟨[(0,.c x),(1,.c (.int .i64 (left-xs.length))),(5,.c (.int .i64 (0:Nat)))],[],[],h⟩) ⟨_,rfl,by omega,by omega,fun a ha=>by simp at ha⟩ with ⟨s',⟨l,hs',q1,q2,q3⟩,l1⟩ | ⟨s',l1,q1,q2⟩
 ·subst hs'
  simp only[show ((0:Nat):Int)=0 from rfl] at l1
  rw[l1,loop_run]
  conv in (codeF _ _ r203L0 _)=>unfold r203L0
  have hlt: ¬(xs.length:Int)<xs.length:=by omega
  simp only[rn,RO.dst,lk,drop,Nat.reduceBEq,Nat.reduceAdd,Nat.reduceLeDiff,↓reduceIte,reduceCtorEq,w.len,hlt]
  rw[List.take_length] at q3
  exact ⟨_,rfl,by omega,fun _=>⟨by omega,q3⟩⟩
 ·simp only[show ((0:Nat):Int)=0 from rfl] at l1
  rw[l1]
  simp only[rn,RO.dst,lk,drop,Nat.reduceBEq,Nat.reduceAdd,Nat.reduceLeDiff,↓reduceIte,reduceCtorEq,q1,q2]
  exact ⟨_,rfl,by omega,by omega⟩
theorem toShardS_c (hLShard:Has F tLShard) (hLBook:Has F tLBook) (hLAccount:Has F tLAccount) (hLFin:Has F tLFin) (hf:h.floor≤h.next) (w:SlR 20 Shard.RL h x xs fp) (sm:xs.length≤1048576∧ ∀a,a∈xs→a.Small): ∃y h' fq,call F Z 205 [.c x] h=some (.c y,h')∧On h h'∧SlR 16 Shard.RI h' y xs fq∧Fre h fq:=by
 obtain ⟨hn,sm⟩:=sm
 rw[call_run F Z (hLShard.lk (g:=205) rfl) _ _ rfl]
 simp only[rn,RO.dst,lk,drop,Nat.reduceBEq,Nat.reduceAdd,Nat.reduceLeDiff,↓reduceIte,reduceCtorEq,w.len]
 rw[if_pos (by omega)]
 simp only[rn,RO.dst,lk,drop,Nat.reduceBEq,Nat.reduceAdd,Nat.reduceLeDiff,↓reduceIte,reduceCtorEq,Int.toNat_natCast]
 obtain ⟨s',⟨g,rows,fps,hs',fl⟩,l1⟩:=loop_goes (F:=F) (Z:=Z) (live:=[0,3,4]) (b:=r205L0) xs.length (fun i s=> ∃g rows fps,s=⟨[(0,.c x),(3,.c (.sl 16 h.next 0 xs.length)),(4,.c (.int .i64 (i:Nat)))],[],[],g⟩∧Filled Shard.RI h g h.next Shard.zeroC xs i rows fps) (fun i s hi ⟨g,rows,fps,hs,fl⟩=>by
  subst hs
  have wg:=w.mono Shard.okL fl.on.ext
  obtain ⟨r,f,hld,hr,_⟩:=wg.one hi
  obtain ⟨l1,l2,l3⟩:=Shard.lenL hr
  obtain ⟨cs',g',fq,e,o',v,fr⟩:=toShard_c (Z:=Z) hLShard hLBook hLAccount hLFin (fl.on.le hf) hr (sm _ (List.getElem_mem hi))
  obtain ⟨vl,_,_⟩:=Shard.lenI v
  obtain ⟨st,fl'⟩:=fl.step Shard.okI hf hi vl o' v fr
  have hlt:(i:Int)<xs.length:=by omega
  have h0:(0:Int)≤i:=by omega
  rw[loop_run]
  conv in (codeF _ _ r205L0 _)=>unfold r205L0
  simp only[rn,RO.dst,lk,drop,Nat.reduceBEq,Nat.reduceAdd,Nat.reduceLeDiff,↓reduceIte,reduceCtorEq,w.len,hlt,w.idx hi,hld,l1,l2,e,h0,and_self,Int.toNat_natCast,vl,st,wrapS i (by omega)]
  exact ⟨_,⟨_,_,_,rfl,fl'⟩,rfl⟩) (s:=⟨[(0,.c x),(3,.c (.sl 16 h.next 0 xs.length)),(4,.c (.int .i64 (0:Nat)))],[],[],h.push (List.replicate xs.length Shard.zeroC)⟩) ⟨_,_,_,rfl,Filled.start h Shard.zeroC xs⟩
 subst hs'
 simp only[show ((0:Nat):Int)=0 from rfl,Shard.zeroC] at l1
 rw[l1,loop_run]
 conv in (codeF _ _ r205L0 _)=>unfold r205L0
 have hlt: ¬(xs.length:Int)<xs.length:=by omega
 simp only[rn,RO.dst,lk,drop,Nat.reduceBEq,Nat.reduceAdd,Nat.reduceLeDiff,↓reduceIte,reduceCtorEq,w.len,hlt]
 obtain ⟨o,v,f⟩:=fl.all hn 16
 exact ⟨_,_,_,rfl,o,v,f⟩
theorem eqShardS_r (hLShard:Has F tLShard) (hLBook:Has F tLBook) (hLAccount:Has F tLAccount) (hLFin:Has F tLFin) (w:SlR 16 Shard.RI h x xs fp) (v:SlR 16 Shard.RI h y ys fq):call F Z 207 [.c x,.c y] h=some (.c (.bool (decide (xs=ys))),h):=by
 have hw:=w.le2
 have hv:=v.le2
 rw[call_run F Z (hLShard.lk (g:=207) rfl) _ _ rfl]
 simp only[rn,RO.dst,lk,drop,Nat.reduceBEq,Nat.reduceAdd,Nat.reduceLeDiff,↓reduceIte,reduceCtorEq,w.len,v.len]
 rw[condC_if]
 split
 ·rename_i hne
  have:xs≠ys:=by rintro rfl;simp at hne
  simp only[rn,RO.dst,lk,drop,Nat.reduceBEq,Nat.reduceAdd,Nat.reduceLeDiff,↓reduceIte,reduceCtorEq,this]
 ·rename_i he
  have he:xs.length=ys.length:=by simp at he;omega
  simp only[rn,RO.dst,lk,drop,Nat.reduceBEq,Nat.reduceAdd,Nat.reduceLeDiff,↓reduceIte,reduceCtorEq]
  have key:=loop_allN (F:=F) (Z:=Z) (live:=[0,1,5]) (b:=r207L0) xs.length (fun i=>⟨[(0,.c x),(1,.c y),(5,.c (.int .i64 (i:Nat)))],[],[],h⟩) (fun i=>decide (xs[i]? =ys[i]?)) (fun s=>lk s.env 4=some (.c (.bool false))∧s.hp=h) fun i hi=>by
   have hi':i<ys.length:=by omega
   have hlt:(i:Int)<xs.length:=by omega
   obtain ⟨r,f,hld,hr,_⟩:=w.one hi
   obtain ⟨r',f',hld',hr',_⟩:=v.one hi'
   obtain ⟨l1,l2,l3⟩:=Shard.lenI hr
   obtain ⟨l1',l2',l3'⟩:=Shard.lenI hr'
   have e:=eqShard_r (Z:=Z) (h:=⟨h.next,h.next,h.get⟩) hLShard hLBook hLAccount hLFin (Shard.okI.up hr _) (Shard.okI.up hr' _)
   rw[loop_run]
   conv in (codeF _ _ r207L0 _)=>unfold r207L0
   simp only[rn,RO.dst,lk,drop,Nat.reduceBEq,Nat.reduceAdd,Nat.reduceLeDiff,↓reduceIte,reduceCtorEq,w.len,hlt,w.idx hi,v.idx hi',hld,hld',l1,l2,l1',l2',e,wrapS i (by omega)]
   rw[List.getElem?_eq_getElem hi,List.getElem?_eq_getElem hi']
   clear e hld hld' hr hr' l1 l2 l3 l1' l2' l3'
   (repeat' ((first | (rw[gF_if];split) | (rw[condC_if];split) | (rw[pickR_if];split))<;>(rename_i hh;(try simp only[Bool.not_eq_true,decide_eq_true_eq] at hh);simp only[hh,rn,RO.dst,lk,drop,Nat.reduceBEq,Nat.reduceAdd,Nat.reduceLeDiff,↓reduceIte,reduceCtorEq,wrapS i (by omega)])))
   ·exact .inr ⟨by simp_all,_,rfl,rfl,rfl⟩
   ·exact .inl ⟨by simp_all,rfl⟩
  rw[all_same he] at key
  rcases key with ⟨k1,k2⟩ | ⟨k1,s,k2,k3,k4⟩
  ·simp only[show ((0:Nat):Int)=0 from rfl] at k2
   rw[k2,loop_run]
   conv in (codeF _ _ r207L0 _)=>unfold r207L0
   have hlt: ¬(xs.length:Int)<xs.length:=by omega
   simp only[rn,RO.dst,lk,drop,Nat.reduceBEq,Nat.reduceAdd,Nat.reduceLeDiff,↓reduceIte,reduceCtorEq,w.len,hlt,k1]
  ·simp only[show ((0:Nat):Int)=0 from rfl] at k2
   rw[k2]
   simp only[rn,RO.dst,lk,drop,Nat.reduceBEq,Nat.reduceAdd,Nat.reduceLeDiff,↓reduceIte,reduceCtorEq,k3,k4,k1]
end
end Go.Proofs.Yteagcdhkobeanaa.A
namespace Go.Proofs.Yteagcdhkobeanaa.A
open Go
set_option linter.unusedSimpArgs false
set_option linter.unusedVariables false
structure Store where
 group:Int
 seen:Int
 shards:List Shard
 deriving DecidableEq
def Store.RL:Rel Store:=fun h cs t fp=> ∃x1 p1,cs=[.int .i64 t.group,.int .i64 t.seen,x1]∧fp=p1∧SlR 20 (Shard.RL) h x1 t.shards p1
theorem Store.okL:RelOk Store.RL where
 lt:=by
  rintro h cs t fp ⟨x1,p1,rfl,rfl,w1⟩ id hid
  exact w1.lt (Shard.okL) id hid
 mv:=by
  rintro h h' cs t fp ⟨x1,p1,rfl,rfl,w1⟩ hn hg
  exact ⟨x1,_,rfl,rfl,w1.mv (Shard.okL) hn hg⟩
def Store.RI:Rel Store:=fun h cs t fp=> ∃x1 p1,cs=[.int .i64 t.group,.int .i64 t.seen,x1]∧fp=p1∧SlR 16 (Shard.RI) h x1 t.shards p1
theorem Store.okI:RelOk Store.RI where
 lt:=by
  rintro h cs t fp ⟨x1,p1,rfl,rfl,w1⟩ id hid
  exact w1.lt (Shard.okI) id hid
 mv:=by
  rintro h h' cs t fp ⟨x1,p1,rfl,rfl,w1⟩ hn hg
  exact ⟨x1,_,rfl,rfl,w1.mv (Shard.okI) hn hg⟩
theorem Store.lenL {h:Heap} {cs:List Cell} {t:Store} {fp:List Nat} (v:Store.RL h cs t fp):cs.length=3∧cs.take 3=cs∧cs.drop 3=[]:=by
 obtain ⟨x1,p1,rfl,_⟩:=v
 exact ⟨rfl,rfl,rfl⟩
theorem Store.lenI {h:Heap} {cs:List Cell} {t:Store} {fp:List Nat} (v:Store.RI h cs t fp):cs.length=3∧cs.take 3=cs∧cs.drop 3=[]:=by
 obtain ⟨x1,p1,rfl,_⟩:=v
 exact ⟨rfl,rfl,rfl⟩
namespace Store
structure Ok (t:Store):Prop where
 group: -9223372036854775808≤t.group∧t.group≤9223372036854775807
 seen: -9223372036854775808≤t.seen∧t.seen≤9223372036854775807
 shards: ∀a,a∈t.shards→a.Ok
def Small (t:Store):Prop:=(t.shards.length≤1048576∧ ∀a,a∈t.shards→a.Small)
end Store
theorem Wf.isStore {h:Heap} {n:Nat} {cs:List Cell} (w:Wf h (n+7) shStore cs): ∃t fp,Store.RL h cs t fp∧t.Ok:=by
 obtain ⟨_,_,rfl,_,⟨i1,rfl,j1⟩,_,_,rfl,_,⟨i2,rfl,j2⟩,_,_,rfl,_,m3,rfl⟩:=w
 obtain ⟨x1,l1,p1,rfl,w1,o1⟩:=Wf.isShardS' m3
 exact ⟨⟨i1,i2,l1⟩,_,⟨x1,_,rfl,rfl,w1⟩,⟨wfI j1,wfI j2,o1⟩⟩
section
variable {F:Nat→Option RF} {Z:CallF} {h:Heap} {cs cs':List Cell} {t u:Store} {fp fq:List Nat}
theorem szStore_c (hLStore:Has F tLStore) (hLShard:Has F tLShard) (hLBook:Has F tLBook) (hLAccount:Has F tLAccount) (hLFin:Has F tLFin) (v:Store.RL h cs t fp) (left:Int) (h1:0≤left) (h2:left≤1048576): ∃r,call F Z 154 [.agg cs,.c (.int .i64 left)] h=some (.c (.int .i64 r),h)∧r≤left∧(0≤r→t.Small):=by
 obtain ⟨x1,p1,rfl,rfl,w1⟩:=v
 rw[call_run F Z (hLStore.lk (g:=154) rfl) _ _ rfl]
 simp only[rn,RO.dst,lk,drop,Nat.reduceBEq,Nat.reduceAdd,Nat.reduceLeDiff,↓reduceIte,reduceCtorEq]
 obtain ⟨l0,s0,a0,b0⟩:=szShardS_c (Z:=Z) hLShard hLBook hLAccount hLFin w1 left (by omega) (by omega)
 simp only[rn,RO.dst,lk,drop,Nat.reduceBEq,Nat.reduceAdd,Nat.reduceLeDiff,↓reduceIte,reduceCtorEq,s0]
 by_cases n0:l0<0
 ·simp only[rn,RO.dst,lk,drop,Nat.reduceBEq,Nat.reduceAdd,Nat.reduceLeDiff,↓reduceIte,reduceCtorEq,n0]
  exact ⟨_,rfl,by omega,by omega⟩
 simp only[rn,RO.dst,lk,drop,Nat.reduceBEq,Nat.reduceAdd,Nat.reduceLeDiff,↓reduceIte,reduceCtorEq,n0]
 exact ⟨_,rfl,by omega,fun _=>b0 (by omega)⟩
theorem toStore_c (hLStore:Has F tLStore) (hLShard:Has F tLShard) (hLBook:Has F tLBook) (hLAccount:Has F tLAccount) (hLFin:Has F tLFin) (hf:h.floor≤h.next) (v:Store.RL h cs t fp) (sm:t.Small): ∃cs' h' fq,call F Z 155 [.agg cs] h=some (.agg cs',h')∧On h h'∧Store.RI h' cs' t fq∧Fre h fq:=by
 obtain ⟨x1,p1,rfl,rfl,w1⟩:=v
 have sm0:=sm
 obtain ⟨y1,g0,q1,e0,o0,u1,r0⟩:=toShardS_c (Z:=Z) hLShard hLBook hLAccount hLFin hf w1 sm0
 rw[call_run F Z (hLStore.lk (g:=155) rfl) _ _ rfl]
 simp only[rn,RO.dst,lk,drop,Nat.reduceBEq,Nat.reduceAdd,Nat.reduceLeDiff,↓reduceIte,reduceCtorEq,e0]
 exact ⟨_,_,_,rfl,o0,⟨y1,_,rfl,rfl,u1⟩,r0⟩
set_option maxHeartbeats 1000000 in
theorem eqStore_r (hLStore:Has F tLStore) (hLShard:Has F tLShard) (hLBook:Has F tLBook) (hLAccount:Has F tLAccount) (hLFin:Has F tLFin) (v:Store.RI h cs t fp) (v':Store.RI h cs' u fq):call F Z 158 [.agg cs,.agg cs'] h=some (.c (.bool (decide (t=u))),h):=by
 obtain ⟨x1,p1,rfl,rfl,w1⟩:=v
 obtain ⟨x1',p1',rfl,rfl,w1'⟩:=v'
 obtain ⟨group1,seen1,shards1⟩:=t
 obtain ⟨group2,seen2,shards2⟩:=u
 have e0:=eqShardS_r (Z:=Z) hLShard hLBook hLAccount hLFin w1 w1'
 clear w1 w1'
 rw[call_run F Z (hLStore.lk (g:=158) rfl) _ _ rfl]
 simp only[rn,RO.dst,lk,drop,Nat.reduceBEq,Nat.reduceAdd,Nat.reduceLeDiff,↓reduceIte,reduceCtorEq,e0]
 (repeat' ((first | (rw[gF_if];split) | (rw[condC_if];split) | (rw[pickR_if];split))<;>(rename_i hh;(try simp only[Bool.not_eq_true,decide_eq_true_eq] at hh);simp only[hh,rn,RO.dst,lk,drop,Nat.reduceBEq,Nat.reduceAdd,Nat.reduceLeDiff,↓reduceIte,reduceCtorEq,e0])))<;>clear e0<;>refine fin_bool ?_<;>simp_all<;>(try (intros;omega))
end
end Go.Proofs.Yteagcdhkobeanaa.A
namespace Go.Proofs.Yteagcdhkobeanaa.A
open Go
set_option linter.unusedSimpArgs false
set_option linter.unusedVariables false
def TurnO (r:Option (Ex×St)) (next:Heap→Option (Ex×St)) (g:Heap) (p:Bool) (Q:St→Prop):Prop:=
 (p=true∧ ∃g',On g g'∧r=next g')∨(p=false∧ ∃s',r=some (.ret,s')∧On g s'.hp∧Q s')
section
variable {F:Nat→Option RF} {Z:CallF} {live:List Nat} {b:RC}
theorem loop_on (n:Nat) (st:Nat→Heap→St) (h:Heap) (P:Nat→Bool) (Q:St→Prop)
 (hs: ∀i g,i<n→On h g→TurnO (loop F Z live b (st i g)) (fun g'=>loop F Z live b (st (i+1) g')) g (P i) Q):
 TurnO (loop F Z live b (st 0 h)) (fun g'=>loop F Z live b (st n g')) h ((List.range n).all P) Q:=by
 induction n with
 | zero=>exact .inl ⟨rfl,h,On.refl h,rfl⟩
 | succ n ih=>
   have hl:(List.range (n+1)).all P=((List.range n).all P&&P n):=by rw[List.range_succ,List.all_append];simp
   rcases ih fun i g hi=>hs i g (by omega) with ⟨h1,g1,o1,e1⟩ | ⟨h1,s',e1,o1,q1⟩
   ·rcases hs n g1 (by omega) o1 with ⟨h3,g2,o2,e2⟩ | ⟨h3,s',e2,o2,q2⟩
    ·exact .inl ⟨by rw[hl,h1,h3];rfl,g2,o1.trans o2,e1.trans e2⟩
    ·exact .inr ⟨by rw[hl,h1,h3];rfl,s',e1.trans e2,o1.trans o2,q2⟩
   ·exact .inr ⟨by rw[hl,h1];rfl,s',e1,o1,q1⟩
end
end Go.Proofs.Yteagcdhkobeanaa.A
