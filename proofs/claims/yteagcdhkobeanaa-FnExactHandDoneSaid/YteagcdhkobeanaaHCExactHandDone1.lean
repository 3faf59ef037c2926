/- The functions that the statement reaches, part 1: bodies and what they compute. No condition. -/
import Derived.Test.YteagcdhkobeanaaA1
import Derived.Test.YteagcdhkobeanaaB8
import Derived.Test.YteagcdhkobeanaaB6
import Derived.Test.YteagcdhkobeanaaB5
import Derived.Test.YteagcdhkobeanaaD
namespace Go.Proofs.Yteagcdhkobeanaa.A
open Go
def r7:RF:=
 ⟨1,[.tmp 2],
 .seq (.reg [⟨none,.mov 2 (.k (.bool false))⟩])
 (.seq (.reg [⟨none,.mov 3 (.t 0)⟩,
 ⟨none,.bin 4 .geq (.t 3) (.k (.int .i64 0))⟩,
 ⟨none,.mov 5 (.t 4)⟩,
 ⟨some (5,true),.mov 6 (.t 0)⟩,
 ⟨some (5,true),.bin 7 .leq (.t 6) (.k (.int .i64 99))⟩,
 ⟨none,.pick 8 (.t 5) (.t 7) (.k (.bool false))⟩,
 ⟨none,.mov 2 (.t 8)⟩])
 (.ret))⟩
def tI11:List (Nat×RF):=[(7,r7)]
end Go.Proofs.Yteagcdhkobeanaa.A
namespace Go.Proofs.Yteagcdhkobeanaa.A
open Go
def r6:RF:=
 ⟨1,[.tmp 2],
 .seq (.reg [⟨none,.locb 1 (.t 0)⟩,
 ⟨none,.mov 2 (.k (.bool false))⟩])
 (.seq (.reg [⟨none,.fad 3 1 1⟩,
 ⟨none,.load 4 3 1 false⟩,
 ⟨none,.call (some 5) 7 [(.t 4)] false⟩,
 ⟨none,.mov 6 (.t 5)⟩,
 ⟨some (6,true),.fad 7 1 2⟩,
 ⟨some (6,true),.load 8 7 1 false⟩,
 ⟨some (6,true),.call (some 9) 7 [(.t 8)] false⟩,
 ⟨none,.pick 10 (.t 6) (.t 9) (.k (.bool false))⟩,
 ⟨none,.mov 11 (.t 10)⟩,
 ⟨some (11,true),.fad 12 1 1⟩,
 ⟨some (11,true),.load 13 12 1 false⟩,
 ⟨some (11,true),.fad 14 1 2⟩,
 ⟨some (11,true),.load 15 14 1 false⟩,
 ⟨some (11,true),.bin 16 .neq (.t 13) (.t 15)⟩,
 ⟨none,.pick 17 (.t 11) (.t 16) (.k (.bool false))⟩,
 ⟨none,.mov 18 (.t 17)⟩,
 ⟨some (18,true),.fad 19 1 3⟩,
 ⟨some (18,true),.load 20 19 1 false⟩,
 ⟨some (18,true),.bin 21 .geq (.t 20) (.k (.int .i64 1))⟩,
 ⟨none,.pick 22 (.t 18) (.t 21) (.k (.bool false))⟩,
 ⟨none,.mov 23 (.t 22)⟩,
 ⟨some (23,true),.fad 24 1 3⟩,
 ⟨some (23,true),.load 25 24 1 false⟩,
 ⟨some (23,true),.bin 26 .lss (.t 25) (.k (.int .i64 1000000))⟩,
 ⟨none,.pick 27 (.t 23) (.t 26) (.k (.bool false))⟩,
 ⟨none,.mov 28 (.t 27)⟩,
 ⟨some (28,true),.fad 29 1 4⟩,
 ⟨some (28,true),.load 30 29 1 false⟩,
 ⟨some (28,true),.bin 31 .geq (.t 30) (.k (.int .i64 0))⟩,
 ⟨none,.pick 32 (.t 28) (.t 31) (.k (.bool false))⟩,
 ⟨none,.mov 33 (.t 32)⟩,
 ⟨some (33,true),.fad 34 1 4⟩,
 ⟨some (33,true),.load 35 34 1 false⟩,
 ⟨some (33,true),.bin 36 .leq (.t 35) (.k (.int .i64 3))⟩,
 ⟨none,.pick 37 (.t 33) (.t 36) (.k (.bool false))⟩,
 ⟨none,.mov 2 (.t 37)⟩])
 (.ret))⟩
def r85:RF:=
 ⟨2,[.cell 4 5 true,.tmp 5],
 .seq (.reg [⟨none,.locb 2 (.t 0)⟩,
 ⟨none,.locb 3 (.t 1)⟩,
 ⟨none,.loc 4 [.int .u64 0,.int .i64 0,.int .i64 0,.int .i64 0,.int .i64 0]⟩,
 ⟨none,.mov 5 (.k (.bool false))⟩])
 (.seq (.reg [⟨none,.load 6 2 5 true⟩,
 ⟨none,.load 7 3 10 true⟩,
 ⟨none,.call (some 8) 113 [(.t 6),(.t 7)] false⟩,
 ⟨none,.ext 9 (.t 8) 0⟩,
 ⟨none,.ext 10 (.t 8) 1⟩,
 ⟨none,.store 4 5 (.t 9)⟩,
 ⟨none,.mov 5 (.t 10)⟩])
 (.ret))⟩
def r113:RF:=
 ⟨2,[.cell 4 5 true,.tmp 5],
 .seq (.reg [⟨none,.locb 2 (.t 0)⟩,
 ⟨none,.locb 3 (.t 1)⟩,
 ⟨none,.loc 4 [.int .u64 0,.int .i64 0,.int .i64 0,.int .i64 0,.int .i64 0]⟩,
 ⟨none,.mov 5 (.k (.bool false))⟩])
 (.seq (.seq (.reg [⟨none,.chk []⟩,
 ⟨none,.load 6 2 5 true⟩,
 ⟨none,.call (some 7) 6 [(.t 6)] true⟩,
 ⟨none,.not 8 (.t 7)⟩,
 ⟨none,.mov 9 (.t 8)⟩,
 ⟨some (9,false),.fad 10 2 4⟩,
 ⟨some (9,false),.load 11 10 1 false⟩,
 ⟨some (9,false),.bin 12 .eql (.t 11) (.k (.int .i64 3))⟩,
 ⟨none,.pick 13 (.t 9) (.k (.bool true)) (.t 12)⟩,
 ⟨none,.mov 14 (.t 13)⟩,
 ⟨some (14,false),.fad 15 3 0⟩,
 ⟨some (14,false),.load 16 15 1 false⟩,
 ⟨some (14,false),.fad 17 2 4⟩,
 ⟨some (14,false),.load 18 17 1 false⟩,
 ⟨some (14,false),.bin 19 .neq (.t 16) (.t 18)⟩,
 ⟨none,.pick 20 (.t 14) (.k (.bool true)) (.t 19)⟩,
 ⟨none,.mov 21 (.t 20)⟩,
 ⟨some (21,false),.fad 22 3 1⟩,
 ⟨some (21,false),.load 23 22 1 false⟩,
 ⟨some (21,false),.fad 24 2 0⟩,
 ⟨some (21,false),.load 25 24 1 false⟩,
 ⟨some (21,false),.bin 26 .neq (.t 23) (.t 25)⟩,
 ⟨none,.pick 27 (.t 21) (.k (.bool true)) (.t 26)⟩,
 ⟨none,.mov 28 (.t 27)⟩,
 ⟨some (28,false),.fad 29 3 3⟩,
 ⟨some (28,false),.load 30 29 1 false⟩,
 ⟨some (28,false),.load 31 2 5 true⟩,
 ⟨some (28,false),.call (some 32) 132 [(.t 31)] true⟩,
 ⟨some (28,false),.bin 33 .neq (.t 30) (.t 32)⟩,
 ⟨none,.pick 34 (.t 28) (.k (.bool true)) (.t 33)⟩])
 (.cond (.t 34)
 (.seq (.reg [⟨none,.load 35 2 5 true⟩,
 ⟨none,.store 4 5 (.t 35)⟩,
 ⟨none,.mov 5 (.k (.bool false))⟩])
 (.ret))
 (.skip)))
 (.seq (.reg [⟨none,.fad 36 2 4⟩,
 ⟨none,.load 37 36 1 false⟩,
 ⟨none,.bin 38 .add (.t 37) (.k (.int .i64 1))⟩,
 ⟨none,.fad 39 2 4⟩,
 ⟨none,.store 39 1 (.t 38)⟩])
 (.seq (.reg [⟨none,.load 40 2 5 true⟩,
 ⟨none,.store 4 5 (.t 40)⟩,
 ⟨none,.mov 5 (.k (.bool true))⟩])
 (.ret))))⟩
def r132:RF:=
 ⟨1,[.tmp 2],
 .seq (.reg [⟨none,.locb 1 (.t 0)⟩,
 ⟨none,.mov 2 (.k (.int .i64 0))⟩])
 (.seq (.seq (.reg [⟨none,.fad 3 1 4⟩,
 ⟨none,.load 4 3 1 false⟩,
 ⟨none,.bin 5 .eql (.t 4) (.k (.int .i64 1))⟩])
 (.cond (.t 5)
 (.seq (.reg [⟨none,.fad 6 1 3⟩,
 ⟨none,.load 7 6 1 false⟩,
 ⟨none,.bin 8 .add (.t 7) (.k (.int .i64 1))⟩,
 ⟨none,.mov 2 (.t 8)⟩])
 (.ret))
 (.skip)))
 (.seq (.reg [⟨none,.fad 9 1 3⟩,
 ⟨none,.load 10 9 1 false⟩,
 ⟨none,.mov 2 (.t 10)⟩])
 (.ret)))⟩
def tI15:List (Nat×RF):=[(6,r6),(85,r85),(113,r113),(132,r132)]
end Go.Proofs.Yteagcdhkobeanaa.A
namespace Go.Proofs.Yteagcdhkobeanaa.A
open Go
def r136:RF:=
 ⟨2,[.tmp 4],
 .seq (.reg [⟨none,.mov 4 (.k (.int .i64 0))⟩])
 (.seq (.reg [⟨none,.mov 5 (.t 1)⟩,
 ⟨none,.mov 6 (.t 0)⟩,
 ⟨none,.len 7 (.t 6)⟩,
 ⟨none,.bin 8 .sub (.t 5) (.t 7)⟩,
 ⟨none,.mov 1 (.t 8)⟩])
 (.seq (.seq (.reg [⟨none,.mov 9 (.t 1)⟩,
 ⟨none,.bin 10 .lss (.t 9) (.k (.int .i64 0))⟩])
 (.cond (.t 10)
 (.seq (.reg [⟨none,.mov 4 (.k (.int .i64 (-1)))⟩])
 (.ret))
 (.skip)))
 (.seq (.reg [⟨none,.mov 11 (.t 1)⟩,
 ⟨none,.mov 4 (.t 11)⟩])
 (.ret))))⟩
def r137L0:RC:=
 .seq (.seq (.reg [⟨none,.mov 8 (.t 4)⟩,
 ⟨none,.mov 9 (.t 0)⟩,
 ⟨none,.len 10 (.t 9)⟩,
 ⟨none,.bin 11 .lss (.t 8) (.t 10)⟩])
 (.cond (.t 11)
 (.skip)
 (.exit 0)))
 (.seq (.block 1 (.reg [⟨none,.mov 14 (.t 3)⟩,
 ⟨none,.mov 15 (.t 4)⟩,
 ⟨none,.mov 16 (.t 0)⟩,
 ⟨none,.mov 17 (.t 4)⟩,
 ⟨none,.idx 18 12 (.t 16) (.t 17)⟩,
 ⟨none,.load 19 18 5 true⟩,
 ⟨none,.call (some 20) 141 [(.t 19)] false⟩,
 ⟨none,.idx 21 11 (.t 14) (.t 15)⟩,
 ⟨none,.store 21 5 (.t 20)⟩]))
 (.reg [⟨none,.mov 12 (.t 4)⟩,
 ⟨none,.bin 13 .add (.t 12) (.k (.int .i64 1))⟩,
 ⟨none,.mov 4 (.t 13)⟩]))
def r137:RF:=
 ⟨1,[.tmp 2],
 .seq (.reg [⟨none,.mov 2 (.k (.nil))⟩])
 (.seq (.reg [⟨none,.mov 5 (.t 0)⟩,
 ⟨none,.len 6 (.t 5)⟩,
 ⟨none,.mks 7 11 40 [.int .u64 0,.int .u64 0,.int .u64 0,.int .u64 0,.int .i64 0] (.t 6) (.t 6)⟩,
 ⟨none,.mov 3 (.t 7)⟩])
 (.seq (.seq (.reg [⟨none,.mov 4 (.k (.int .i64 0))⟩])
 (.block 0 (.loop [0,3,4]
 r137L0)))
 (.seq (.reg [⟨none,.mov 22 (.t 3)⟩,
 ⟨none,.mov 2 (.t 22)⟩])
 (.ret))))⟩
def r139L0:RC:=
 .seq (.seq (.reg [⟨none,.mov 11 (.t 5)⟩,
 ⟨none,.mov 12 (.t 0)⟩,
 ⟨none,.len 13 (.t 12)⟩,
 ⟨none,.bin 14 .lss (.t 11) (.t 13)⟩])
 (.cond (.t 14)
 (.skip)
 (.exit 0)))
 (.seq (.block 1 (.seq (.reg [⟨none,.chk []⟩,
 ⟨none,.mov 17 (.t 0)⟩,
 ⟨none,.mov 18 (.t 5)⟩,
 ⟨none,.idx 19 11 (.t 17) (.t 18)⟩,
 ⟨none,.mov 21 (.t 1)⟩,
 ⟨none,.mov 22 (.t 5)⟩,
 ⟨none,.idx 23 11 (.t 21) (.t 22)⟩,
 ⟨none,.load 20 19 5 true⟩,
 ⟨none,.load 24 23 5 true⟩,
 ⟨none,.call (some 25) 142 [(.t 20),(.t 24)] true⟩,
 ⟨none,.not 26 (.t 25)⟩])
 (.cond (.t 26)
 (.seq (.reg [⟨none,.mov 4 (.k (.bool false))⟩])
 (.ret))
 (.skip))))
 (.reg [⟨none,.mov 15 (.t 5)⟩,
 ⟨none,.bin 16 .add (.t 15) (.k (.int .i64 1))⟩,
 ⟨none,.mov 5 (.t 16)⟩]))
def r139:RF:=
 ⟨2,[.tmp 4],
 .seq (.reg [⟨none,.mov 4 (.k (.bool false))⟩])
 (.seq (.seq (.reg [⟨none,.mov 6 (.t 0)⟩,
 ⟨none,.len 7 (.t 6)⟩,
 ⟨none,.mov 8 (.t 1)⟩,
 ⟨none,.len 9 (.t 8)⟩,
 ⟨none,.bin 10 .neq (.t 7) (.t 9)⟩])
 (.cond (.t 10)
 (.seq (.reg [⟨none,.mov 4 (.k (.bool false))⟩])
 (.ret))
 (.skip)))
 (.seq (.seq (.reg [⟨none,.mov 5 (.k (.int .i64 0))⟩])
 (.block 0 (.loop [0,1,5]
 r139L0)))
 (.seq (.reg [⟨none,.mov 4 (.k (.bool true))⟩])
 (.ret))))⟩
def r141:RF:=
 ⟨1,[.cell 2 5 true],
 .seq (.reg [⟨none,.locb 1 (.t 0)⟩,
 ⟨none,.loc 2 [.int .u64 0,.int .u64 0,.int .u64 0,.int .u64 0,.int .i64 0]⟩])
 (.seq (.reg [⟨none,.loc 3 [.int .u64 0,.int .u64 0,.int .u64 0,.int .u64 0,.int .i64 0]⟩])
 (.seq (.reg [⟨none,.fad 4 1 0⟩,
 ⟨none,.load 5 4 1 false⟩,
 ⟨none,.fad 6 3 0⟩,
 ⟨none,.store 6 1 (.t 5)⟩])
 (.seq (.reg [⟨none,.fad 7 1 1⟩,
 ⟨none,.load 8 7 1 false⟩,
 ⟨none,.fad 9 3 1⟩,
 ⟨none,.store 9 1 (.t 8)⟩])
 (.seq (.reg [⟨none,.fad 10 1 2⟩,
 ⟨none,.load 11 10 1 false⟩,
 ⟨none,.fad 12 3 2⟩,
 ⟨none,.store 12 1 (.t 11)⟩])
 (.seq (.reg [⟨none,.fad 13 1 3⟩,
 ⟨none,.load 14 13 1 false⟩,
 ⟨none,.fad 15 3 3⟩,
 ⟨none,.store 15 1 (.t 14)⟩])
 (.seq (.reg [⟨none,.fad 16 1 4⟩,
 ⟨none,.load 17 16 1 false⟩,
 ⟨none,.fad 18 3 4⟩,
 ⟨none,.store 18 1 (.t 17)⟩])
 (.seq (.reg [⟨none,.load 19 3 5 true⟩,
 ⟨none,.store 2 5 (.t 19)⟩])
 (.ret))))))))⟩
def r142:RF:=
 ⟨2,[.tmp 4],
 .seq (.reg [⟨none,.locb 2 (.t 0)⟩,
 ⟨none,.locb 3 (.t 1)⟩,
 ⟨none,.mov 4 (.k (.bool false))⟩])
 (.seq (.seq (.reg [⟨none,.fad 5 2 0⟩,
 ⟨none,.load 6 5 1 false⟩,
 ⟨none,.fad 7 3 0⟩,
 ⟨none,.load 8 7 1 false⟩,
 ⟨none,.bin 9 .neq (.t 6) (.t 8)⟩])
 (.cond (.t 9)
 (.seq (.reg [⟨none,.mov 4 (.k (.bool false))⟩])
 (.ret))
 (.skip)))
 (.seq (.seq (.reg [⟨none,.fad 10 2 1⟩,
 ⟨none,.load 11 10 1 false⟩,
 ⟨none,.fad 12 3 1⟩,
 ⟨none,.load 13 12 1 false⟩,
 ⟨none,.bin 14 .neq (.t 11) (.t 13)⟩])
 (.cond (.t 14)
 (.seq (.reg [⟨none,.mov 4 (.k (.bool false))⟩])
 (.ret))
 (.skip)))
 (.seq (.seq (.reg [⟨none,.fad 15 2 2⟩,
 ⟨none,.load 16 15 1 false⟩,
 ⟨none,.fad 17 3 2⟩,
 ⟨none,.load 18 17 1 false⟩,
 ⟨none,.bin 19 .neq (.t 16) (.t 18)⟩])
 (.cond (.t 19)
 (.seq (.reg [⟨none,.mov 4 (.k (.bool false))⟩])
 (.ret))
 (.skip)))
 (.seq (.seq (.reg [⟨none,.fad 20 2 3⟩,
 ⟨none,.load 21 20 1 false⟩,
 ⟨none,.fad 22 3 3⟩,
 ⟨none,.load 23 22 1 false⟩,
 ⟨none,.bin 24 .neq (.t 21) (.t 23)⟩])
 (.cond (.t 24)
 (.seq (.reg [⟨none,.mov 4 (.k (.bool false))⟩])
 (.ret))
 (.skip)))
 (.seq (.seq (.reg [⟨none,.fad 25 2 4⟩,
 ⟨none,.load 26 25 1 false⟩,
 ⟨none,.fad 27 3 4⟩,
 ⟨none,.load 28 27 1 false⟩,
 ⟨none,.bin 29 .neq (.t 26) (.t 28)⟩])
 (.cond (.t 29)
 (.seq (.reg [⟨none,.mov 4 (.k (.bool false))⟩])
 (.ret))
 (.skip)))
 (.seq (.reg [⟨none,.mov 4 (.k (.bool true))⟩])
 (.ret)))))))⟩
def tLAccount:List (Nat×RF):=[(136,r136),(137,r137),(139,r139),(141,r141),(142,r142)]
end Go.Proofs.Yteagcdhkobeanaa.A
namespace Go.Proofs.Yteagcdhkobeanaa.A
open Go
def r128:RF:=
 ⟨2,[.tmp 4],
 .seq (.reg [⟨none,.locb 2 (.t 0)⟩,
 ⟨none,.mov 4 (.k (.int .i64 0))⟩])
 (.seq (.reg [⟨none,.fad 5 2 0⟩,
 ⟨none,.load 6 5 1 false⟩,
 ⟨none,.mov 7 (.t 1)⟩,
 ⟨none,.call (some 8) 136 [(.t 6),(.t 7)] false⟩,
 ⟨none,.mov 1 (.t 8)⟩])
 (.seq (.seq (.reg [⟨none,.mov 9 (.t 1)⟩,
 ⟨none,.bin 10 .lss (.t 9) (.k (.int .i64 0))⟩])
 (.cond (.t 10)
 (.seq (.reg [⟨none,.mov 4 (.k (.int .i64 (-1)))⟩])
 (.ret))
 (.skip)))
 (.seq (.reg [⟨none,.mov 11 (.t 1)⟩,
 ⟨none,.mov 4 (.t 11)⟩])
 (.ret))))⟩
def r130:RF:=
 ⟨1,[.cell 2 1 true],
 .seq (.reg [⟨none,.locb 1 (.t 0)⟩,
 ⟨none,.loc 2 [.nil]⟩])
 (.seq (.reg [⟨none,.loc 3 [.nil]⟩])
 (.seq (.reg [⟨none,.fad 4 1 0⟩,
 ⟨none,.load 5 4 1 false⟩,
 ⟨none,.call (some 6) 137 [(.t 5)] false⟩,
 ⟨none,.fad 7 3 0⟩,
 ⟨none,.store 7 1 (.t 6)⟩])
 (.seq (.reg [⟨none,.load 8 3 1 true⟩,
 ⟨none,.store 2 1 (.t 8)⟩])
 (.ret))))⟩
def r133:RF:=
 ⟨2,[.tmp 4],
 .seq (.reg [⟨none,.locb 2 (.t 0)⟩,
 ⟨none,.locb 3 (.t 1)⟩,
 ⟨none,.mov 4 (.k (.bool false))⟩])
 (.seq (.seq (.reg [⟨none,.fad 5 2 0⟩,
 ⟨none,.load 6 5 1 false⟩,
 ⟨none,.fad 7 3 0⟩,
 ⟨none,.load 8 7 1 false⟩,
 ⟨none,.call (some 9) 139 [(.t 6),(.t 8)] false⟩,
 ⟨none,.not 10 (.t 9)⟩])
 (.cond (.t 10)
 (.seq (.reg [⟨none,.mov 4 (.k (.bool false))⟩])
 (.ret))
 (.skip)))
 (.seq (.reg [⟨none,.mov 4 (.k (.bool true))⟩])
 (.ret)))⟩
def tLBook:List (Nat×RF):=[(128,r128),(130,r130),(133,r133)]
end Go.Proofs.Yteagcdhkobeanaa.A
namespace Go.Proofs.Yteagcdhkobeanaa.A
open Go
def r129:RF:=
 ⟨2,[.tmp 4],
 .seq (.reg [⟨none,.mov 4 (.k (.int .i64 0))⟩])
 (.seq (.reg [⟨none,.mov 5 (.t 1)⟩,
 ⟨none,.mov 6 (.t 0)⟩,
 ⟨none,.len 7 (.t 6)⟩,
 ⟨none,.bin 8 .sub (.t 5) (.t 7)⟩,
 ⟨none,.mov 1 (.t 8)⟩])
 (.seq (.seq (.reg [⟨none,.mov 9 (.t 1)⟩,
 ⟨none,.bin 10 .lss (.t 9) (.k (.int .i64 0))⟩])
 (.cond (.t 10)
 (.seq (.reg [⟨none,.mov 4 (.k (.int .i64 (-1)))⟩])
 (.ret))
 (.skip)))
 (.seq (.reg [⟨none,.mov 11 (.t 1)⟩,
 ⟨none,.mov 4 (.t 11)⟩])
 (.ret))))⟩
def r131L0:RC:=
 .seq (.seq (.reg [⟨none,.mov 8 (.t 4)⟩,
 ⟨none,.mov 9 (.t 0)⟩,
 ⟨none,.len 10 (.t 9)⟩,
 ⟨none,.bin 11 .lss (.t 8) (.t 10)⟩])
 (.cond (.t 11)
 (.skip)
 (.exit 0)))
 (.seq (.block 1 (.reg [⟨none,.mov 14 (.t 3)⟩,
 ⟨none,.mov 15 (.t 4)⟩,
 ⟨none,.mov 16 (.t 0)⟩,
 ⟨none,.mov 17 (.t 4)⟩,
 ⟨none,.idx 18 10 (.t 16) (.t 17)⟩,
 ⟨none,.load 19 18 2 true⟩,
 ⟨none,.call (some 20) 138 [(.t 19)] false⟩,
 ⟨none,.idx 21 9 (.t 14) (.t 15)⟩,
 ⟨none,.store 21 2 (.t 20)⟩]))
 (.reg [⟨none,.mov 12 (.t 4)⟩,
 ⟨none,.bin 13 .add (.t 12) (.k (.int .i64 1))⟩,
 ⟨none,.mov 4 (.t 13)⟩]))
def r131:RF:=
 ⟨1,[.tmp 2],
 .seq (.reg [⟨none,.mov 2 (.k (.nil))⟩])
 (.seq (.reg [⟨none,.mov 5 (.t 0)⟩,
 ⟨none,.len 6 (.t 5)⟩,
 ⟨none,.mks 7 9 16 [.int .i64 0,.int .u64 0] (.t 6) (.t 6)⟩,
 ⟨none,.mov 3 (.t 7)⟩])
 (.seq (.seq (.reg [⟨none,.mov 4 (.k (.int .i64 0))⟩])
 (.block 0 (.loop [0,3,4]
 r131L0)))
 (.seq (.reg [⟨none,.mov 22 (.t 3)⟩,
 ⟨none,.mov 2 (.t 22)⟩])
 (.ret))))⟩
def r134L0:RC:=
 .seq (.seq (.reg [⟨none,.mov 11 (.t 5)⟩,
 ⟨none,.mov 12 (.t 0)⟩,
 ⟨none,.len 13 (.t 12)⟩,
 ⟨none,.bin 14 .lss (.t 11) (.t 13)⟩])
 (.cond (.t 14)
 (.skip)
 (.exit 0)))
 (.seq (.block 1 (.seq (.reg [⟨none,.chk []⟩,
 ⟨none,.mov 17 (.t 0)⟩,
 ⟨none,.mov 18 (.t 5)⟩,
 ⟨none,.idx 19 9 (.t 17) (.t 18)⟩,
 ⟨none,.mov 21 (.t 1)⟩,
 ⟨none,.mov 22 (.t 5)⟩,
 ⟨none,.idx 23 9 (.t 21) (.t 22)⟩,
 ⟨none,.load 20 19 2 true⟩,
 ⟨none,.load 24 23 2 true⟩,
 ⟨none,.call (some 25) 140 [(.t 20),(.t 24)] true⟩,
 ⟨none,.not 26 (.t 25)⟩])
 (.cond (.t 26)
 (.seq (.reg [⟨none,.mov 4 (.k (.bool false))⟩])
 (.ret))
 (.skip))))
 (.reg [⟨none,.mov 15 (.t 5)⟩,
 ⟨none,.bin 16 .add (.t 15) (.k (.int .i64 1))⟩,
 ⟨none,.mov 5 (.t 16)⟩]))
def r134:RF:=
 ⟨2,[.tmp 4],
 .seq (.reg [⟨none,.mov 4 (.k (.bool false))⟩])
 (.seq (.seq (.reg [⟨none,.mov 6 (.t 0)⟩,
 ⟨none,.len 7 (.t 6)⟩,
 ⟨none,.mov 8 (.t 1)⟩,
 ⟨none,.len 9 (.t 8)⟩,
 ⟨none,.bin 10 .neq (.t 7) (.t 9)⟩])
 (.cond (.t 10)
 (.seq (.reg [⟨none,.mov 4 (.k (.bool false))⟩])
 (.ret))
 (.skip)))
 (.seq (.seq (.reg [⟨none,.mov 5 (.k (.int .i64 0))⟩])
 (.block 0 (.loop [0,1,5]
 r134L0)))
 (.seq (.reg [⟨none,.mov 4 (.k (.bool true))⟩])
 (.ret))))⟩
def r138:RF:=
 ⟨1,[.cell 2 2 true],
 .seq (.reg [⟨none,.locb 1 (.t 0)⟩,
 ⟨none,.loc 2 [.int .i64 0,.int .u64 0]⟩])
 (.seq (.reg [⟨none,.loc 3 [.int .i64 0,.int .u64 0]⟩])
 (.seq (.reg [⟨none,.fad 4 1 0⟩,
 ⟨none,.load 5 4 1 false⟩,
 ⟨none,.fad 6 3 0⟩,
 ⟨none,.store 6 1 (.t 5)⟩])
 (.seq (.reg [⟨none,.fad 7 1 1⟩,
 ⟨none,.load 8 7 1 false⟩,
 ⟨none,.fad 9 3 1⟩,
 ⟨none,.store 9 1 (.t 8)⟩])
 (.seq (.reg [⟨none,.load 10 3 2 true⟩,
 ⟨none,.store 2 2 (.t 10)⟩])
 (.ret)))))⟩
def r140:RF:=
 ⟨2,[.tmp 4],
 .seq (.reg [⟨none,.locb 2 (.t 0)⟩,
 ⟨none,.locb 3 (.t 1)⟩,
 ⟨none,.mov 4 (.k (.bool false))⟩])
 (.seq (.seq (.reg [⟨none,.fad 5 2 0⟩,
 ⟨none,.load 6 5 1 false⟩,
 ⟨none,.fad 7 3 0⟩,
 ⟨none,.load 8 7 1 false⟩,
 ⟨none,.bin 9 .neq (.t 6) (.t 8)⟩])
 (.cond (.t 9)
 (.seq (.reg [⟨none,.mov 4 (.k (.bool false))⟩])
 (.ret))
 (.skip)))
 (.seq (.seq (.reg [⟨none,.fad 10 2 1⟩,
 ⟨none,.load 11 10 1 false⟩,
 ⟨none,.fad 12 3 1⟩,
 ⟨none,.load 13 12 1 false⟩,
 ⟨none,.bin 14 .neq (.t 11) (.t 13)⟩])
 (.cond (.t 14)
 (.seq (.reg [⟨none,.mov 4 (.k (.bool false))⟩])
 (.ret))
 (.skip)))
 (.seq (.reg [⟨none,.mov 4 (.k (.bool true))⟩])
 (.ret))))⟩
def tLFin:List (Nat×RF):=[(129,r129),(131,r131),(134,r134),(138,r138),(140,r140)]
end Go.Proofs.Yteagcdhkobeanaa.A
namespace Go.Proofs.Yteagcdhkobeanaa.A
open Go
def r2:RF:=
 ⟨1,[.cell 2 5 true],
 .seq (.reg [⟨none,.locb 1 (.t 0)⟩,
 ⟨none,.loc 2 [.int .u64 0,.int .i64 0,.int .i64 0,.int .i64 0,.int .i64 0]⟩])
 (.seq (.reg [⟨none,.loc 3 [.int .u64 0,.int .i64 0,.int .i64 0,.int .i64 0,.int .i64 0]⟩])
 (.seq (.reg [⟨none,.fad 4 1 0⟩,
 ⟨none,.load 5 4 1 false⟩,
 ⟨none,.fad 6 3 0⟩,
 ⟨none,.store 6 1 (.t 5)⟩])
 (.seq (.reg [⟨none,.fad 7 1 1⟩,
 ⟨none,.load 8 7 1 false⟩,
 ⟨none,.fad 9 3 1⟩,
 ⟨none,.store 9 1 (.t 8)⟩])
 (.seq (.reg [⟨none,.fad 10 1 2⟩,
 ⟨none,.load 11 10 1 false⟩,
 ⟨none,.fad 12 3 2⟩,
 ⟨none,.store 12 1 (.t 11)⟩])
 (.seq (.reg [⟨none,.fad 13 1 3⟩,
 ⟨none,.load 14 13 1 false⟩,
 ⟨none,.fad 15 3 3⟩,
 ⟨none,.store 15 1 (.t 14)⟩])
 (.seq (.reg [⟨none,.fad 16 1 4⟩,
 ⟨none,.load 17 16 1 false⟩,
 ⟨none,.fad 18 3 4⟩,
 ⟨none,.store 18 1 (.t 17)⟩])
 (.seq (.reg [⟨none,.load 19 3 5 true⟩,
 ⟨none,.store 2 5 (.t 19)⟩])
 (.ret))))))))⟩
def r86:RF:=
 ⟨2,[.tmp 4],
 .seq (.reg [⟨none,.locb 2 (.t 0)⟩,
 ⟨none,.locb 3 (.t 1)⟩,
 ⟨none,.mov 4 (.k (.bool false))⟩])
 (.seq (.seq (.reg [⟨none,.fad 5 2 0⟩,
 ⟨none,.load 6 5 1 false⟩,
 ⟨none,.fad 7 3 0⟩,
 ⟨none,.load 8 7 1 false⟩,
 ⟨none,.bin 9 .neq (.t 6) (.t 8)⟩])
 (.cond (.t 9)
 (.seq (.reg [⟨none,.mov 4 (.k (.bool false))⟩])
 (.ret))
 (.skip)))
 (.seq (.seq (.reg [⟨none,.fad 10 2 1⟩,
 ⟨none,.load 11 10 1 false⟩,
 ⟨none,.fad 12 3 1⟩,
 ⟨none,.load 13 12 1 false⟩,
 ⟨none,.bin 14 .neq (.t 11) (.t 13)⟩])
 (.cond (.t 14)
 (.seq (.reg [⟨none,.mov 4 (.k (.bool false))⟩])
 (.ret))
 (.skip)))
 (.seq (.seq (.reg [⟨none,.fad 15 2 2⟩,
 ⟨none,.load 16 15 1 false⟩,
 ⟨none,.fad 17 3 2⟩,
 ⟨none,.load 18 17 1 false⟩,
 ⟨none,.bin 19 .neq (.t 16) (.t 18)⟩])
 (.cond (.t 19)
 (.seq (.reg [⟨none,.mov 4 (.k (.bool false))⟩])
 (.ret))
 (.skip)))
 (.seq (.seq (.reg [⟨none,.fad 20 2 3⟩,
 ⟨none,.load 21 20 1 false⟩,
 ⟨none,.fad 22 3 3⟩,
 ⟨none,.load 23 22 1 false⟩,
 ⟨none,.bin 24 .neq (.t 21) (.t 23)⟩])
 (.cond (.t 24)
 (.seq (.reg [⟨none,.mov 4 (.k (.bool false))⟩])
 (.ret))
 (.skip)))
 (.seq (.seq (.reg [⟨none,.fad 25 2 4⟩,
 ⟨none,.load 26 25 1 false⟩,
 ⟨none,.fad 27 3 4⟩,
 ⟨none,.load 28 27 1 false⟩,
 ⟨none,.bin 29 .neq (.t 26) (.t 28)⟩])
 (.cond (.t 29)
 (.seq (.reg [⟨none,.mov 4 (.k (.bool false))⟩])
 (.ret))
 (.skip)))
 (.seq (.reg [⟨none,.mov 4 (.k (.bool true))⟩])
 (.ret)))))))⟩
def tLHand:List (Nat×RF):=[(2,r2),(86,r86)]
end Go.Proofs.Yteagcdhkobeanaa.A
namespace Go.Proofs.Yteagcdhkobeanaa.A
open Go
def r82:RF:=
 ⟨2,[.tmp 4],
 .seq (.reg [⟨none,.locb 2 (.t 0)⟩,
 ⟨none,.mov 4 (.k (.int .i64 0))⟩])
 (.seq (.reg [⟨none,.fad 5 2 4⟩,
 ⟨none,.load 6 5 6 true⟩,
 ⟨none,.mov 7 (.t 1)⟩,
 ⟨none,.call (some 8) 111 [(.t 6),(.t 7)] false⟩,
 ⟨none,.mov 1 (.t 8)⟩])
 (.seq (.seq (.reg [⟨none,.mov 9 (.t 1)⟩,
 ⟨none,.bin 10 .lss (.t 9) (.k (.int .i64 0))⟩])
 (.cond (.t 10)
 (.seq (.reg [⟨none,.mov 4 (.k (.int .i64 (-1)))⟩])
 (.ret))
 (.skip)))
 (.seq (.reg [⟨none,.mov 11 (.t 1)⟩,
 ⟨none,.mov 4 (.t 11)⟩])
 (.ret))))⟩
def r83:RF:=
 ⟨1,[.cell 2 10 true],
 .seq (.reg [⟨none,.locb 1 (.t 0)⟩,
 ⟨none,.loc 2 [.int .i64 0,.int .u64 0,.int .i64 0,.int .i64 0,.int .u64 0,.int .u64 0,.int .i64 0,.int .i64 0,.nil,.nil]⟩])
 (.seq (.reg [⟨none,.loc 3 [.int .i64 0,.int .u64 0,.int .i64 0,.int .i64 0,.int .u64 0,.int .u64 0,.int .i64 0,.int .i64 0,.nil,.nil]⟩])
 (.seq (.reg [⟨none,.fad 4 1 0⟩,
 ⟨none,.load 5 4 1 false⟩,
 ⟨none,.fad 6 3 0⟩,
 ⟨none,.store 6 1 (.t 5)⟩])
 (.seq (.reg [⟨none,.fad 7 1 1⟩,
 ⟨none,.load 8 7 1 false⟩,
 ⟨none,.fad 9 3 1⟩,
 ⟨none,.store 9 1 (.t 8)⟩])
 (.seq (.reg [⟨none,.fad 10 1 2⟩,
 ⟨none,.load 11 10 1 false⟩,
 ⟨none,.fad 12 3 2⟩,
 ⟨none,.store 12 1 (.t 11)⟩])
 (.seq (.reg [⟨none,.fad 13 1 3⟩,
 ⟨none,.load 14 13 1 false⟩,
 ⟨none,.fad 15 3 3⟩,
 ⟨none,.store 15 1 (.t 14)⟩])
 (.seq (.reg [⟨none,.fad 16 1 4⟩,
 ⟨none,.load 17 16 6 true⟩,
 ⟨none,.call (some 18) 112 [(.t 17)] false⟩,
 ⟨none,.fad 19 3 4⟩,
 ⟨none,.store 19 6 (.t 18)⟩])
 (.seq (.reg [⟨none,.load 20 3 10 true⟩,
 ⟨none,.store 2 10 (.t 20)⟩])
 (.ret))))))))⟩
def r87:RF:=
 ⟨2,[.tmp 4],
 .seq (.reg [⟨none,.locb 2 (.t 0)⟩,
 ⟨none,.locb 3 (.t 1)⟩,
 ⟨none,.mov 4 (.k (.bool false))⟩])
 (.seq (.seq (.reg [⟨none,.fad 5 2 0⟩,
 ⟨none,.load 6 5 1 false⟩,
 ⟨none,.fad 7 3 0⟩,
 ⟨none,.load 8 7 1 false⟩,
 ⟨none,.bin 9 .neq (.t 6) (.t 8)⟩])
 (.cond (.t 9)
 (.seq (.reg [⟨none,.mov 4 (.k (.bool false))⟩])
 (.ret))
 (.skip)))
 (.seq (.seq (.reg [⟨none,.fad 10 2 1⟩,
 ⟨none,.load 11 10 1 false⟩,
 ⟨none,.fad 12 3 1⟩,
 ⟨none,.load 13 12 1 false⟩,
 ⟨none,.bin 14 .neq (.t 11) (.t 13)⟩])
 (.cond (.t 14)
 (.seq (.reg [⟨none,.mov 4 (.k (.bool false))⟩])
 (.ret))
 (.skip)))
 (.seq (.seq (.reg [⟨none,.fad 15 2 2⟩,
 ⟨none,.load 16 15 1 false⟩,
 ⟨none,.fad 17 3 2⟩,
 ⟨none,.load 18 17 1 false⟩,
 ⟨none,.bin 19 .neq (.t 16) (.t 18)⟩])
 (.cond (.t 19)
 (.seq (.reg [⟨none,.mov 4 (.k (.bool false))⟩])
 (.ret))
 (.skip)))
 (.seq (.seq (.reg [⟨none,.fad 20 2 3⟩,
 ⟨none,.load 21 20 1 false⟩,
 ⟨none,.fad 22 3 3⟩,
 ⟨none,.load 23 22 1 false⟩,
 ⟨none,.bin 24 .neq (.t 21) (.t 23)⟩])
 (.cond (.t 24)
 (.seq (.reg [⟨none,.mov 4 (.k (.bool false))⟩])
 (.ret))
 (.skip)))
 (.seq (.seq (.reg [⟨none,.fad 25 2 4⟩,
 ⟨none,.load 26 25 6 true⟩,
 ⟨none,.fad 27 3 4⟩,
 ⟨none,.load 28 27 6 true⟩,
 ⟨none,.call (some 29) 114 [(.t 26),(.t 28)] false⟩,
 ⟨none,.not 30 (.t 29)⟩])
 (.cond (.t 30)
 (.seq (.reg [⟨none,.mov 4 (.k (.bool false))⟩])
 (.ret))
 (.skip)))
 (.seq (.reg [⟨none,.mov 4 (.k (.bool true))⟩])
 (.ret)))))))⟩
def tLHandMsg:List (Nat×RF):=[(82,r82),(83,r83),(87,r87)]
end Go.Proofs.Yteagcdhkobeanaa.A
namespace Go.Proofs.Yteagcdhkobeanaa.A
open Go
def r111:RF:=
 ⟨2,[.tmp 4],
 .seq (.reg [⟨none,.locb 2 (.t 0)⟩,
 ⟨none,.mov 4 (.k (.int .i64 0))⟩])
 (.seq (.reg [⟨none,.fad 5 2 4⟩,
 ⟨none,.load 6 5 1 true⟩,
 ⟨none,.mov 7 (.t 1)⟩,
 ⟨none,.call (some 8) 128 [(.t 6),(.t 7)] false⟩,
 ⟨none,.mov 1 (.t 8)⟩])
 (.seq (.seq (.reg [⟨none,.mov 9 (.t 1)⟩,
 ⟨none,.bin 10 .lss (.t 9) (.k (.int .i64 0))⟩])
 (.cond (.t 10)
 (.seq (.reg [⟨none,.mov 4 (.k (.int .i64 (-1)))⟩])
 (.ret))
 (.skip)))
 (.seq (.reg [⟨none,.fad 11 2 5⟩,
 ⟨none,.load 12 11 1 false⟩,
 ⟨none,.mov 13 (.t 1)⟩,
 ⟨none,.call (some 14) 129 [(.t 12),(.t 13)] false⟩,
 ⟨none,.mov 1 (.t 14)⟩])
 (.seq (.seq (.reg [⟨none,.mov 15 (.t 1)⟩,
 ⟨none,.bin 16 .lss (.t 15) (.k (.int .i64 0))⟩])
 (.cond (.t 16)
 (.seq (.reg [⟨none,.mov 4 (.k (.int .i64 (-1)))⟩])
 (.ret))
 (.skip)))
 (.seq (.reg [⟨none,.mov 17 (.t 1)⟩,
 ⟨none,.mov 4 (.t 17)⟩])
 (.ret))))))⟩
def r112:RF:=
 ⟨1,[.cell 2 6 true],
 .seq (.reg [⟨none,.locb 1 (.t 0)⟩,
 ⟨none,.loc 2 [.int .u64 0,.int .u64 0,.int .i64 0,.int .i64 0,.nil,.nil]⟩])
 (.seq (.reg [⟨none,.loc 3 [.int .u64 0,.int .u64 0,.int .i64 0,.int .i64 0,.nil,.nil]⟩])
 (.seq (.reg [⟨none,.fad 4 1 0⟩,
 ⟨none,.load 5 4 1 false⟩,
 ⟨none,.fad 6 3 0⟩,
 ⟨none,.store 6 1 (.t 5)⟩])
 (.seq (.reg [⟨none,.fad 7 1 1⟩,
 ⟨none,.load 8 7 1 false⟩,
 ⟨none,.fad 9 3 1⟩,
 ⟨none,.store 9 1 (.t 8)⟩])
 (.seq (.reg [⟨none,.fad 10 1 2⟩,
 ⟨none,.load 11 10 1 false⟩,
 ⟨none,.fad 12 3 2⟩,
 ⟨none,.store 12 1 (.t 11)⟩])
 (.seq (.reg [⟨none,.fad 13 1 3⟩,
 ⟨none,.load 14 13 1 false⟩,
 ⟨none,.fad 15 3 3⟩,
 ⟨none,.store 15 1 (.t 14)⟩])
 (.seq (.reg [⟨none,.fad 16 1 4⟩,
 ⟨none,.load 17 16 1 true⟩,
 ⟨none,.call (some 18) 130 [(.t 17)] false⟩,
 ⟨none,.fad 19 3 4⟩,
 ⟨none,.store 19 1 (.t 18)⟩])
 (.seq (.reg [⟨none,.fad 20 1 5⟩,
 ⟨none,.load 21 20 1 false⟩,
 ⟨none,.call (some 22) 131 [(.t 21)] false⟩,
 ⟨none,.fad 23 3 5⟩,
 ⟨none,.store 23 1 (.t 22)⟩])
 (.seq (.reg [⟨none,.load 24 3 6 true⟩,
 ⟨none,.store 2 6 (.t 24)⟩])
 (.ret)))))))))⟩
def r114:RF:=
 ⟨2,[.tmp 4],
 .seq (.reg [⟨none,.locb 2 (.t 0)⟩,
 ⟨none,.locb 3 (.t 1)⟩,
 ⟨none,.mov 4 (.k (.bool false))⟩])
 (.seq (.seq (.reg [⟨none,.fad 5 2 0⟩,
 ⟨none,.load 6 5 1 false⟩,
 ⟨none,.fad 7 3 0⟩,
 ⟨none,.load 8 7 1 false⟩,
 ⟨none,.bin 9 .neq (.t 6) (.t 8)⟩])
 (.cond (.t 9)
 (.seq (.reg [⟨none,.mov 4 (.k (.bool false))⟩])
 (.ret))
 (.skip)))
 (.seq (.seq (.reg [⟨none,.fad 10 2 1⟩,
 ⟨none,.load 11 10 1 false⟩,
 ⟨none,.fad 12 3 1⟩,
 ⟨none,.load 13 12 1 false⟩,
 ⟨none,.bin 14 .neq (.t 11) (.t 13)⟩])
 (.cond (.t 14)
 (.seq (.reg [⟨none,.mov 4 (.k (.bool false))⟩])
 (.ret))
 (.skip)))
 (.seq (.seq (.reg [⟨none,.fad 15 2 2⟩,
 ⟨none,.load 16 15 1 false⟩,
 ⟨none,.fad 17 3 2⟩,
 ⟨none,.load 18 17 1 false⟩,
 ⟨none,.bin 19 .neq (.t 16) (.t 18)⟩])
 (.cond (.t 19)
 (.seq (.reg [⟨none,.mov 4 (.k (.bool false))⟩])
 (.ret))
 (.skip)))
 (.seq (.seq (.reg [⟨none,.fad 20 2 3⟩,
 ⟨none,.load 21 20 1 false⟩,
 ⟨none,.fad 22 3 3⟩,
 ⟨none,.load 23 22 1 false⟩,
 ⟨none,.bin 24 .neq (.t 21) (.t 23)⟩])
 (.cond (.t 24)
 (.seq (.reg [⟨none,.mov 4 (.k (.bool false))⟩])
 (.ret))
 (.skip)))
 (.seq (.seq (.reg [⟨none,.fad 25 2 4⟩,
 ⟨none,.load 26 25 1 true⟩,
 ⟨none,.fad 27 3 4⟩,
 ⟨none,.load 28 27 1 true⟩,
 ⟨none,.call (some 29) 133 [(.t 26),(.t 28)] false⟩,
 ⟨none,.not 30 (.t 29)⟩])
 (.cond (.t 30)
 (.seq (.reg [⟨none,.mov 4 (.k (.bool false))⟩])
 (.ret))
 (.skip)))
 (.seq (.seq (.reg [⟨none,.fad 31 2 5⟩,
 ⟨none,.load 32 31 1 false⟩,
 ⟨none,.fad 33 3 5⟩,
 ⟨none,.load 34 33 1 false⟩,
 ⟨none,.call (some 35) 134 [(.t 32),(.t 34)] false⟩,
 ⟨none,.not 36 (.t 35)⟩])
 (.cond (.t 36)
 (.seq (.reg [⟨none,.mov 4 (.k (.bool false))⟩])
 (.ret))
 (.skip)))
 (.seq (.reg [⟨none,.mov 4 (.k (.bool true))⟩])
 (.ret))))))))⟩
def tLShard:List (Nat×RF):=[(111,r111),(112,r112),(114,r114)]
end Go.Proofs.Yteagcdhkobeanaa.A
namespace Go.Proofs.Yteagcdhkobeanaa.A
open Go
def r5:RF:=
 ⟨3,[.tmp 6],
 .seq (.reg [⟨none,.mov 6 (.k (.bool false))⟩])
 (.seq (.reg [⟨none,.mov 7 (.t 1)⟩,
 ⟨none,.mov 8 (.t 0)⟩,
 ⟨none,.bin 9 .leq (.t 7) (.t 8)⟩,
 ⟨none,.mov 10 (.t 9)⟩,
 ⟨some (10,true),.mov 11 (.t 0)⟩,
 ⟨some (10,true),.mov 12 (.t 2)⟩,
 ⟨some (10,true),.bin 13 .leq (.t 11) (.t 12)⟩,
 ⟨none,.pick 14 (.t 10) (.t 13) (.k (.bool false))⟩,
 ⟨none,.mov 6 (.t 14)⟩])
 (.ret))⟩
def tS01d:List (Nat×RF):=[(5,r5)]
end Go.Proofs.Yteagcdhkobeanaa.A
namespace Go.Proofs.Yteagcdhkobeanaa.A
open Go
def r3:RF:=
 ⟨1,[.tmp 2],
 .seq (.reg [⟨none,.locb 1 (.t 0)⟩,
 ⟨none,.mov 2 (.k (.bool false))⟩])
 (.seq (.reg [⟨none,.fad 3 1 1⟩,
 ⟨none,.load 4 3 1 false⟩,
 ⟨none,.call (some 5) 5 [(.t 4),(.k (.int .i64 0)),(.k (.int .i64 99))] false⟩,
 ⟨none,.mov 6 (.t 5)⟩,
 ⟨some (6,true),.fad 7 1 2⟩,
 ⟨some (6,true),.load 8 7 1 false⟩,
 ⟨some (6,true),.call (some 9) 5 [(.t 8),(.k (.int .i64 0)),(.k (.int .i64 99))] false⟩,
 ⟨none,.pick 10 (.t 6) (.t 9) (.k (.bool false))⟩,
 ⟨none,.mov 11 (.t 10)⟩,
 ⟨some (11,true),.fad 12 1 1⟩,
 ⟨some (11,true),.load 13 12 1 false⟩,
 ⟨some (11,true),.fad 14 1 2⟩,
 ⟨some (11,true),.load 15 14 1 false⟩,
 ⟨some (11,true),.bin 16 .neq (.t 13) (.t 15)⟩,
 ⟨none,.pick 17 (.t 11) (.t 16) (.k (.bool false))⟩,
 ⟨none,.mov 18 (.t 17)⟩,
 ⟨some (18,true),.fad 19 1 3⟩,
 ⟨some (18,true),.load 20 19 1 false⟩,
 ⟨some (18,true),.call (some 21) 5 [(.t 20),(.k (.int .i64 1)),(.k (.int .i64 999999))] false⟩,
 ⟨none,.pick 22 (.t 18) (.t 21) (.k (.bool false))⟩,
 ⟨none,.mov 23 (.t 22)⟩,
 ⟨some (23,true),.fad 24 1 4⟩,
 ⟨some (23,true),.load 25 24 1 false⟩,
 ⟨some (23,true),.call (some 26) 5 [(.t 25),(.k (.int .i64 0)),(.k (.int .i64 3))] false⟩,
 ⟨none,.pick 27 (.t 23) (.t 26) (.k (.bool false))⟩,
 ⟨none,.mov 2 (.t 27)⟩])
 (.ret))⟩
def r84:RF:=
 ⟨2,[.cell 4 5 true,.tmp 5],
 .seq (.reg [⟨none,.locb 2 (.t 0)⟩,
 ⟨none,.locb 3 (.t 1)⟩,
 ⟨none,.loc 4 [.int .u64 0,.int .i64 0,.int .i64 0,.int .i64 0,.int .i64 0]⟩,
 ⟨none,.mov 5 (.k (.bool false))⟩])
 (.seq (.reg [⟨none,.fad 7 2 3⟩,
 ⟨none,.load 8 7 1 false⟩,
 ⟨none,.mov 6 (.t 8)⟩])
 (.seq (.seq (.reg [⟨none,.fad 9 2 4⟩,
 ⟨none,.load 10 9 1 false⟩,
 ⟨none,.bin 11 .eql (.t 10) (.k (.int .i64 1))⟩])
 (.cond (.t 11)
 (.reg [⟨none,.fad 12 2 3⟩,
 ⟨none,.load 13 12 1 false⟩,
 ⟨none,.bin 14 .add (.t 13) (.k (.int .i64 1))⟩,
 ⟨none,.mov 6 (.t 14)⟩])
 (.skip)))
 (.seq (.seq (.reg [⟨none,.load 15 2 5 true⟩,
 ⟨none,.call (some 16) 3 [(.t 15)] false⟩,
 ⟨none,.not 17 (.t 16)⟩,
 ⟨none,.mov 18 (.t 17)⟩,
 ⟨some (18,false),.fad 19 2 4⟩,
 ⟨some (18,false),.load 20 19 1 false⟩,
 ⟨some (18,false),.bin 21 .eql (.t 20) (.k (.int .i64 3))⟩,
 ⟨none,.pick 22 (.t 18) (.k (.bool true)) (.t 21)⟩,
 ⟨none,.mov 23 (.t 22)⟩,
 ⟨some (23,false),.fad 24 3 0⟩,
 ⟨some (23,false),.load 25 24 1 false⟩,
 ⟨some (23,false),.fad 26 2 4⟩,
 ⟨some (23,false),.load 27 26 1 false⟩,
 ⟨some (23,false),.bin 28 .neq (.t 25) (.t 27)⟩,
 ⟨none,.pick 29 (.t 23) (.k (.bool true)) (.t 28)⟩,
 ⟨none,.mov 30 (.t 29)⟩,
 ⟨some (30,false),.fad 31 3 1⟩,
 ⟨some (30,false),.load 32 31 1 false⟩,
 ⟨some (30,false),.fad 33 2 0⟩,
 ⟨some (30,false),.load 34 33 1 false⟩,
 ⟨some (30,false),.bin 35 .neq (.t 32) (.t 34)⟩,
 ⟨none,.pick 36 (.t 30) (.k (.bool true)) (.t 35)⟩,
 ⟨none,.mov 37 (.t 36)⟩,
 ⟨some (37,false),.fad 38 3 3⟩,
 ⟨some (37,false),.load 39 38 1 false⟩,
 ⟨some (37,false),.mov 40 (.t 6)⟩,
 ⟨some (37,false),.bin 41 .neq (.t 39) (.t 40)⟩,
 ⟨none,.pick 42 (.t 37) (.k (.bool true)) (.t 41)⟩])
 (.cond (.t 42)
 (.seq (.reg [⟨none,.load 43 2 5 true⟩,
 ⟨none,.store 4 5 (.t 43)⟩,
 ⟨none,.mov 5 (.k (.bool false))⟩])
 (.ret))
 (.skip)))
 (.seq (.reg [⟨none,.fad 44 2 4⟩,
 ⟨none,.load 45 44 1 false⟩,
 ⟨none,.bin 46 .add (.t 45) (.k (.int .i64 1))⟩,
 ⟨none,.fad 47 2 4⟩,
 ⟨none,.store 47 1 (.t 46)⟩])
 (.seq (.reg [⟨none,.load 48 2 5 true⟩,
 ⟨none,.store 4 5 (.t 48)⟩,
 ⟨none,.mov 5 (.k (.bool true))⟩])
 (.ret))))))⟩
def tS15:List (Nat×RF):=[(3,r3),(84,r84)]
end Go.Proofs.Yteagcdhkobeanaa.A
namespace Go.Proofs.Yteagcdhkobeanaa.A
open Go
def r81:RF:=
 ⟨2,[.tmp 4],
 .seq (.reg [⟨none,.locb 2 (.t 0)⟩,
 ⟨none,.locb 3 (.t 1)⟩,
 ⟨none,.mov 4 (.k (.bool false))⟩])
 (.seq (.reg [⟨none,.mov 5 (.k (.int .i64 1048576))⟩])
 (.seq (.reg [⟨none,.load 11 3 10 true⟩,
 ⟨none,.mov 12 (.t 5)⟩,
 ⟨none,.call (some 13) 82 [(.t 11),(.t 12)] false⟩,
 ⟨none,.mov 5 (.t 13)⟩])
 (.seq (.seq (.reg [⟨none,.mov 14 (.t 5)⟩,
 ⟨none,.bin 15 .lss (.t 14) (.k (.int .i64 0))⟩])
 (.cond (.t 15)
 (.seq (.reg [⟨none,.mov 4 (.k (.bool true))⟩])
 (.ret))
 (.skip)))
 (.seq (.reg [⟨none,.chk [6]⟩,
 ⟨none,.loc 6 [.int .u64 0,.int .i64 0,.int .i64 0,.int .i64 0,.int .i64 0]⟩,
 ⟨none,.load 17 2 5 true⟩,
 ⟨none,.load 19 3 10 true⟩,
 ⟨none,.call (some 18) 2 [(.t 17)] true⟩,
 ⟨none,.call (some 20) 83 [(.t 19)] true⟩,
 ⟨none,.call (some 21) 84 [(.t 18),(.t 20)] true⟩,
 ⟨none,.mov 16 (.t 21)⟩,
 ⟨none,.ext 22 (.t 16) 0⟩,
 ⟨none,.ext 23 (.t 16) 1⟩,
 ⟨none,.store 6 5 (.t 22)⟩,
 ⟨none,.mov 7 (.t 23)⟩])
 (.seq (.reg [⟨none,.load 24 3 10 true⟩,
 ⟨none,.call (some 25) 83 [(.t 24)] false⟩,
 ⟨none,.loc 8 [.int .i64 0,.int .u64 0,.int .i64 0,.int .i64 0,.int .u64 0,.int .u64 0,.int .i64 0,.int .i64 0,.nil,.nil]⟩,
 ⟨none,.store 8 10 (.t 25)⟩])
 (.seq (.reg [⟨none,.chk [9]⟩,
 ⟨none,.loc 9 [.int .u64 0,.int .i64 0,.int .i64 0,.int .i64 0,.int .i64 0]⟩,
 ⟨none,.load 27 2 5 true⟩,
 ⟨none,.load 29 8 10 true⟩,
 ⟨none,.call (some 28) 2 [(.t 27)] true⟩,
 ⟨none,.call (some 30) 85 [(.t 28),(.t 29)] true⟩,
 ⟨none,.mov 26 (.t 30)⟩,
 ⟨none,.ext 31 (.t 26) 0⟩,
 ⟨none,.ext 32 (.t 26) 1⟩,
 ⟨none,.store 9 5 (.t 31)⟩,
 ⟨none,.mov 10 (.t 32)⟩])
 (.seq (.seq (.reg [⟨none,.load 33 9 5 true⟩,
 ⟨none,.load 34 6 5 true⟩,
 ⟨none,.call (some 35) 86 [(.t 33),(.t 34)] false⟩,
 ⟨none,.not 36 (.t 35)⟩,
 ⟨none,.mov 37 (.t 36)⟩,
 ⟨some (37,false),.mov 38 (.t 10)⟩,
 ⟨some (37,false),.mov 39 (.t 7)⟩,
 ⟨some (37,false),.beq 40 true (.t 38) (.t 39)⟩,
 ⟨none,.pick 41 (.t 37) (.k (.bool true)) (.t 40)⟩])
 (.cond (.t 41)
 (.seq (.reg [⟨none,.mov 4 (.k (.bool false))⟩])
 (.ret))
 (.skip)))
 (.seq (.seq (.reg [⟨none,.chk []⟩,
 ⟨none,.load 42 8 10 true⟩,
 ⟨none,.load 43 3 10 true⟩,
 ⟨none,.call (some 44) 83 [(.t 43)] true⟩,
 ⟨none,.call (some 45) 87 [(.t 42),(.t 44)] true⟩,
 ⟨none,.not 46 (.t 45)⟩])
 (.cond (.t 46)
 (.seq (.reg [⟨none,.mov 4 (.k (.bool false))⟩])
 (.ret))
 (.skip)))
 (.seq (.reg [⟨none,.mov 4 (.k (.bool true))⟩])
 (.ret))))))))))⟩
def tWHandDone:List (Nat×RF):=[(81,r81)]
end Go.Proofs.Yteagcdhkobeanaa.A
namespace Go.Proofs.Yteagcdhkobeanaa.A
open Go
set_option linter.unusedSimpArgs false
set_option linter.unusedVariables false
abbrev Has (F:Nat→Option RF) (t:List (Nat×RF)):Prop:=AllT (fun x=>F x.1=some x.2) t
def inR (x lo hi:Int):Bool:=decide (lo≤x)&&decide (x≤hi)
section
variable {F:Nat→Option RF} {Z:CallF}
theorem isGroupId_run (hI11:Has F tI11) (n:Int) (h:Heap):
 call F Z 7 [.c (.int .i64 n)] h=some (.c (.bool (inR n 0 99)),h):=by
 rw[call_run F Z (hI11.lk (g:=7) rfl) _ _ rfl]
 simp only[rn,RO.dst,lk,drop,Nat.reduceBEq,Nat.reduceAdd,Nat.reduceLeDiff,↓reduceIte,reduceCtorEq]
 (repeat' ((first | (rw[gF_if];split) | (rw[condC_if];split) | (rw[pickR_if];split))<;>(rename_i hh;(try simp only[Bool.not_eq_true,decide_eq_true_eq] at hh);simp only[hh,rn,RO.dst,lk,drop,Nat.reduceBEq,Nat.reduceAdd,Nat.reduceLeDiff,↓reduceIte,reduceCtorEq])))<;>simp[inR, *]
theorem l01In_run (hS:Has F tS01d) (n lo hi:Int) (h:Heap):
 call F Z 5 [.c (.int .i64 n),.c (.int .i64 lo),.c (.int .i64 hi)] h=some (.c (.bool (inR n lo hi)),h):=by
 rw[call_run F Z (hS.lk (g:=5) rfl) _ _ rfl]
 simp only[rn,RO.dst,lk,drop,Nat.reduceBEq,Nat.reduceAdd,Nat.reduceLeDiff,↓reduceIte,reduceCtorEq]
 (repeat' ((first | (rw[gF_if];split) | (rw[condC_if];split) | (rw[pickR_if];split))<;>(rename_i hh;(try simp only[Bool.not_eq_true,decide_eq_true_eq] at hh);simp only[hh,rn,RO.dst,lk,drop,Nat.reduceBEq,Nat.reduceAdd,Nat.reduceLeDiff,↓reduceIte,reduceCtorEq])))<;>simp[inR, *]
end
end Go.Proofs.Yteagcdhkobeanaa.A
namespace Go.Proofs.Yteagcdhkobeanaa.A
open Go
set_option linter.unusedSimpArgs false
set_option linter.unusedVariables false
section
variable {F:Nat→Option RF} {Z:CallF}
def handOk (lo from_ to epoch phase:Int):Bool:=inR from_ 0 99&&inR to 0 99&&(from_ !=to)&&inR epoch 1 999999&&inR phase 0 3
theorem isHand_run (hI11:AllT (fun x=>F x.1=some x.2) tI11) (hI15:AllT (fun x=>F x.1=some x.2) tI15) (a b c d e:Int) (h:Heap):
 call F Z 6 [.agg [.int .u64 a,.int .i64 b,.int .i64 c,.int .i64 d,.int .i64 e]] h=some (.c (.bool (handOk a b c d e)),h):=by
 rw[call_run F Z (hI15.lk (g:=6) rfl) _ _ rfl]
 simp only[rn,RO.dst,lk,drop,Nat.reduceBEq,Nat.reduceAdd,Nat.reduceLeDiff,↓reduceIte,reduceCtorEq,isGroupId_run hI11]
 (repeat' ((first | (rw[gF_if];split) | (rw[condC_if];split) | (rw[pickR_if];split))<;>(rename_i hh;(try simp only[Bool.not_eq_true,decide_eq_true_eq] at hh);simp only[hh,rn,RO.dst,lk,drop,Nat.reduceBEq,Nat.reduceAdd,Nat.reduceLeDiff,↓reduceIte,reduceCtorEq,isGroupId_run hI11])))<;>refine fin_bool ?_<;>simp_all[handOk,inR]<;>omega
theorem sHandOk_run (hS01d:AllT (fun x=>F x.1=some x.2) tS01d) (hS15:AllT (fun x=>F x.1=some x.2) tS15) (a b c d e:Int) (h:Heap):
 call F Z 3 [.agg [.int .u64 a,.int .i64 b,.int .i64 c,.int .i64 d,.int .i64 e]] h=some (.c (.bool (handOk a b c d e)),h):=by
 rw[call_run F Z (hS15.lk (g:=3) rfl) _ _ rfl]
 simp only[rn,RO.dst,lk,drop,Nat.reduceBEq,Nat.reduceAdd,Nat.reduceLeDiff,↓reduceIte,reduceCtorEq,l01In_run hS01d]
 (repeat' ((first | (rw[gF_if];split) | (rw[condC_if];split) | (rw[pickR_if];split))<;>(rename_i hh;(try simp only[Bool.not_eq_true,decide_eq_true_eq] at hh);simp only[hh,rn,RO.dst,lk,drop,Nat.reduceBEq,Nat.reduceAdd,Nat.reduceLeDiff,↓reduceIte,reduceCtorEq,l01In_run hS01d])))<;>refine fin_bool ?_<;>simp_all[handOk]
theorem toHand_run (hL:AllT (fun x=>F x.1=some x.2) tLHand) (a b c d e:Int) (h:Heap):
 call F Z 2 [.agg [.int .u64 a,.int .i64 b,.int .i64 c,.int .i64 d,.int .i64 e]] h=some (.agg [.int .u64 a,.int .i64 b,.int .i64 c,.int .i64 d,.int .i64 e],h):=by
 rw[call_run F Z (hL.lk (g:=2) rfl) _ _ rfl]
 simp only[rn,RO.dst,lk,drop,Nat.reduceBEq,Nat.reduceAdd,Nat.reduceLeDiff,↓reduceIte,reduceCtorEq]
end
end Go.Proofs.Yteagcdhkobeanaa.A
namespace Go.Proofs.Yteagcdhkobeanaa.A
open Go
set_option linter.unusedSimpArgs false
set_option linter.unusedVariables false
theorem wrapI (z:Int) (h1: -9223372036854775808≤z) (h2:z≤9223372036854775807):IntKind.i64.wrap z=z:=by
 show (if (true&&decide (z%18446744073709551616≥9223372036854775808))=true then z%18446744073709551616-18446744073709551616 else z%18446744073709551616)=z
 simp only[Bool.true_and,decide_eq_true_eq]
 split<;>omega
theorem wrapS (i:Nat) (h:i<9223372036854775807):IntKind.i64.wrap ((i:Int)+1)=((i+1:Nat):Int):=by rw[wrapI _ (by omega) (by omega)];rfl
abbrev Rel (α:Type):=Heap→List Cell→α→List Nat→Prop
structure RelOk {α:Type} (R:Rel α):Prop where
 lt: ∀{h cs a fp},R h cs a fp→ ∀id,id∈fp→id<h.next
 mv: ∀{h h' cs a fp},R h cs a fp→h.next≤h'.next→(∀id,id∈fp→h'.get id=h.get id)→R h' cs a fp
def Fl {α:Type} (enc:α→List Cell):Rel α:=fun _ cs a fp=>cs=enc a∧fp=[]
theorem Fl.ok {α:Type} (enc:α→List Cell):RelOk (Fl enc) where
 lt:=by rintro h cs a fp ⟨rfl,rfl⟩ id hid;cases hid
 mv:=fun e _ _=>e
def AllR {α:Type} (R:Rel α) (h:Heap):List (List Cell)→List α→List (List Nat)→Prop
 | [],[],[]=>True
 | r::rs,a::bs,f::fs=>R h r a f∧AllR R h rs bs fs
 | _,_,_=>False
def Cell.sid:Cell→Nat
 | .sl _ id _ _=>id
 | _=>0
def SlR {α:Type} (tag:Nat) (R:Rel α) (h:Heap) (x:Cell) (xs:List α) (fp:List Nat):Prop:=
 xs.length≤maxLen∧((x= .nil∧xs=[]∧fp=[])∨ ∃id rows fps,x= .sl tag id 0 xs.length∧h.get id=some rows∧id<h.next∧fp=id::fps.flatten∧AllR R h rows xs fps)
section
variable {α:Type} {R:Rel α} {h h':Heap}
theorem AllR.len: ∀{rows:List (List Cell)} {xs:List α} {fps:List (List Nat)},AllR R h rows xs fps→rows.length=xs.length
 | [],[],[],_=>rfl
 | _::_,_::_,_::_,⟨_,w⟩=>by simp only[List.length_cons,AllR.len w]
 | [],[],_::_,w=>w.elim
 | [],_::_,_,w=>w.elim
 | _::_,[],_,w=>w.elim
 | _::_,_::_,[],w=>w.elim
theorem AllR.at: ∀{rows:List (List Cell)} {xs:List α} {fps:List (List Nat)},AllR R h rows xs fps→ ∀(i:Nat) (hi:i<xs.length),∃r f,rows[i]? =some r∧fps[i]? =some f∧R h r xs[i] f
 | [],[],[],_=>fun i hi=>absurd hi (Nat.not_lt_zero _)
 | r::_,_::_,f::_,⟨w1,w⟩=>fun i hi=>by
   cases i with
   | zero=>exact ⟨r,f,rfl,rfl,w1⟩
   | succ i=>exact AllR.at w i (by simpa using hi)
 | [],[],_::_,w=>w.elim
 | [],_::_,_,w=>w.elim
 | _::_,[],_,w=>w.elim
 | _::_,_::_,[],w=>w.elim
theorem AllR.mv (ok:RelOk R): ∀{rows:List (List Cell)} {xs:List α} {fps:List (List Nat)},AllR R h rows xs fps→h.next≤h'.next→(∀id,id∈fps.flatten→h'.get id=h.get id)→AllR R h' rows xs fps
 | [],[],[],_=>fun _ _=>trivial
 | _::_,_::_,_::_,⟨w1,w⟩=>fun hn hg=>⟨ok.mv w1 hn fun id hid=>hg id (by simp[hid]),w.mv ok hn fun id hid=>hg id (by rw[List.flatten_cons];exact List.mem_append_right _ hid)⟩
 | [],[],_::_,w=>w.elim
 | [],_::_,_,w=>w.elim
 | _::_,[],_,w=>w.elim
 | _::_,_::_,[],w=>w.elim
theorem AllR.lt (ok:RelOk R): ∀{rows:List (List Cell)} {xs:List α} {fps:List (List Nat)},AllR R h rows xs fps→ ∀id,id∈fps.flatten→id<h.next
 | [],[],[],_=>fun id hid=>by simp at hid
 | _::_,_::_,_::_,⟨w1,w⟩=>fun id hid=>by
   rw[List.flatten_cons] at hid
   rcases List.mem_append.1 hid with hid | hid
   ·exact ok.lt w1 id hid
   ·exact w.lt ok id hid
 | [],[],_::_,w=>w.elim
 | [],_::_,_,w=>w.elim
 | _::_,[],_,w=>w.elim
 | _::_,_::_,[],w=>w.elim
theorem AllR.flat {enc:α→List Cell}: ∀{rows:List (List Cell)} {xs:List α} {fps:List (List Nat)},AllR (Fl enc) h rows xs fps→rows=xs.map enc∧fps.flatten=[]
 | [],[],[],_=>⟨rfl,rfl⟩
 | _::_,_::_,_::_,⟨⟨rfl,rfl⟩,w⟩=>⟨by rw[w.flat.1];rfl,by rw[List.flatten_cons,w.flat.2];rfl⟩
 | [],[],_::_,w=>w.elim
 | [],_::_,_,w=>w.elim
 | _::_,[],_,w=>w.elim
 | _::_,_::_,[],w=>w.elim
theorem AllR.ofFlat {enc:α→List Cell}: ∀(xs:List α),AllR (Fl enc) h (xs.map enc) xs (xs.map fun _=>[])
 | []=>trivial
 | _::r=>⟨⟨rfl,rfl⟩,AllR.ofFlat r⟩
variable {tag:Nat} {x:Cell} {xs:List α} {fp:List Nat}
theorem SlR.le (w:SlR tag R h x xs fp):xs.length≤maxLen:=w.1
theorem SlR.le2 (w:SlR tag R h x xs fp):xs.length≤9223372036854775807:=by have:=w.1;unfold maxLen at this;omega
theorem SlR.lt (ok:RelOk R) (w:SlR tag R h x xs fp): ∀id,id∈fp→id<h.next:=by
 rcases w with ⟨_,⟨_,_,rfl⟩ | ⟨id,rows,fps,_,_,h1,rfl,h2⟩⟩
 ·intro id hid;cases hid
 ·intro i hi
  rcases List.mem_cons.1 hi with rfl | hi
  ·exact h1
  ·exact h2.lt ok i hi
theorem SlR.mv (ok:RelOk R) (w:SlR tag R h x xs fp) (hn:h.next≤h'.next) (hg: ∀id,id∈fp→h'.get id=h.get id):SlR tag R h' x xs fp:=by
 rcases w with ⟨hl,⟨h1,h2,rfl⟩ | ⟨id,rows,fps,h1,h2,h3,rfl,h4⟩⟩
 ·exact ⟨hl,.inl ⟨h1,h2,rfl⟩⟩
 ·exact ⟨hl,.inr ⟨id,rows,fps,h1,(hg id (by simp)).trans h2,Nat.lt_of_lt_of_le h3 hn,rfl,h4.mv ok hn fun i hi=>hg i (by simp[hi])⟩⟩
theorem SlR.mono (ok:RelOk R) (w:SlR tag R h x xs fp) (hx:HExt h h'):SlR tag R h' x xs fp:=w.mv ok hx.1 fun id hid=>hx.2 id (w.lt ok id hid)
theorem RelOk.mono (ok:RelOk R) {cs:List Cell} {a:α} (w:R h cs a fp) (hx:HExt h h'):R h' cs a fp:=ok.mv w hx.1 fun id hid=>hx.2 id (ok.lt w id hid)
theorem SlR.len (w:SlR tag R h x xs fp):lenR (some x)=some (.int .i64 (xs.length:Nat)):=by
 rcases w with ⟨_,⟨rfl,rfl,_⟩ | ⟨id,rows,fps,rfl,_⟩⟩<;>rfl
theorem SlR.idx (w:SlR tag R h x xs fp) {i:Nat} (hi:i<xs.length):idxR tag (some x) (some (i:Int))=some (.ptr x.sid i 0):=by
 rcases w with ⟨_,⟨rfl,rfl,_⟩ | ⟨id,rows,fps,rfl,_⟩⟩
 ·exact absurd hi (Nat.not_lt_zero _)
 ·rw[idxR_s,if_pos (by omega)];simp[Cell.sid]
theorem SlR.row (w:SlR tag R h x xs fp) {i:Nat} (hi:i<xs.length): ∃r f,rowOf h x.sid i=some r∧R h r xs[i] f∧ ∀id,id∈f→id∈fp:=by
 rcases w with ⟨_,⟨rfl,rfl,_⟩ | ⟨id,rows,fps,rfl,h1,_,rfl,h2⟩⟩
 ·exact absurd hi (Nat.not_lt_zero _)
 ·obtain ⟨r,f,q1,q2,q3⟩:=h2.at i hi
  refine ⟨r,f,by simp[rowOf,Cell.sid,h1,q1],q3,fun id hid=>List.mem_cons_of_mem _ (List.mem_flatten.2 ⟨f,List.mem_of_getElem? q2,hid⟩)⟩
theorem SlR.flat {enc:α→List Cell} (w:SlR tag (Fl enc) h x xs fp):(x= .nil∧xs=[]∧fp=[])∨x= .sl tag x.sid 0 xs.length∧h.get x.sid=some (xs.map enc)∧x.sid<h.next∧fp=[x.sid]:=by
 rcases w with ⟨_,h0 | ⟨id,rows,fps,rfl,h1,h2,rfl,h3⟩⟩
 ·exact .inl h0
 ·obtain ⟨rfl,h4⟩:=h3.flat
  exact .inr ⟨rfl,h1,h2,by rw[h4];rfl⟩
theorem SlR.ofFlat {enc:α→List Cell} (hl:xs.length≤maxLen) {id:Nat} (h1:h.get id=some (xs.map enc)) (h2:id<h.next):SlR tag (Fl enc) h (.sl tag id 0 xs.length) xs [id]:=
 ⟨hl,.inr ⟨id,_,_,rfl,h1,h2,by simp,AllR.ofFlat xs⟩⟩
theorem SlR.nil (tag:Nat) (R:Rel α) (h:Heap):SlR tag R h .nil [] []:=⟨Nat.zero_le _,.inl ⟨rfl,rfl,rfl⟩⟩
theorem SlR.load {enc:α→List Cell} (w:SlR tag (Fl enc) h x xs fp) {i:Nat} (hi:i<xs.length) (j n:Nat):loadP h x.sid i j n=cut? (enc xs[i]) j n:=by
 obtain ⟨r,f,h1,⟨rfl,_⟩,_⟩:=w.row hi
 simp[loadP,h1]
theorem SlR.rows {enc:α→List Cell} (w:SlR tag (Fl enc) h x xs fp):rowsOf h x=some (xs.map enc):=by
 rcases w.flat with ⟨rfl,rfl,_⟩ | ⟨h1,h2,_⟩
 ·rfl
 ·rw[h1];simp only[rowsOf];rw[h2];simp[List.take_of_length_le]
theorem AllR.ofWf {A:α→Prop} {W:List Cell→Prop} (hr: ∀r,W r→ ∃a f,R h r a f∧A a): ∀(rows:List (List Cell)),(∀r,r∈rows→W r)→ ∃xs fps,AllR R h rows xs fps∧ ∀a,a∈xs→A a
 | [],_=>⟨[],[],trivial,fun _ h=>nomatch h⟩
 | r::rs,w=>by
   obtain ⟨a,f,h1,h2⟩:=hr r (w r (by simp))
   obtain ⟨bs,fs,h3,h4⟩:=AllR.ofWf hr rs fun r hr=>w r (by simp[hr])
   exact ⟨a::bs,f::fs,⟨h1,h3⟩,fun b hb=>by (rcases List.mem_cons.1 hb with rfl | hb);exact h2;exact h4 b hb⟩
theorem SlR.ofWf {A:α→Prop} {n sz:Nat} {e:Sh} (hr: ∀r,r.length=sz∧Wf h n e r→ ∃a f,R h r a f∧A a) (w:Wf h (n+1) (.slice tag sz e) [x]): ∃xs fp,SlR tag R h x xs fp∧ ∀a,a∈xs→A a:=by
 rcases w with w | ⟨id,rows,h1,h2,h3,h4,h5⟩
 ·cases w;exact ⟨[],[],SlR.nil _ _ _,fun _ h=>nomatch h⟩
 ·cases h1
  obtain ⟨xs,fps,q1,q2⟩:=AllR.ofWf hr rows h5
  exact ⟨xs,_,⟨q1.len▸h4,.inr ⟨id,rows,fps,by rw[q1.len],h3,h2,rfl,q1⟩⟩,q2⟩
end
theorem push_put (h:Heap) (a b:List (List Cell)):(h.push a).put h.next b=h.push b:=by
 simp only[Heap.push,Heap.put]
 congr 1;funext i;split<;>rfl
theorem push_get (h:Heap) (a:List (List Cell)):(h.push a).get h.next=some a:=by simp[Heap.push]
theorem push_next (h:Heap) (a:List (List Cell)):(h.push a).next=h.next+1:=rfl
theorem push_floor (h:Heap) (a:List (List Cell)):(h.push a).floor=h.floor:=rfl
theorem storeP_push {h:Heap} {rows:List (List Cell)} (hf:h.floor≤h.next) {i:Nat} {old new:List Cell} (h1:rows[i]? =some old) (h2:new.length=old.length):storeP (h.push rows) h.next i 0 new=some (h.push (rows.set i new)):=by
 simp only[storeP,push_floor,push_get]
 rw[if_pos hf]
 simp only[Option.bind_some,h1,splice?,List.take_zero,List.nil_append,Nat.zero_add]
 rw[if_pos (by omega),h2,List.drop_length]
 simp only[List.append_nil,Option.bind_some,push_put]
theorem HExt.fl {h h':Heap} (hx:HExt h h') (hf:h'.floor=h.floor) (h0:h.floor≤h.next):h'.floor≤h'.next:=by rw[hf];exact Nat.le_trans h0 hx.1
structure On (h h':Heap):Prop where
 ext:HExt h h'
 fl:h'.floor=h.floor
theorem On.refl (h:Heap):On h h:=⟨HExt.refl h,rfl⟩
theorem On.trans {a b c:Heap} (p:On a b) (q:On b c):On a c:=⟨p.ext.trans q.ext,q.fl.trans p.fl⟩
theorem On.push (h:Heap) (rows:List (List Cell)):On h (h.push rows):=⟨HExt.push h rows,rfl⟩
theorem On.le {h h':Heap} (o:On h h') (hf:h.floor≤h.next):h'.floor≤h'.next:=o.ext.fl o.fl hf
structure Fre (h:Heap) (fp:List Nat):Prop where
 lo: ∀id,id∈fp→h.next≤id
 nd:fp.Nodup
theorem Fre.one (h:Heap):Fre h [h.next]:=⟨fun id hid=>by simp at hid;omega,by simp⟩
theorem Fre.nil (h:Heap):Fre h []:=⟨fun id hid=>(nomatch hid),List.nodup_nil⟩
theorem RelOk.on {α:Type} {R:Rel α} (ok:RelOk R) {h h':Heap} {cs:List Cell} {a:α} {fp:List Nat} (w:R h cs a fp) (o:On h h'):R h' cs a fp:=ok.mono w o.ext
theorem SlR.on {α:Type} {R:Rel α} {tag:Nat} {h h':Heap} {x:Cell} {xs:List α} {fp:List Nat} (w:SlR tag R h x xs fp) (ok:RelOk R) (o:On h h'):SlR tag R h' x xs fp:=w.mono ok o.ext
def fillR {α:Type} (f:α→List Cell) (z:List Cell) (xs:List α) (i:Nat):List (List Cell):=(xs.take i).map f++List.replicate (xs.length-i) z
theorem fillR_0 {α:Type} (f:α→List Cell) (z:List Cell) (xs:List α):fillR f z xs 0=List.replicate xs.length z:=by simp[fillR]
theorem fillR_n {α:Type} (f:α→List Cell) (z:List Cell) (xs:List α):fillR f z xs xs.length=xs.map f:=by simp[fillR]
theorem fillR_get {α:Type} (f:α→List Cell) (z:List Cell) (xs:List α) {i:Nat} (hi:i<xs.length):(fillR f z xs i)[i]? =some z:=by
 simp only[fillR]
 rw[List.getElem?_append_right (by simp;omega)]
 rw[List.getElem?_replicate,if_pos]
 simp only[List.length_map,List.length_take];omega
theorem fillR_set {α:Type} (f:α→List Cell) (z:List Cell) (xs:List α) {i:Nat} (hi:i<xs.length):(fillR f z xs i).set i (f xs[i])=fillR f z xs (i+1):=by
 simp only[fillR]
 rw[List.set_append_right _ _ (by simp;omega),show i-((xs.take i).map f).length=0 from by simp;omega,show xs.length-i=(xs.length-(i+1))+1 from by omega,List.replicate_succ,List.set_cons_zero,
  show xs.take (i+1)=xs.take i++[xs[i]] from by rw[List.take_add_one,List.getElem?_eq_getElem hi];rfl,List.map_append,List.append_assoc]
 rfl
structure Mk (h h':Heap) (fp:List Nat):Prop where
 next:h'.next=h.next
 fl:h'.floor=h.floor
 get: ∀id,id∉fp→h'.get id=h.get id
theorem Mk.refl (h:Heap) (fp:List Nat):Mk h h fp:=⟨rfl,rfl,fun _ _=>rfl⟩
theorem Mk.put (h:Heap) (id:Nat) (rows:List (List Cell)):Mk h (h.put id rows) [id]:=⟨rfl,rfl,fun k hk=>by simp only[Heap.put];rw[if_neg (by simpa using hk)]⟩
theorem Mk.trans {a b c:Heap} {p q:List Nat} (m:Mk a b p) (n:Mk b c q):Mk a c (p++q):=⟨n.next.trans m.next,n.fl.trans m.fl,fun id hid=>by
 rw[List.mem_append,not_or] at hid
 rw[n.get id hid.2,m.get id hid.1]⟩
theorem SlR.mk {α:Type} {R:Rel α} {tag:Nat} {h h':Heap} {x:Cell} {xs:List α} {fp fq:List Nat} (w:SlR tag R h x xs fp) (ok:RelOk R) (m:Mk h h' fq) (hd: ∀id,id∈fp→id∉fq):SlR tag R h' x xs fp:=w.mv ok (by rw[m.next];exact Nat.le_refl _) fun id hid=>m.get id (hd id hid)
theorem wfU {x:Int} (h:(Lit.int .u64 x).wf=true):0≤x∧x≤18446744073709551615:=by
 simp only[Lit.wf,Bool.and_eq_true,decide_eq_true_eq] at h;exact h
theorem wfI {x:Int} (h:(Lit.int .i64 x).wf=true): -9223372036854775808≤x∧x≤9223372036854775807:=by
 simp only[Lit.wf,Bool.and_eq_true,decide_eq_true_eq] at h;exact h
def Turn (r next:Option (Ex×St)) (p:Bool) (Q:St→Prop):Prop:=(p=true∧r=next)∨(p=false∧ ∃s,r=some (.ret,s)∧Q s)
section
variable {F:Nat→Option RF} {Z:CallF} {live:List Nat} {b:RC}
theorem loop_allN (n:Nat) (st:Nat→St) (P:Nat→Bool) (Q:St→Prop) (hs: ∀i,i<n→Turn (loop F Z live b (st i)) (loop F Z live b (st (i+1))) (P i) Q):
 Turn (loop F Z live b (st 0)) (loop F Z live b (st n)) ((List.range n).all P) Q:=by
 induction n with
 | zero=>exact .inl ⟨rfl,rfl⟩
 | succ n ih=>
   have hl:(List.range (n+1)).all P=((List.range n).all P&&P n):=by rw[List.range_succ,List.all_append];simp
   rcases ih fun i hi=>hs i (by omega) with ⟨h1,h2⟩ | ⟨h1,h2⟩
   ·rcases hs n (by omega) with ⟨h3,h4⟩ | ⟨h3,s,h4,h5⟩
    ·exact .inl ⟨by rw[hl,h1,h3];rfl,h2.trans h4⟩
    ·exact .inr ⟨by rw[hl,h1,h3];rfl,s,h2.trans h4,h5⟩
   ·exact .inr ⟨by rw[hl,h1];rfl,h2⟩
theorem all_same {α:Type} [DecidableEq α] {xs ys:List α} (he:xs.length=ys.length):(List.range xs.length).all (fun i=>decide (xs[i]? =ys[i]?))=decide (xs=ys):=by
 rw[Bool.eq_iff_iff,List.all_eq_true,decide_eq_true_eq]
 constructor
 ·intro hall
  apply List.ext_getElem?
  intro i
  by_cases hi:i<xs.length
  ·simpa using hall i (by simpa using hi)
  ·rw[List.getElem?_eq_none (by omega),List.getElem?_eq_none (by omega)]
 ·rintro rfl i _;simp
theorem loop_goesF (n:Nat) (st:Nat→St) (hs: ∀i,i<n→loop F Z live b (st i)=loop F Z live b (st (i+1))):loop F Z live b (st 0)=loop F Z live b (st n):=by
 induction n with
 | zero=>rfl
 | succ n ih=>exact (ih fun i hi=>hs i (by omega)).trans (hs n (by omega))
end
end Go.Proofs.Yteagcdhkobeanaa.A
namespace Go.Proofs.Yteagcdhkobeanaa.A
open Go
set_option linter.unusedSimpArgs false
set_option linter.unusedVariables false
structure Hand where
 lo:Int
 from_:Int
 to:Int
 epoch:Int
 phase:Int
 deriving DecidableEq
namespace Hand
def enc (t:Hand):List Cell:=[.int .u64 t.lo,.int .i64 t.from_,.int .i64 t.to,.int .i64 t.epoch,.int .i64 t.phase]
theorem len (t:Hand):t.enc.length=5:=rfl
theorem tak (t:Hand):t.enc.take 5=t.enc:=rfl
structure Ok (t:Hand):Prop where
 lo:0≤t.lo∧t.lo≤18446744073709551615
 from_: -9223372036854775808≤t.from_∧t.from_≤9223372036854775807
 to: -9223372036854775808≤t.to∧t.to≤9223372036854775807
 epoch: -9223372036854775808≤t.epoch∧t.epoch≤9223372036854775807
 phase: -9223372036854775808≤t.phase∧t.phase≤9223372036854775807
end Hand
theorem Wf.isHand {h:Heap} {n:Nat} {cs:List Cell} (w:Wf h (n+2) shHand cs): ∃t:Hand,cs=t.enc∧t.Ok:=by
 obtain ⟨_,_,rfl,_,⟨lo0,rfl,h0⟩,_,_,rfl,_,⟨from_0,rfl,h1⟩,_,_,rfl,_,⟨to0,rfl,h2⟩,_,_,rfl,_,⟨epoch0,rfl,h3⟩,_,_,rfl,_,⟨phase0,rfl,h4⟩,rfl⟩:=w
 exact ⟨⟨lo0,from_0,to0,epoch0,phase0⟩,rfl,⟨wfU h0,wfI h1,wfI h2,wfI h3,wfI h4⟩⟩
end Go.Proofs.Yteagcdhkobeanaa.A
namespace Go.Proofs.Yteagcdhkobeanaa.A
open Go
set_option linter.unusedSimpArgs false
set_option linter.unusedVariables false
section
variable {F:Nat→Option RF} {Z:CallF} {h:Heap} {x y:Cell} {xs ys:List Hand} {fp fq:List Nat}
def Hand.zero:List Cell:=[.int .u64 0,.int .i64 0,.int .i64 0,.int .i64 0,.int .i64 0]
set_option maxHeartbeats 1000000 in
theorem eqHand_run (hL:Has F tLHand) (p q:Hand) (h:Heap):call F Z 86 [.agg p.enc,.agg q.enc] h=some (.c (.bool (decide (p=q))),h):=by
 rw[call_run F Z (hL.lk (g:=86) rfl) _ _ rfl]
 obtain ⟨lo1,from_1,to1,epoch1,phase1⟩:=p
 obtain ⟨lo2,from_2,to2,epoch2,phase2⟩:=q
 simp only[Hand.enc,rn,RO.dst,lk,drop,Nat.reduceBEq,Nat.reduceAdd,Nat.reduceLeDiff,↓reduceIte,reduceCtorEq]
 (repeat' ((first | (rw[gF_if];split) | (rw[condC_if];split) | (rw[pickR_if];split))<;>(rename_i hh;(try simp only[Bool.not_eq_true,decide_eq_true_eq] at hh);simp only[hh,rn,RO.dst,lk,drop,Nat.reduceBEq,Nat.reduceAdd,Nat.reduceLeDiff,↓reduceIte,reduceCtorEq])))<;>refine fin_bool ?_<;>simp_all
end
end Go.Proofs.Yteagcdhkobeanaa.A
namespace Go.Proofs.Yteagcdhkobeanaa.A
open Go
set_option linter.unusedSimpArgs false
set_option linter.unusedVariables false
structure Account where
 id:Int
 bal:Int
 hold:Int
 due:Int
 tx:Int
 deriving DecidableEq
namespace Account
def enc (t:Account):List Cell:=[.int .u64 t.id,.int .u64 t.bal,.int .u64 t.hold,.int .u64 t.due,.int .i64 t.tx]
theorem len (t:Account):t.enc.length=5:=rfl
theorem tak (t:Account):t.enc.take 5=t.enc:=rfl
structure Ok (t:Account):Prop where
 id:0≤t.id∧t.id≤18446744073709551615
 bal:0≤t.bal∧t.bal≤18446744073709551615
 hold:0≤t.hold∧t.hold≤18446744073709551615
 due:0≤t.due∧t.due≤18446744073709551615
 tx: -9223372036854775808≤t.tx∧t.tx≤9223372036854775807
end Account
theorem Wf.isAccount {h:Heap} {n:Nat} {cs:List Cell} (w:Wf h (n+2) shAccount cs): ∃t:Account,cs=t.enc∧t.Ok:=by
 obtain ⟨_,_,rfl,_,⟨id0,rfl,h0⟩,_,_,rfl,_,⟨bal0,rfl,h1⟩,_,_,rfl,_,⟨hold0,rfl,h2⟩,_,_,rfl,_,⟨due0,rfl,h3⟩,_,_,rfl,_,⟨tx0,rfl,h4⟩,rfl⟩:=w
 exact ⟨⟨id0,bal0,hold0,due0,tx0⟩,rfl,⟨wfU h0,wfU h1,wfU h2,wfU h3,wfI h4⟩⟩
theorem Wf.isAccountS {h:Heap} {n:Nat} {x:Cell} (w:Wf h (n+3) shAccountS [x]): ∃xs fp,SlR 12 (Fl Account.enc) h x xs fp∧ ∀t,t∈xs→t.Ok:=
 SlR.ofWf (fun r hr=>by obtain ⟨t,rfl,ht⟩:=Wf.isAccount hr.2;exact ⟨t,[],⟨rfl,rfl⟩,ht⟩) w
theorem Wf.isAccountS' {h:Heap} {n:Nat} {a:List Cell} (w:Wf h (n+3) shAccountS a): ∃x xs fp,a=[x]∧SlR 12 (Fl Account.enc) h x xs fp∧ ∀t,t∈xs→t.Ok:=by
 have hx: ∃x,a=[x]:=by rcases w with w | ⟨_,_,w,_⟩<;>exact ⟨_,w⟩
 obtain ⟨x,rfl⟩:=hx
 obtain ⟨xs,fp,v,ok⟩:=Wf.isAccountS w
 exact ⟨x,xs,fp,rfl,v,ok⟩
end Go.Proofs.Yteagcdhkobeanaa.A
namespace Go.Proofs.Yteagcdhkobeanaa.A
open Go
set_option linter.unusedSimpArgs false
set_option linter.unusedVariables false
section
variable {F:Nat→Option RF} {Z:CallF} {h:Heap} {x y:Cell} {xs ys:List Account} {fp fq:List Nat}
def Account.zero:List Cell:=[.int .u64 0,.int .u64 0,.int .u64 0,.int .u64 0,.int .i64 0]
theorem toAccount_run (hL:Has F tLAccount) (p:Account) (h:Heap):call F Z 141 [.agg p.enc] h=some (.agg p.enc,h):=by
 rw[call_run F Z (hL.lk (g:=141) rfl) _ _ rfl]
 simp only[Account.enc,rn,RO.dst,lk,drop,Nat.reduceBEq,Nat.reduceAdd,Nat.reduceLeDiff,↓reduceIte,reduceCtorEq]
set_option maxHeartbeats 1000000 in
theorem eqAccount_run (hL:Has F tLAccount) (p q:Account) (h:Heap):call F Z 142 [.agg p.enc,.agg q.enc] h=some (.c (.bool (decide (p=q))),h):=by
 rw[call_run F Z (hL.lk (g:=142) rfl) _ _ rfl]
 obtain ⟨id1,bal1,hold1,due1,tx1⟩:=p
 obtain ⟨id2,bal2,hold2,due2,tx2⟩:=q
 simp only[Account.enc,rn,RO.dst,lk,drop,Nat.reduceBEq,Nat.reduceAdd,Nat.reduceLeDiff,↓reduceIte,reduceCtorEq]
 (repeat' ((first | (rw[gF_if];split) | (rw[condC_if];split) | (rw[pickR_if];split))<;>(rename_i hh;(try simp only[Bool.not_eq_true,decide_eq_true_eq] at hh);simp only[hh,rn,RO.dst,lk,drop,Nat.reduceBEq,Nat.reduceAdd,Nat.reduceLeDiff,↓reduceIte,reduceCtorEq])))<;>refine fin_bool ?_<;>simp_all<;>(try (intros;omega))
theorem szAccountS_run (hL:Has F tLAccount) (w:SlR 12 (Fl Account.enc) h x xs fp) (left:Int) (h1:0≤left) (h2:left≤1048576):call F Z 136 [.c x,.c (.int .i64 left)] h=some (.c (.int .i64 (if left-xs.length<0 then -1 else left-xs.length)),h):=by
 have:=w.le2
 rw[call_run F Z (hL.lk (g:=136) rfl) _ _ rfl]
 simp only[rn,RO.dst,lk,drop,Nat.reduceBEq,Nat.reduceAdd,Nat.reduceLeDiff,↓reduceIte,reduceCtorEq,w.len,wrapI (left-xs.length) (by omega) (by omega)]
 (repeat' ((first | (rw[gF_if];split) | (rw[condC_if];split) | (rw[pickR_if];split))<;>(rename_i hh;(try simp only[Bool.not_eq_true,decide_eq_true_eq] at hh);simp only[hh,rn,RO.dst,lk,drop,Nat.reduceBEq,Nat.reduceAdd,Nat.reduceLeDiff,↓reduceIte,reduceCtorEq])))<;>simp_all
theorem szAccountS_c (hL:Has F tLAccount) (w:SlR 12 (Fl Account.enc) h x xs fp) (left:Int) (h1:0≤left) (h2:left≤1048576): ∃r,call F Z 136 [.c x,.c (.int .i64 left)] h=some (.c (.int .i64 r),h)∧r≤left∧(0≤r→xs.length≤1048576):=
 ⟨_,szAccountS_run hL w left h1 h2,by split<;>omega,by split<;>omega⟩
theorem toAccountS_run (hL:Has F tLAccount) (hf:h.floor≤h.next) (w:SlR 12 (Fl Account.enc) h x xs fp) (hn:xs.length≤1048576):call F Z 137 [.c x] h=some (.c (.sl 11 h.next 0 xs.length),h.push (xs.map Account.enc)):=by
 rw[call_run F Z (hL.lk (g:=137) rfl) _ _ rfl]
 simp only[rn,RO.dst,lk,drop,Nat.reduceBEq,Nat.reduceAdd,Nat.reduceLeDiff,↓reduceIte,reduceCtorEq,w.len]
 rw[if_pos (by omega)]
 simp only[rn,RO.dst,lk,drop,Nat.reduceBEq,Nat.reduceAdd,Nat.reduceLeDiff,↓reduceIte,reduceCtorEq,Int.toNat_natCast]
 have key:loop F Z [0,3,4] r137L0 ⟨[(0,.c x),(3,.c (.sl 11 h.next 0 xs.length)),(4,.c (.int .i64 (0:Nat)))],[],[],h.push (fillR Account.enc Account.zero xs 0)⟩=loop F Z [0,3,4] r137L0 ⟨[(0,.c x),(3,.c (.sl 11 h.next 0 xs.length)),(4,.c (.int .i64 (xs.length:Nat)))],[],[],h.push (fillR Account.enc Account.zero xs xs.length)⟩:=
  loop_goesF xs.length (fun i=>⟨[(0,.c x),(3,.c (.sl 11 h.next 0 xs.length)),(4,.c (.int .i64 (i:Nat)))],[],[],h.push (fillR Account.enc Account.zero xs i)⟩) fun i hi=>by
   have w':=w.mono (Fl.ok _) (HExt.push h (fillR Account.enc Account.zero xs i))
   have hlt:(i:Int)<xs.length:=by omega
   have h0:(0:Int)≤i:=by omega
   rw[loop_run]
   simp only[r137L0,rn,RO.dst,lk,drop,Nat.reduceBEq,Nat.reduceAdd,Nat.reduceLeDiff,↓reduceIte,reduceCtorEq,w.len,hlt,w.idx hi,w'.load hi,Account.len,Account.tak,toAccount_run hL,h0,and_self,Int.toNat_natCast,storeP_push hf (fillR_get Account.enc Account.zero xs hi) (Account.len xs[i]),wrapS i (by omega)]
   rw[←fillR_set Account.enc Account.zero xs hi]
 rw[fillR_0] at key
 rw[fillR_n] at key
 rw[show ((0:Nat):Int)=0 from rfl] at key
 simp only[Account.zero] at key
 rw[key,loop_run]
 have hlt: ¬(xs.length:Int)<xs.length:=by omega
 simp only[r137L0,rn,RO.dst,lk,drop,Nat.reduceBEq,Nat.reduceAdd,Nat.reduceLeDiff,↓reduceIte,reduceCtorEq,w.len,hlt]
theorem toAccountS_c (hL:Has F tLAccount) (hf:h.floor≤h.next) (w:SlR 12 (Fl Account.enc) h x xs fp) (hn:xs.length≤1048576): ∃y h' fq,call F Z 137 [.c x] h=some (.c y,h')∧On h h'∧SlR 11 (Fl Account.enc) h' y xs fq∧Fre h fq:=
 ⟨_,_,_,toAccountS_run hL hf w hn,On.push _ _,SlR.ofFlat w.le (push_get _ _) (by rw[push_next];omega),Fre.one h⟩
theorem eqAccountS_run (hL:Has F tLAccount) (w:SlR 11 (Fl Account.enc) h x xs fp) (v:SlR 11 (Fl Account.enc) h y ys fq):call F Z 139 [.c x,.c y] h=some (.c (.bool (decide (xs=ys))),h):=by
 have hw:=w.le2
 have hv:=v.le2
 rw[call_run F Z (hL.lk (g:=139) rfl) _ _ rfl]
 simp only[rn,RO.dst,lk,drop,Nat.reduceBEq,Nat.reduceAdd,Nat.reduceLeDiff,↓reduceIte,reduceCtorEq,w.len,v.len]
 rw[condC_if]
 split
 ·rename_i hne
  have:xs≠ys:=by rintro rfl;simp at hne
  simp only[rn,RO.dst,lk,drop,Nat.reduceBEq,Nat.reduceAdd,Nat.reduceLeDiff,↓reduceIte,reduceCtorEq,this]
 ·rename_i he
  have he:xs.length=ys.length:=by simp at he;omega
  simp only[rn,RO.dst,lk,drop,Nat.reduceBEq,Nat.reduceAdd,Nat.reduceLeDiff,↓reduceIte,reduceCtorEq]
  have key:=loop_allN (F:=F) (Z:=Z) (live:=[0,1,5]) (b:=r139L0) xs.length (fun i=>⟨[(0,.c x),(1,.c y),(5,.c (.int .i64 (i:Nat)))],[],[],h⟩) (fun i=>decide (xs[i]? =ys[i]?)) (fun s=>lk s.env 4=some (.c (.bool false))∧s.hp=h) fun i hi=>by
   have hi':i<ys.length:=by omega
   have hlt:(i:Int)<xs.length:=by omega
   rw[loop_run]
   simp only[r139L0,rn,RO.dst,lk,drop,Nat.reduceBEq,Nat.reduceAdd,Nat.reduceLeDiff,↓reduceIte,reduceCtorEq,w.len,hlt,w.idx hi,v.idx hi',w.load hi,v.load hi',Account.len,Account.tak,eqAccount_run hL,wrapS i (by omega)]
   rw[List.getElem?_eq_getElem hi,List.getElem?_eq_getElem hi']
   (repeat' ((first | (rw[gF_if];split) | (rw[condC_if];split) | (rw[pickR_if];split))<;>(rename_i hh;(try simp only[Bool.not_eq_true,decide_eq_true_eq] at hh);simp only[hh,rn,RO.dst,lk,drop,Nat.reduceBEq,Nat.reduceAdd,Nat.reduceLeDiff,↓reduceIte,reduceCtorEq,wrapS i (by omega)])))
   ·exact .inr ⟨by simp_all,_,rfl,rfl,rfl⟩
   ·exact .inl ⟨by simp_all,rfl⟩
  rw[all_same he] at key
  rcases key with ⟨k1,k2⟩ | ⟨k1,s,k2,k3,k4⟩
  ·simp only[show ((0:Nat):Int)=0 from rfl] at k2
   rw[k2,loop_run]
   have hlt: ¬(xs.length:Int)<xs.length:=by omega
   simp only[r139L0,rn,RO.dst,lk,drop,Nat.reduceBEq,Nat.reduceAdd,Nat.reduceLeDiff,↓reduceIte,reduceCtorEq,w.len,hlt,k1]
  ·simp only[show ((0:Nat):Int)=0 from rfl] at k2
   rw[k2]
   simp only[rn,RO.dst,lk,drop,Nat.reduceBEq,Nat.reduceAdd,Nat.reduceLeDiff,↓reduceIte,reduceCtorEq,k3,k4,k1]
end
end Go.Proofs.Yteagcdhkobeanaa.A
namespace Go.Proofs.Yteagcdhkobeanaa.A
open Go
set_option linter.unusedSimpArgs false
set_option linter.unusedVariables false
structure Acc (tag:Nat) (h0 h:Heap) (x:Cell) (rows:List (List Cell)):Prop where
 on:On h0 h
 sh: ∃fp,SlR tag (Fl fun r=>r) h x rows fp∧Fre h0 fp
def catX (tag:Nat) (h:Heap) (x:Cell) (n:Nat):Cell:=match x with
 | .sl _ _ _ m=> .sl tag h.next 0 (m+n)
 | _=>if n=0 then .nil else .sl tag h.next 0 n
def catH (h:Heap) (x:Cell) (new:List (List Cell)):Heap:=match x with
 | .sl _ id _ _=>(h.kill id).push (((h.get id).getD [])++new)
 | _=>if new.length=0 then h else h.push new
theorem Fre.app {h h1:Heap} {p q:List Nat} (f:Fre h p) (hl: ∀id,id∈p→id<h1.next) (f1:Fre h1 q) (hn:h.next≤h1.next):Fre h (p++q):=
 ⟨fun id hid=>by
  rcases List.mem_append.1 hid with hid | hid
  ·exact f.lo id hid
  ·have:=f1.lo id hid
   omega,List.nodup_append.2 ⟨f.nd,f1.nd,fun a ha b hb=>by
    have:=hl a ha
    have:=f1.lo b hb
    omega⟩⟩
section
variable {tag:Nat} {h0 h:Heap} {x y:Cell} {rows new:List (List Cell)}
theorem Acc.nil (tag:Nat) (h:Heap):Acc tag h h .nil []:=⟨On.refl h,[],SlR.nil _ _ _,Fre.nil h⟩
theorem Acc.none (o:On h0 h):Acc tag h0 h .nil []:=⟨o,[],SlR.nil _ _ _,Fre.nil h0⟩
theorem Fre.at {h0 h:Heap} (hn:h0.next≤h.next):Fre h0 [h.next]:=⟨fun id hid=>by simp at hid;omega,by simp⟩
theorem Acc.lit (o:On h0 h) (rows:List (List Cell)) (hl:rows.length≤140737488355328):Acc tag h0 (h.push rows) (.sl tag h.next 0 rows.length) rows:=
 ⟨o.trans (On.push h rows),[h.next],SlR.ofFlat (enc:=fun r=>r) (by unfold maxLen;omega) (by rw[push_get];simp) (by rw[push_next];omega),Fre.at o.ext.1⟩
theorem Acc.push (a:Acc tag h0 h x rows) (r:List (List Cell)):Acc tag h0 (h.push r) x rows:=by
 obtain ⟨o,fp,w,f⟩:=a
 exact ⟨o.trans (On.push h r),fp,w.on (Fl.ok _) (On.push h r),f⟩
theorem Acc.cat (a:Acc tag h0 h x rows) (hf:h0.floor≤h0.next) (hl:rows.length+new.length≤140737488355328):Acc tag h0 (catH h x new) (catX tag h x new.length) (rows++new):=by
 obtain ⟨o,fp,w,f⟩:=a
 rcases w.flat with ⟨rfl,rfl,rfl⟩ | ⟨hx,hg,hn,rfl⟩
 ·simp only[catX,catH]
  split
  ·rename_i h0'
   have:new=[]:=List.eq_nil_of_length_eq_zero h0'
   subst this
   exact Acc.none o
  ·simp only[List.nil_append]
   exact Acc.lit o new (by simp at hl;omega)
 ·have hlo:h0.next≤x.sid:=f.lo _ (by simp)
  have o1:On h0 (h.kill x.sid):=⟨⟨o.ext.1,fun id hid=>by
   simp only[Heap.kill]
   rw[if_neg (by omega)]
   exact o.ext.2 id hid⟩,o.fl⟩
  rw[hx] at o1 ⊢
  simp only[Cell.sid,catX,catH] at hg o1 ⊢
  simp only[hg,Option.getD_some,List.map_id_fun',id]
  have:=Acc.lit (tag:=tag) o1 (rows++new) (by simpa using hl)
  rw[List.length_append] at this
  exact this
theorem Acc.one (a:Acc tag h0 h x rows) (hf:h0.floor≤h0.next) (hl:rows.length+1≤140737488355328) (row:List Cell):Acc tag h0 (catH (h.push [row]) x [row]) (catX tag (h.push [row]) x 1) (rows++[row]):=
 (a.push [row]).cat hf (new:=[row]) hl
theorem SlR.ofRaw {α:Type} {enc:α→List Cell} {xs:List α} {fp:List Nat} (w:SlR tag (Fl fun r=>r) h x (xs.map enc) fp):SlR tag (Fl enc) h x xs fp:=by
 have hl:=w.le
 rw[List.length_map] at hl
 rcases w.flat with ⟨rfl,h2,rfl⟩ | ⟨hx,hg,hn,rfl⟩
 ·have:xs=[]:=List.map_eq_nil_iff.1 h2
  subst this
  exact SlR.nil _ _ _
 ·rw[List.length_map] at hx
  rw[hx]
  exact SlR.ofFlat hl (by rw[hg];simp) hn
theorem Acc.flat {α:Type} {enc:α→List Cell} {xs:List α} (a:Acc tag h0 h x (xs.map enc)):On h0 h∧ ∃fp,SlR tag (Fl enc) h x xs fp∧Fre h0 fp:=by
 obtain ⟨o,fp,w,f⟩:=a
 exact ⟨o,fp,w.ofRaw,f⟩
end
end Go.Proofs.Yteagcdhkobeanaa.A
namespace Go.Proofs.Yteagcdhkobeanaa.A
open Go
set_option linter.unusedSimpArgs false
set_option linter.unusedVariables false
structure Book where
 list:List Account
 deriving DecidableEq
def Book.RL:Rel Book:=fun h cs t fp=> ∃x1 p1,cs=[x1]∧fp=p1∧SlR 12 (Fl Account.enc) h x1 t.list p1
theorem Book.okL:RelOk Book.RL where
 lt:=by
  rintro h cs t fp ⟨x1,p1,rfl,rfl,w1⟩ id hid
  exact w1.lt (Fl.ok _) id hid
 mv:=by
  rintro h h' cs t fp ⟨x1,p1,rfl,rfl,w1⟩ hn hg
  exact ⟨x1,_,rfl,rfl,w1.mv (Fl.ok _) hn hg⟩
def Book.RI:Rel Book:=fun h cs t fp=> ∃x1 p1,cs=[x1]∧fp=p1∧SlR 11 (Fl Account.enc) h x1 t.list p1
theorem Book.okI:RelOk Book.RI where
 lt:=by
  rintro h cs t fp ⟨x1,p1,rfl,rfl,w1⟩ id hid
  exact w1.lt (Fl.ok _) id hid
 mv:=by
  rintro h h' cs t fp ⟨x1,p1,rfl,rfl,w1⟩ hn hg
  exact ⟨x1,_,rfl,rfl,w1.mv (Fl.ok _) hn hg⟩
theorem Book.lenL {h:Heap} {cs:List Cell} {t:Book} {fp:List Nat} (v:Book.RL h cs t fp):cs.length=1∧cs.take 1=cs∧cs.drop 1=[]:=by
 obtain ⟨x1,p1,rfl,_⟩:=v
 exact ⟨rfl,rfl,rfl⟩
theorem Book.lenI {h:Heap} {cs:List Cell} {t:Book} {fp:List Nat} (v:Book.RI h cs t fp):cs.length=1∧cs.take 1=cs∧cs.drop 1=[]:=by
 obtain ⟨x1,p1,rfl,_⟩:=v
 exact ⟨rfl,rfl,rfl⟩
namespace Book
structure Ok (t:Book):Prop where
 list: ∀a,a∈t.list→a.Ok
def Small (t:Book):Prop:=t.list.length≤1048576
end Book
section
variable {F:Nat→Option RF} {Z:CallF} {h:Heap} {cs cs':List Cell} {t u:Book} {fp fq:List Nat}
theorem szBook_c (hLBook:Has F tLBook) (hLAccount:Has F tLAccount) (v:Book.RL h cs t fp) (left:Int) (h1:0≤left) (h2:left≤1048576): ∃r,call F Z 128 [.agg cs,.c (.int .i64 left)] h=some (.c (.int .i64 r),h)∧r≤left∧(0≤r→t.Small):=by
 obtain ⟨x1,p1,rfl,rfl,w1⟩:=v
 rw[call_run F Z (hLBook.lk (g:=128) rfl) _ _ rfl]
 simp only[rn,RO.dst,lk,drop,Nat.reduceBEq,Nat.reduceAdd,Nat.reduceLeDiff,↓reduceIte,reduceCtorEq]
 obtain ⟨l0,s0,a0,b0⟩:=szAccountS_c (Z:=Z) hLAccount w1 left (by omega) (by omega)
 simp only[rn,RO.dst,lk,drop,Nat.reduceBEq,Nat.reduceAdd,Nat.reduceLeDiff,↓reduceIte,reduceCtorEq,s0]
 by_cases n0:l0<0
 ·simp only[rn,RO.dst,lk,drop,Nat.reduceBEq,Nat.reduceAdd,Nat.reduceLeDiff,↓reduceIte,reduceCtorEq,n0]
  exact ⟨_,rfl,by omega,by omega⟩
 simp only[rn,RO.dst,lk,drop,Nat.reduceBEq,Nat.reduceAdd,Nat.reduceLeDiff,↓reduceIte,reduceCtorEq,n0]
 exact ⟨_,rfl,by omega,fun _=>b0 (by omega)⟩
theorem toBook_c (hLBook:Has F tLBook) (hLAccount:Has F tLAccount) (hf:h.floor≤h.next) (v:Book.RL h cs t fp) (sm:t.Small): ∃cs' h' fq,call F Z 130 [.agg cs] h=some (.agg cs',h')∧On h h'∧Book.RI h' cs' t fq∧Fre h fq:=by
 obtain ⟨x1,p1,rfl,rfl,w1⟩:=v
 have sm0:=sm
 obtain ⟨y1,g0,q1,e0,o0,u1,r0⟩:=toAccountS_c (Z:=Z) hLAccount hf w1 sm0
 rw[call_run F Z (hLBook.lk (g:=130) rfl) _ _ rfl]
 simp only[rn,RO.dst,lk,drop,Nat.reduceBEq,Nat.reduceAdd,Nat.reduceLeDiff,↓reduceIte,reduceCtorEq,e0]
 exact ⟨_,_,_,rfl,o0,⟨y1,_,rfl,rfl,u1⟩,r0⟩
set_option maxHeartbeats 1000000 in
theorem eqBook_r (hLBook:Has F tLBook) (hLAccount:Has F tLAccount) (v:Book.RI h cs t fp) (v':Book.RI h cs' u fq):call F Z 133 [.agg cs,.agg cs'] h=some (.c (.bool (decide (t=u))),h):=by
 obtain ⟨x1,p1,rfl,rfl,w1⟩:=v
 obtain ⟨x1',p1',rfl,rfl,w1'⟩:=v'
 obtain ⟨list1⟩:=t
 obtain ⟨list2⟩:=u
 have e0:=eqAccountS_run (Z:=Z) hLAccount w1 w1'
 clear w1 w1'
 rw[call_run F Z (hLBook.lk (g:=133) rfl) _ _ rfl]
 simp only[rn,RO.dst,lk,drop,Nat.reduceBEq,Nat.reduceAdd,Nat.reduceLeDiff,↓reduceIte,reduceCtorEq,e0]
 (repeat' ((first | (rw[gF_if];split) | (rw[condC_if];split) | (rw[pickR_if];split))<;>(rename_i hh;(try simp only[Bool.not_eq_true,decide_eq_true_eq] at hh);simp only[hh,rn,RO.dst,lk,drop,Nat.reduceBEq,Nat.reduceAdd,Nat.reduceLeDiff,↓reduceIte,reduceCtorEq,e0])))<;>clear e0<;>refine fin_bool ?_<;>simp_all<;>(try (intros;omega))
end
end Go.Proofs.Yteagcdhkobeanaa.A
namespace Go.Proofs.Yteagcdhkobeanaa.A
open Go
set_option linter.unusedSimpArgs false
set_option linter.unusedVariables false
structure Fin where
 tx:Int
 id:Int
 deriving DecidableEq
namespace Fin
def enc (t:Fin):List Cell:=[.int .i64 t.tx,.int .u64 t.id]
theorem len (t:Fin):t.enc.length=2:=rfl
theorem tak (t:Fin):t.enc.take 2=t.enc:=rfl
structure Ok (t:Fin):Prop where
 tx: -9223372036854775808≤t.tx∧t.tx≤9223372036854775807
 id:0≤t.id∧t.id≤18446744073709551615
end Fin
theorem Wf.isFin {h:Heap} {n:Nat} {cs:List Cell} (w:Wf h (n+2) shFin cs): ∃t:Fin,cs=t.enc∧t.Ok:=by
 obtain ⟨_,_,rfl,_,⟨tx0,rfl,h0⟩,_,_,rfl,_,⟨id0,rfl,h1⟩,rfl⟩:=w
 exact ⟨⟨tx0,id0⟩,rfl,⟨wfI h0,wfU h1⟩⟩
theorem Wf.isFinS {h:Heap} {n:Nat} {x:Cell} (w:Wf h (n+3) shFinS [x]): ∃xs fp,SlR 10 (Fl Fin.enc) h x xs fp∧ ∀t,t∈xs→t.Ok:=
 SlR.ofWf (fun r hr=>by obtain ⟨t,rfl,ht⟩:=Wf.isFin hr.2;exact ⟨t,[],⟨rfl,rfl⟩,ht⟩) w
theorem Wf.isFinS' {h:Heap} {n:Nat} {a:List Cell} (w:Wf h (n+3) shFinS a): ∃x xs fp,a=[x]∧SlR 10 (Fl Fin.enc) h x xs fp∧ ∀t,t∈xs→t.Ok:=by
 have hx: ∃x,a=[x]:=by rcases w with w | ⟨_,_,w,_⟩<;>exact ⟨_,w⟩
 obtain ⟨x,rfl⟩:=hx
 obtain ⟨xs,fp,v,ok⟩:=Wf.isFinS w
 exact ⟨x,xs,fp,rfl,v,ok⟩
end Go.Proofs.Yteagcdhkobeanaa.A
namespace Go.Proofs.Yteagcdhkobeanaa.A
open Go
set_option linter.unusedSimpArgs false
set_option linter.unusedVariables false
section
variable {F:Nat→Option RF} {Z:CallF} {h:Heap} {x y:Cell} {xs ys:List Fin} {fp fq:List Nat}
def Fin.zero:List Cell:=[.int .i64 0,.int .u64 0]
theorem toFin_run (hL:Has F tLFin) (p:Fin) (h:Heap):call F Z 138 [.agg p.enc] h=some (.agg p.enc,h):=by
 rw[call_run F Z (hL.lk (g:=138) rfl) _ _ rfl]
 simp only[Fin.enc,rn,RO.dst,lk,drop,Nat.reduceBEq,Nat.reduceAdd,Nat.reduceLeDiff,↓reduceIte,reduceCtorEq]
set_option maxHeartbeats 1000000 in
theorem eqFin_run (hL:Has F tLFin) (p q:Fin) (h:Heap):call F Z 140 [.agg p.enc,.agg q.enc] h=some (.c (.bool (decide (p=q))),h):=by
 rw[call_run F Z (hL.lk (g:=140) rfl) _ _ rfl]
 obtain ⟨tx1,id1⟩:=p
 obtain ⟨tx2,id2⟩:=q
 simp only[Fin.enc,rn,RO.dst,lk,drop,Nat.reduceBEq,Nat.reduceAdd,Nat.reduceLeDiff,↓reduceIte,reduceCtorEq]
 (repeat' ((first | (rw[gF_if];split) | (rw[condC_if];split) | (rw[pickR_if];split))<;>(rename_i hh;(try simp only[Bool.not_eq_true,decide_eq_true_eq] at hh);simp only[hh,rn,RO.dst,lk,drop,Nat.reduceBEq,Nat.reduceAdd,Nat.reduceLeDiff,↓reduceIte,reduceCtorEq])))<;>refine fin_bool ?_<;>simp_all<;>(try (intros;omega))
theorem szFinS_run (hL:Has F tLFin) (w:SlR 10 (Fl Fin.enc) h x xs fp) (left:Int) (h1:0≤left) (h2:left≤1048576):call F Z 129 [.c x,.c (.int .i64 left)] h=some (.c (.int .i64 (if left-xs.length<0 then -1 else left-xs.length)),h):=by
 have:=w.le2
 rw[call_run F Z (hL.lk (g:=129) rfl) _ _ rfl]
 simp only[rn,RO.dst,lk,drop,Nat.reduceBEq,Nat.reduceAdd,Nat.reduceLeDiff,↓reduceIte,reduceCtorEq,w.len,wrapI (left-xs.length) (by omega) (by omega)]
 (repeat' ((first | (rw[gF_if];split) | (rw[condC_if];split) | (rw[pickR_if];split))<;>(rename_i hh;(try simp only[Bool.not_eq_true,decide_eq_true_eq] at hh);simp only[hh,rn,RO.dst,lk,drop,Nat.reduceBEq,Nat.reduceAdd,Nat.reduceLeDiff,↓reduceIte,reduceCtorEq])))<;>simp_all
theorem szFinS_c (hL:Has F tLFin) (w:SlR 10 (Fl Fin.enc) h x xs fp) (left:Int) (h1:0≤left) (h2:left≤1048576): ∃r,call F Z 129 [.c x,.c (.int .i64 left)] h=some (.c (.int .i64 r),h)∧r≤left∧(0≤r→xs.length≤1048576):=
 ⟨_,szFinS_run hL w left h1 h2,by split<;>omega,by split<;>omega⟩
theorem toFinS_run (hL:Has F tLFin) (hf:h.floor≤h.next) (w:SlR 10 (Fl Fin.enc) h x xs fp) (hn:xs.length≤1048576):call F Z 131 [.c x] h=some (.c (.sl 9 h.next 0 xs.length),h.push (xs.map Fin.enc)):=by
 rw[call_run F Z (hL.lk (g:=131) rfl) _ _ rfl]
 simp only[rn,RO.dst,lk,drop,Nat.reduceBEq,Nat.reduceAdd,Nat.reduceLeDiff,↓reduceIte,reduceCtorEq,w.len]
 rw[if_pos (by omega)]
 simp only[rn,RO.dst,lk,drop,Nat.reduceBEq,Nat.reduceAdd,Nat.reduceLeDiff,↓reduceIte,reduceCtorEq,Int.toNat_natCast]
 have key:loop F Z [0,3,4] r131L0 ⟨[(0,.c x),(3,.c (.sl 9 h.next 0 xs.length)),(4,.c (.int .i64 (0:Nat)))],[],[],h.push (fillR Fin.enc Fin.zero xs 0)⟩=loop F Z [0,3,4] r131L0 ⟨[(0,.c x),(3,.c (.sl 9 h.next 0 xs.length)),(4,.c (.int .i64 (xs.length:Nat)))],[],[],h.push (fillR Fin.enc Fin.zero xs xs.length)⟩:=
  loop_goesF xs.length (fun i=>⟨[(0,.c x),(3,.c (.sl 9 h.next 0 xs.length)),(4,.c (.int .i64 (i:Nat)))],[],[],h.push (fillR Fin.enc Fin.zero xs i)⟩) fun i hi=>by
   have w':=w.mono (Fl.ok _) (HExt.push h (fillR Fin.enc Fin.zero xs i))
   have hlt:(i:Int)<xs.length:=by omega
   have h0:(0:Int)≤i:=by omega
   rw[loop_run]
   simp only[r131L0,rn,RO.dst,lk,drop,Nat.reduceBEq,Nat.reduceAdd,Nat.reduceLeDiff,↓reduceIte,reduceCtorEq,w.len,hlt,w.idx hi,w'.load hi,Fin.len,Fin.tak,toFin_run hL,h0,and_self,Int.toNat_natCast,storeP_push hf (fillR_get Fin.enc Fin.zero xs hi) (Fin.len xs[i]),wrapS i (by omega)]
   rw[←fillR_set Fin.enc Fin.zero xs hi]
 rw[fillR_0] at key
 rw[fillR_n] at key
 rw[show ((0:Nat):Int)=0 from rfl] at key
 simp only[Fin.zero] at key
 rw[key,loop_run]
 have hlt: ¬(xs.length:Int)<xs.length:=by omega
 simp only[r131L0,rn,RO.dst,lk,drop,Nat.reduceBEq,Nat.reduceAdd,Nat.reduceLeDiff,↓reduceIte,reduceCtorEq,w.len,hlt]
theorem toFinS_c (hL:Has F tLFin) (hf:h.floor≤h.next) (w:SlR 10 (Fl Fin.enc) h x xs fp) (hn:xs.length≤1048576): ∃y h' fq,call F Z 131 [.c x] h=some (.c y,h')∧On h h'∧SlR 9 (Fl Fin.enc) h' y xs fq∧Fre h fq:=
 ⟨_,_,_,toFinS_run hL hf w hn,On.push _ _,SlR.ofFlat w.le (push_get _ _) (by rw[push_next];omega),Fre.one h⟩
theorem eqFinS_run (hL:Has F tLFin) (w:SlR 9 (Fl Fin.enc) h x xs fp) (v:SlR 9 (Fl Fin.enc) h y ys fq):call F Z 134 [.c x,.c y] h=some (.c (.bool (decide (xs=ys))),h):=by
 have hw:=w.le2
 have hv:=v.le2
 rw[call_run F Z (hL.lk (g:=134) rfl) _ _ rfl]
 simp only[rn,RO.dst,lk,drop,Nat.reduceBEq,Nat.reduceAdd,Nat.reduceLeDiff,↓reduceIte,reduceCtorEq,w.len,v.len]
 rw[condC_if]
 split
 ·rename_i hne
  have:xs≠ys:=by rintro rfl;simp at hne
  simp only[rn,RO.dst,lk,drop,Nat.reduceBEq,Nat.reduceAdd,Nat.reduceLeDiff,↓reduceIte,reduceCtorEq,this]
 ·rename_i he
  have he:xs.length=ys.length:=by simp at he;omega
  simp only[rn,RO.dst,lk,drop,Nat.reduceBEq,Nat.reduceAdd,Nat.reduceLeDiff,↓reduceIte,reduceCtorEq]
  have key:=loop_allN (F:=F) (Z:=Z) (live:=[0,1,5]) (b:=r134L0) xs.length (fun i=>⟨[(0,.c x),(1,.c y),(5,.c (.int .i64 (i:Nat)))],[],[],h⟩) (fun i=>decide (xs[i]? =ys[i]?)) (fun s=>lk s.env 4=some (.c (.bool false))∧s.hp=h) fun i hi=>by
   have hi':i<ys.length:=by omega
   have hlt:(i:Int)<xs.length:=by omega
   rw[loop_run]
   simp only[r134L0,rn,RO.dst,lk,drop,Nat.reduceBEq,Nat.reduceAdd,Nat.reduceLeDiff,↓reduceIte,reduceCtorEq,w.len,hlt,w.idx hi,v.idx hi',w.load hi,v.load hi',Fin.len,Fin.tak,eqFin_run hL,wrapS i (by omega)]
   rw[List.getElem?_eq_getElem hi,List.getElem?_eq_getElem hi']
   (repeat' ((first | (rw[gF_if];split) | (rw[condC_if];split) | (rw[pickR_if];split))<;>(rename_i hh;(try simp only[Bool.not_eq_true,decide_eq_true_eq] at hh);simp only[hh,rn,RO.dst,lk,drop,Nat.reduceBEq,Nat.reduceAdd,Nat.reduceLeDiff,↓reduceIte,reduceCtorEq,wrapS i (by omega)])))
   ·exact .inr ⟨by simp_all,_,rfl,rfl,rfl⟩
   ·exact .inl ⟨by simp_all,rfl⟩
  rw[all_same he] at key
  rcases key with ⟨k1,k2⟩ | ⟨k1,s,k2,k3,k4⟩
  ·simp only[show ((0:Nat):Int)=0 from rfl] at k2
   rw[k2,loop_run]
   have hlt: ¬(xs.length:Int)<xs.length:=by omega
   simp only[r134L0,rn,RO.dst,lk,drop,Nat.reduceBEq,Nat.reduceAdd,Nat.reduceLeDiff,↓reduceIte,reduceCtorEq,w.len,hlt,k1]
  ·simp only[show ((0:Nat):Int)=0 from rfl] at k2
   rw[k2]
   simp only[rn,RO.dst,lk,drop,Nat.reduceBEq,Nat.reduceAdd,Nat.reduceLeDiff,↓reduceIte,reduceCtorEq,k3,k4,k1]
end
end Go.Proofs.Yteagcdhkobeanaa.A
namespace Go.Proofs.Yteagcdhkobeanaa.A
open Go
set_option linter.unusedSimpArgs false
set_option linter.unusedVariables false
structure Shard where
 lo:Int
 hi:Int
 state:Int
 epoch:Int
 book:Book
 finished:List Fin
 deriving DecidableEq
def Shard.RL:Rel Shard:=fun h cs t fp=> ∃x1 p1 x2 p2,cs=[.int .u64 t.lo,.int .u64 t.hi,.int .i64 t.state,.int .i64 t.epoch,x1,x2]∧fp=p1++p2∧SlR 12 (Fl Account.enc) h x1 t.book.list p1∧SlR 10 (Fl Fin.enc) h x2 t.finished p2
theorem Shard.okL:RelOk Shard.RL where
 lt:=by
  rintro h cs t fp ⟨x1,p1,x2,p2,rfl,rfl,w1,w2⟩ id hid
  simp only[List.mem_append] at hid
  rcases hid with hid | hid
  ·exact w1.lt (Fl.ok _) id hid
  ·exact w2.lt (Fl.ok _) id hid
 mv:=by
  rintro h h' cs t fp ⟨x1,p1,x2,p2,rfl,rfl,w1,w2⟩ hn hg
  exact ⟨x1,_,x2,_,rfl,rfl,w1.mv (Fl.ok _) hn fun id hid=>hg id (by simp[hid]),w2.mv (Fl.ok _) hn fun id hid=>hg id (by simp[hid])⟩
def Shard.RI:Rel Shard:=fun h cs t fp=> ∃x1 p1 x2 p2,cs=[.int .u64 t.lo,.int .u64 t.hi,.int .i64 t.state,.int .i64 t.epoch,x1,x2]∧fp=p1++p2∧SlR 11 (Fl Account.enc) h x1 t.book.list p1∧SlR 9 (Fl Fin.enc) h x2 t.finished p2
theorem Shard.okI:RelOk Shard.RI where
 lt:=by
  rintro h cs t fp ⟨x1,p1,x2,p2,rfl,rfl,w1,w2⟩ id hid
  simp only[List.mem_append] at hid
  rcases hid with hid | hid
  ·exact w1.lt (Fl.ok _) id hid
  ·exact w2.lt (Fl.ok _) id hid
 mv:=by
  rintro h h' cs t fp ⟨x1,p1,x2,p2,rfl,rfl,w1,w2⟩ hn hg
  exact ⟨x1,_,x2,_,rfl,rfl,w1.mv (Fl.ok _) hn fun id hid=>hg id (by simp[hid]),w2.mv (Fl.ok _) hn fun id hid=>hg id (by simp[hid])⟩
theorem Shard.lenL {h:Heap} {cs:List Cell} {t:Shard} {fp:List Nat} (v:Shard.RL h cs t fp):cs.length=6∧cs.take 6=cs∧cs.drop 6=[]:=by
 obtain ⟨x1,p1,x2,p2,rfl,_⟩:=v
 exact ⟨rfl,rfl,rfl⟩
theorem Shard.lenI {h:Heap} {cs:List Cell} {t:Shard} {fp:List Nat} (v:Shard.RI h cs t fp):cs.length=6∧cs.take 6=cs∧cs.drop 6=[]:=by
 obtain ⟨x1,p1,x2,p2,rfl,_⟩:=v
 exact ⟨rfl,rfl,rfl⟩
namespace Shard
structure Ok (t:Shard):Prop where
 lo:0≤t.lo∧t.lo≤18446744073709551615
 hi:0≤t.hi∧t.hi≤18446744073709551615
 state: -9223372036854775808≤t.state∧t.state≤9223372036854775807
 epoch: -9223372036854775808≤t.epoch∧t.epoch≤9223372036854775807
 book:t.book.Ok
 finished: ∀a,a∈t.finished→a.Ok
def Small (t:Shard):Prop:=t.book.Small∧t.finished.length≤1048576
end Shard
section
variable {F:Nat→Option RF} {Z:CallF} {h:Heap} {cs cs':List Cell} {t u:Shard} {fp fq:List Nat}
theorem szShard_c (hLShard:Has F tLShard) (hLBook:Has F tLBook) (hLAccount:Has F tLAccount) (hLFin:Has F tLFin) (v:Shard.RL h cs t fp) (left:Int) (h1:0≤left) (h2:left≤1048576): ∃r,call F Z 111 [.agg cs,.c (.int .i64 left)] h=some (.c (.int .i64 r),h)∧r≤left∧(0≤r→t.Small):=by
 obtain ⟨x1,p1,x2,p2,rfl,rfl,w1,w2⟩:=v
 rw[call_run F Z (hLShard.lk (g:=111) rfl) _ _ rfl]
 simp only[rn,RO.dst,lk,drop,Nat.reduceBEq,Nat.reduceAdd,Nat.reduceLeDiff,↓reduceIte,reduceCtorEq]
 obtain ⟨l0,s0,a0,b0⟩:=szBook_c (Z:=Z) hLBook hLAccount (⟨x1,_,rfl,rfl,w1⟩:Book.RL _ _ _ _) left (by omega) (by omega)
 simp only[rn,RO.dst,lk,drop,Nat.reduceBEq,Nat.reduceAdd,Nat.reduceLeDiff,↓reduceIte,reduceCtorEq,s0]
 by_cases n0:l0<0
 ·simp only[rn,RO.dst,lk,drop,Nat.reduceBEq,Nat.reduceAdd,Nat.reduceLeDiff,↓reduceIte,reduceCtorEq,n0]
  exact ⟨_,rfl,by omega,by omega⟩
 obtain ⟨l1,s1,a1,b1⟩:=szFinS_c (Z:=Z) hLFin w2 l0 (by omega) (by omega)
 simp only[rn,RO.dst,lk,drop,Nat.reduceBEq,Nat.reduceAdd,Nat.reduceLeDiff,↓reduceIte,reduceCtorEq,s1,n0]
 by_cases n1:l1<0
 ·simp only[rn,RO.dst,lk,drop,Nat.reduceBEq,Nat.reduceAdd,Nat.reduceLeDiff,↓reduceIte,reduceCtorEq,n1]
  exact ⟨_,rfl,by omega,by omega⟩
 simp only[rn,RO.dst,lk,drop,Nat.reduceBEq,Nat.reduceAdd,Nat.reduceLeDiff,↓reduceIte,reduceCtorEq,n1]
 exact ⟨_,rfl,by omega,fun _=>⟨b0 (by omega),b1 (by omega)⟩⟩
theorem toShard_c (hLShard:Has F tLShard) (hLBook:Has F tLBook) (hLAccount:Has F tLAccount) (hLFin:Has F tLFin) (hf:h.floor≤h.next) (v:Shard.RL h cs t fp) (sm:t.Small): ∃cs' h' fq,call F Z 112 [.agg cs] h=some (.agg cs',h')∧On h h'∧Shard.RI h' cs' t fq∧Fre h fq:=by
 obtain ⟨x1,p1,x2,p2,rfl,rfl,w1,w2⟩:=v
 obtain ⟨sm0,sm1⟩:=sm
 obtain ⟨_,g0,_,e0,o0,⟨y1,q1,rfl,rfl,u1⟩,r0⟩:=toBook_c (Z:=Z) hLBook hLAccount hf (⟨x1,_,rfl,rfl,w1⟩:Book.RL _ _ _ _) sm0
 replace w2:=w2.on (Fl.ok _) o0
 have f0:=o0.le hf
 obtain ⟨y2,g1,q2,e1,o1,u2,r1⟩:=toFinS_c (Z:=Z) hLFin f0 w2 sm1
 have v1:=u1
 replace u1:=u1.on (Fl.ok _) o1
 rw[call_run F Z (hLShard.lk (g:=112) rfl) _ _ rfl]
 simp only[rn,RO.dst,lk,drop,Nat.reduceBEq,Nat.reduceAdd,Nat.reduceLeDiff,↓reduceIte,reduceCtorEq,e0,e1]
 exact ⟨_,_,_,rfl,o0.trans o1,⟨y1,_,y2,_,rfl,rfl,u1,u2⟩,Fre.app r0 (Book.okI.lt (⟨y1,_,rfl,rfl,v1⟩:Book.RI g0 _ t.book _)) r1 o0.ext.1⟩
set_option maxHeartbeats 1000000 in
theorem eqShard_r (hLShard:Has F tLShard) (hLBook:Has F tLBook) (hLAccount:Has F tLAccount) (hLFin:Has F tLFin) (v:Shard.RI h cs t fp) (v':Shard.RI h cs' u fq):call F Z 114 [.agg cs,.agg cs'] h=some (.c (.bool (decide (t=u))),h):=by
 obtain ⟨x1,p1,x2,p2,rfl,rfl,w1,w2⟩:=v
 obtain ⟨x1',p1',x2',p2',rfl,rfl,w1',w2'⟩:=v'
 obtain ⟨lo1,hi1,state1,epoch1,book1,finished1⟩:=t
 obtain ⟨lo2,hi2,state2,epoch2,book2,finished2⟩:=u
 have e0:=eqBook_r (Z:=Z) hLBook hLAccount (⟨x1,_,rfl,rfl,w1⟩:Book.RI h _ book1 _) (⟨x1',_,rfl,rfl,w1'⟩:Book.RI h _ book2 _)
 have e1:=eqFinS_run (Z:=Z) hLFin w2 w2'
 clear w1 w1' w2 w2'
 rw[call_run F Z (hLShard.lk (g:=114) rfl) _ _ rfl]
 simp only[rn,RO.dst,lk,drop,Nat.reduceBEq,Nat.reduceAdd,Nat.reduceLeDiff,↓reduceIte,reduceCtorEq,e0,e1]
 (repeat' ((first | (rw[gF_if];split) | (rw[condC_if];split) | (rw[pickR_if];split))<;>(rename_i hh;(try simp only[Bool.not_eq_true,decide_eq_true_eq] at hh);simp only[hh,rn,RO.dst,lk,drop,Nat.reduceBEq,Nat.reduceAdd,Nat.reduceLeDiff,↓reduceIte,reduceCtorEq,e0,e1])))<;>clear e0 e1<;>refine fin_bool ?_<;>simp_all<;>(try (intros;omega))
end
end Go.Proofs.Yteagcdhkobeanaa.A
namespace Go.Proofs.Yteagcdhkobeanaa.A
open Go
set_option linter.unusedSimpArgs false
set_option linter.unusedVariables false
structure HandMsg where
 step:Int
 lo:Int
 to:Int
 epoch:Int
 shard:Shard
 deriving DecidableEq
def HandMsg.RL:Rel HandMsg:=fun h cs t fp=> ∃x1 p1 x2 p2,cs=[.int .i64 t.step,.int .u64 t.lo,.int .i64 t.to,.int .i64 t.epoch,.int .u64 t.shard.lo,.int .u64 t.shard.hi,.int .i64 t.shard.state,.int .i64 t.shard.epoch,x1,x2]∧fp=p1++p2∧SlR 12 (Fl Account.enc) h x1 t.shard.book.list p1∧SlR 10 (Fl Fin.enc) h x2 t.shard.finished p2
theorem HandMsg.okL:RelOk HandMsg.RL where
 lt:=by
  rintro h cs t fp ⟨x1,p1,x2,p2,rfl,rfl,w1,w2⟩ id hid
  simp only[List.mem_append] at hid
  rcases hid with hid | hid
  ·exact w1.lt (Fl.ok _) id hid
  ·exact w2.lt (Fl.ok _) id hid
 mv:=by
  rintro h h' cs t fp ⟨x1,p1,x2,p2,rfl,rfl,w1,w2⟩ hn hg
  exact ⟨x1,_,x2,_,rfl,rfl,w1.mv (Fl.ok _) hn fun id hid=>hg id (by simp[hid]),w2.mv (Fl.ok _) hn fun id hid=>hg id (by simp[hid])⟩
def HandMsg.RI:Rel HandMsg:=fun h cs t fp=> ∃x1 p1 x2 p2,cs=[.int .i64 t.step,.int .u64 t.lo,.int .i64 t.to,.int .i64 t.epoch,.int .u64 t.shard.lo,.int .u64 t.shard.hi,.int .i64 t.shard.state,.int .i64 t.shard.epoch,x1,x2]∧fp=p1++p2∧SlR 11 (Fl Account.enc) h x1 t.shard.book.list p1∧SlR 9 (Fl Fin.enc) h x2 t.shard.finished p2
theorem HandMsg.okI:RelOk HandMsg.RI where
 lt:=by
  rintro h cs t fp ⟨x1,p1,x2,p2,rfl,rfl,w1,w2⟩ id hid
  simp only[List.mem_append] at hid
  rcases hid with hid | hid
  ·exact w1.lt (Fl.ok _) id hid
  ·exact w2.lt (Fl.ok _) id hid
 mv:=by
  rintro h h' cs t fp ⟨x1,p1,x2,p2,rfl,rfl,w1,w2⟩ hn hg
  exact ⟨x1,_,x2,_,rfl,rfl,w1.mv (Fl.ok _) hn fun id hid=>hg id (by simp[hid]),w2.mv (Fl.ok _) hn fun id hid=>hg id (by simp[hid])⟩
theorem HandMsg.lenL {h:Heap} {cs:List Cell} {t:HandMsg} {fp:List Nat} (v:HandMsg.RL h cs t fp):cs.length=10∧cs.take 10=cs∧cs.drop 10=[]:=by
 obtain ⟨x1,p1,x2,p2,rfl,_⟩:=v
 exact ⟨rfl,rfl,rfl⟩
theorem HandMsg.lenI {h:Heap} {cs:List Cell} {t:HandMsg} {fp:List Nat} (v:HandMsg.RI h cs t fp):cs.length=10∧cs.take 10=cs∧cs.drop 10=[]:=by
 obtain ⟨x1,p1,x2,p2,rfl,_⟩:=v
 exact ⟨rfl,rfl,rfl⟩
namespace HandMsg
structure Ok (t:HandMsg):Prop where
 step: -9223372036854775808≤t.step∧t.step≤9223372036854775807
 lo:0≤t.lo∧t.lo≤18446744073709551615
 to: -9223372036854775808≤t.to∧t.to≤9223372036854775807
 epoch: -9223372036854775808≤t.epoch∧t.epoch≤9223372036854775807
 shard:t.shard.Ok
def Small (t:HandMsg):Prop:=t.shard.Small
end HandMsg
theorem Wf.isHandMsg {h:Heap} {n:Nat} {cs:List Cell} (w:Wf h (n+6) shHandMsg cs): ∃t fp,HandMsg.RL h cs t fp∧t.Ok:=by
 obtain ⟨_,_,rfl,_,⟨i1,rfl,j1⟩,_,_,rfl,_,⟨i2,rfl,j2⟩,_,_,rfl,_,⟨i3,rfl,j3⟩,_,_,rfl,_,⟨i4,rfl,j4⟩,_,_,rfl,_,⟨_,_,rfl,_,⟨i5,rfl,j5⟩,_,_,rfl,_,⟨i6,rfl,j6⟩,_,_,rfl,_,⟨i7,rfl,j7⟩,_,_,rfl,_,⟨i8,rfl,j8⟩,_,_,rfl,_,⟨_,_,rfl,_,m9,rfl⟩,_,_,rfl,_,m10,rfl⟩,rfl⟩:=w
 obtain ⟨x1,l1,p1,rfl,w1,o1⟩:=Wf.isAccountS' m9
 obtain ⟨x2,l2,p2,rfl,w2,o2⟩:=Wf.isFinS' m10
 exact ⟨⟨i1,i2,i3,i4,⟨i5,i6,i7,i8,⟨l1⟩,l2⟩⟩,_,⟨x1,_,x2,_,rfl,rfl,w1,w2⟩,⟨wfI j1,wfU j2,wfI j3,wfI j4,⟨wfU j5,wfU j6,wfI j7,wfI j8,⟨o1⟩,o2⟩⟩⟩
section
variable {F:Nat→Option RF} {Z:CallF} {h:Heap} {cs cs':List Cell} {t u:HandMsg} {fp fq:List Nat}
theorem szHandMsg_c (hLHandMsg:Has F tLHandMsg) (hLShard:Has F tLShard) (hLBook:Has F tLBook) (hLAccount:Has F tLAccount) (hLFin:Has F tLFin) (v:HandMsg.RL h cs t fp) (left:Int) (h1:0≤left) (h2:left≤1048576): ∃r,call F Z 82 [.agg cs,.c (.int .i64 left)] h=some (.c (.int .i64 r),h)∧r≤left∧(0≤r→t.Small):=by
 obtain ⟨x1,p1,x2,p2,rfl,rfl,w1,w2⟩:=v
 rw[call_run F Z (hLHandMsg.lk (g:=82) rfl) _ _ rfl]
 simp only[rn,RO.dst,lk,drop,Nat.reduceBEq,Nat.reduceAdd,Nat.reduceLeDiff,↓reduceIte,reduceCtorEq]
 obtain ⟨l0,s0,a0,b0⟩:=szShard_c (Z:=Z) hLShard hLBook hLAccount hLFin (⟨x1,_,x2,_,rfl,rfl,w1,w2⟩:Shard.RL _ _ _ _) left (by omega) (by omega)
 simp only[rn,RO.dst,lk,drop,Nat.reduceBEq,Nat.reduceAdd,Nat.reduceLeDiff,↓reduceIte,reduceCtorEq,s0]
 by_cases n0:l0<0
 ·simp only[rn,RO.dst,lk,drop,Nat.reduceBEq,Nat.reduceAdd,Nat.reduceLeDiff,↓reduceIte,reduceCtorEq,n0]
  exact ⟨_,rfl,by omega,by omega⟩
 simp only[rn,RO.dst,lk,drop,Nat.reduceBEq,Nat.reduceAdd,Nat.reduceLeDiff,↓reduceIte,reduceCtorEq,n0]
 exact ⟨_,rfl,by omega,fun _=>b0 (by omega)⟩
theorem toHandMsg_c (hLHandMsg:Has F tLHandMsg) (hLShard:Has F tLShard) (hLBook:Has F tLBook) (hLAccount:Has F tLAccount) (hLFin:Has F tLFin) (hf:h.floor≤h.next) (v:HandMsg.RL h cs t fp) (sm:t.Small): ∃cs' h' fq,call F Z 83 [.agg cs] h=some (.agg cs',h')∧On h h'∧HandMsg.RI h' cs' t fq∧Fre h fq:=by
 obtain ⟨x1,p1,x2,p2,rfl,rfl,w1,w2⟩:=v
 have sm0:=sm
 obtain ⟨_,g0,_,e0,o0,⟨y1,q1,y2,q2,rfl,rfl,u1,u2⟩,r0⟩:=toShard_c (Z:=Z) hLShard hLBook hLAccount hLFin hf (⟨x1,_,x2,_,rfl,rfl,w1,w2⟩:Shard.RL _ _ _ _) sm0
 rw[call_run F Z (hLHandMsg.lk (g:=83) rfl) _ _ rfl]
 simp only[rn,RO.dst,lk,drop,Nat.reduceBEq,Nat.reduceAdd,Nat.reduceLeDiff,↓reduceIte,reduceCtorEq,e0]
 exact ⟨_,_,_,rfl,o0,⟨y1,_,y2,_,rfl,rfl,u1,u2⟩,r0⟩
set_option maxHeartbeats 1000000 in
theorem eqHandMsg_r (hLHandMsg:Has F tLHandMsg) (hLShard:Has F tLShard) (hLBook:Has F tLBook) (hLAccount:Has F tLAccount) (hLFin:Has F tLFin) (v:HandMsg.RI h cs t fp) (v':HandMsg.RI h cs' u fq):call F Z 87 [.agg cs,.agg cs'] h=some (.c (.bool (decide (t=u))),h):=by
 obtain ⟨x1,p1,x2,p2,rfl,rfl,w1,w2⟩:=v
 obtain ⟨x1',p1',x2',p2',rfl,rfl,w1',w2'⟩:=v'
 obtain ⟨step1,lo1,to1,epoch1,shard1⟩:=t
 obtain ⟨step2,lo2,to2,epoch2,shard2⟩:=u
 have e0:=eqShard_r (Z:=Z) hLShard hLBook hLAccount hLFin (⟨x1,_,x2,_,rfl,rfl,w1,w2⟩:Shard.RI h _ shard1 _) (⟨x1',_,x2',_,rfl,rfl,w1',w2'⟩:Shard.RI h _ shard2 _)
 clear w1 w1' w2 w2'
 rw[call_run F Z (hLHandMsg.lk (g:=87) rfl) _ _ rfl]
 simp only[rn,RO.dst,lk,drop,Nat.reduceBEq,Nat.reduceAdd,Nat.reduceLeDiff,↓reduceIte,reduceCtorEq,e0]
 (repeat' ((first | (rw[gF_if];split) | (rw[condC_if];split) | (rw[pickR_if];split))<;>(rename_i hh;(try simp only[Bool.not_eq_true,decide_eq_true_eq] at hh);simp only[hh,rn,RO.dst,lk,drop,Nat.reduceBEq,Nat.reduceAdd,Nat.reduceLeDiff,↓reduceIte,reduceCtorEq,e0])))<;>clear e0<;>refine fin_bool ?_<;>simp_all<;>(try (intros;omega))
end
end Go.Proofs.Yteagcdhkobeanaa.A
namespace Go.Proofs.Yteagcdhkobeanaa.A
open Go
set_option linter.unusedSimpArgs false
set_option linter.unusedVariables false
theorem Hand.drp (h:Hand):h.enc.drop 5=[]:=rfl
def Hand.ok (h:Hand):Bool:=handOk h.lo h.from_ h.to h.epoch h.phase
def Hand.sends (h:Hand):Int:=if h.phase=1 then h.epoch+1 else h.epoch
def Hand.done (h:Hand) (step lo epoch:Int):Hand×Bool:=if h.ok=true∧h.phase≠3∧step=h.phase∧lo=h.lo∧epoch=h.sends then ({h with phase:=h.phase+1},true) else (h,false)
def handEp (d e:Int):Int:=if e=1 then IntKind.i64.wrap (d+1) else d
section
variable {F:Nat→Option RF} {Z:CallF} {h:Heap} {cs:List Cell} {fp:List Nat} {m:HandMsg}
theorem toHand_e (hL:Has F tLHand) (a:Hand) (h:Heap):call F Z 2 [.agg a.enc] h=some (.agg a.enc,h):=toHand_run hL _ _ _ _ _ h
theorem handEpoch_run (hI15:Has F tI15) (a b c d e:Int) (h:Heap):call F Z 132 [.agg [.int .u64 a,.int .i64 b,.int .i64 c,.int .i64 d,.int .i64 e]] h=some (.c (.int .i64 (handEp d e)),h):=by
 rw[call_run F Z (hI15.lk (g:=132) rfl) _ _ rfl]
 simp only[rn,RO.dst,lk,drop,Nat.reduceBEq,Nat.reduceAdd,Nat.reduceLeDiff,↓reduceIte,reduceCtorEq]
 (repeat' ((first | (rw[gF_if];split) | (rw[condC_if];split) | (rw[pickR_if];split))<;>(rename_i hh;(try simp only[Bool.not_eq_true,decide_eq_true_eq] at hh);simp only[hh,rn,RO.dst,lk,drop,Nat.reduceBEq,Nat.reduceAdd,Nat.reduceLeDiff,↓reduceIte,reduceCtorEq])))<;>simp_all[handEp]
set_option maxHeartbeats 4000000 in
theorem handDone_run (hI11:Has F tI11) (hI15:Has F tI15) (a:Hand) (v:HandMsg.RI h cs m fp):call F Z 113 [.agg a.enc,.agg cs] h=some (.tup [.agg (a.done m.step m.lo m.epoch).1.enc,.c (.bool (a.done m.step m.lo m.epoch).2)],h):=by
 obtain ⟨x1,p1,x2,p2,rfl,rfl,w1,w2⟩:=v
 obtain ⟨lo,fr,to,ep,ph⟩:=a
 have hw:handOk lo fr to ep ph=true→IntKind.i64.wrap (ep+1)=ep+1∧IntKind.i64.wrap (ph+1)=ph+1:=fun hk=>by
  simp only[handOk,inR,Bool.and_eq_true,decide_eq_true_eq] at hk
  exact ⟨wrapI _ (by omega) (by omega),wrapI _ (by omega) (by omega)⟩
 rw[call_run F Z (hI15.lk (g:=113) rfl) _ _ rfl]
 simp only[Hand.enc,rn,RO.dst,lk,drop,Nat.reduceBEq,Nat.reduceAdd,Nat.reduceLeDiff,↓reduceIte,reduceCtorEq,isHand_run hI11 hI15,handEpoch_run hI15]
 clear w1 w2
 (repeat' ((first | (rw[gF_if];split) | (rw[condC_if];split) | (rw[pickR_if];split))<;>(rename_i hh;(try simp only[Bool.not_eq_true,decide_eq_true_eq] at hh);simp only[hh,rn,RO.dst,lk,drop,Nat.reduceBEq,Nat.reduceAdd,Nat.reduceLeDiff,↓reduceIte,reduceCtorEq,isHand_run hI11 hI15,handEpoch_run hI15])))
 all_goals clear hI11 hI15
 all_goals first
  | (simp_all[Hand.done,Hand.ok,Hand.sends,Hand.enc];done)
  | (simp_all[Hand.done,Hand.ok,Hand.sends,Hand.enc,handEp];done)
  | (simp_all[Hand.done,Hand.ok,Hand.sends,Hand.enc,handEp];split<;>simp_all;done)
theorem HandDone_c (hI11:Has F tI11) (hI15:Has F tI15) (hf:h.floor≤h.next) (a:Hand) (v:HandMsg.RI h cs m fp): ∃h',call F Z 85 [.agg a.enc,.agg cs] h=some (.tup [.agg (a.done m.step m.lo m.epoch).1.enc,.c (.bool (a.done m.step m.lo m.epoch).2)],h')∧On h h':=by
 obtain ⟨l1,l2,l3⟩:=HandMsg.lenI v
 refine ⟨h,?_,On.refl h⟩
 rw[call_run F Z (hI15.lk (g:=85) rfl) _ _ rfl]
 simp only[rn,RO.dst,lk,drop,Nat.reduceBEq,Nat.reduceAdd,Nat.reduceLeDiff,↓reduceIte,reduceCtorEq,Hand.len,Hand.tak,Hand.drp,l1,l2,l3,handDone_run hI11 hI15 a v]
set_option maxHeartbeats 4000000 in
theorem sHandDone_c (hS:Has F tS01d) (hS15:Has F tS15) (hf:h.floor≤h.next) (a:Hand) (v:HandMsg.RI h cs m fp): ∃h',call F Z 84 [.agg a.enc,.agg cs] h=some (.tup [.agg (a.done m.step m.lo m.epoch).1.enc,.c (.bool (a.done m.step m.lo m.epoch).2)],h')∧On h h':=by
 obtain ⟨x1,p1,x2,p2,rfl,rfl,w1,w2⟩:=v
 obtain ⟨lo,fr,to,ep,ph⟩:=a
 have hw:handOk lo fr to ep ph=true→IntKind.i64.wrap (ep+1)=ep+1∧IntKind.i64.wrap (ph+1)=ph+1:=fun hk=>by
  simp only[handOk,inR,Bool.and_eq_true,decide_eq_true_eq] at hk
  exact ⟨wrapI _ (by omega) (by omega),wrapI _ (by omega) (by omega)⟩
 refine ⟨h,?_,On.refl h⟩
 rw[call_run F Z (hS15.lk (g:=84) rfl) _ _ rfl]
 simp only[Hand.enc,rn,RO.dst,lk,drop,Nat.reduceBEq,Nat.reduceAdd,Nat.reduceLeDiff,↓reduceIte,reduceCtorEq,sHandOk_run hS hS15]
 clear w1 w2
 (repeat' ((first | (rw[gF_if];split) | (rw[condC_if];split) | (rw[pickR_if];split))<;>(rename_i hh;(try simp only[Bool.not_eq_true,decide_eq_true_eq] at hh);simp only[hh,rn,RO.dst,lk,drop,Nat.reduceBEq,Nat.reduceAdd,Nat.reduceLeDiff,↓reduceIte,reduceCtorEq,sHandOk_run hS hS15])))
 all_goals clear hS hS15
 all_goals first
  | (simp_all[Hand.done,Hand.ok,Hand.sends,Hand.enc];done)
  | (simp_all[Hand.done,Hand.ok,Hand.sends,Hand.enc];intros;omega)
end
end Go.Proofs.Yteagcdhkobeanaa.A
namespace Go.Proofs.Yteagcdhkobeanaa.A
open Go
set_option linter.unusedSimpArgs false
set_option linter.unusedVariables false
theorem On.up (h:Heap):On h {h with floor:=h.floor}:=⟨⟨Nat.le_refl _,fun _ _=>rfl⟩,rfl⟩
theorem SlR.up {α:Type} {R:Rel α} {tag:Nat} {h:Heap} {x:Cell} {xs:List α} {fp:List Nat} (w:SlR tag R h x xs fp) (ok:RelOk R) (n:Nat):SlR tag R {h with floor:=n} x xs fp:=w.mv ok (Nat.le_refl _) fun _ _=>rfl
theorem RelOk.up {α:Type} {R:Rel α} (ok:RelOk R) {h:Heap} {cs:List Cell} {a:α} {fp:List Nat} (w:R h cs a fp) (n:Nat):R ⟨h.next,n,h.get⟩ cs a fp:=ok.mv w (Nat.le_refl _) fun _ _=>rfl
end Go.Proofs.Yteagcdhkobeanaa.A
